/-
  HELPERS of the claim: part 1 of its texts.
-/
import Derived.WalkKit
import Derived.ProofKit
noncomputable section
set_option linter.unusedVariables false
set_option linter.unusedSimpArgs false
namespace Go.Eng
structure Tgt where
 block:Nat
 shift:Nat
 room:Nat
 unit:Nat
abbrev Ren:=Nat→Option Tgt
inductive VRel (ρ : Ren):Value→Value→Prop where
 | bool (b:Bool):VRel ρ (.bool b) (.bool b)
 | int (k:IntKind) (n:Int):VRel ρ (.int k n) (.int k n)
 | str (s:ByteArray):VRel ρ (.string s) (.string s)
 | pnil:VRel ρ (.pointer none) (.pointer none)
 | ptr (id off:Nat) (t:Tgt) (h : ρ id=some t):VRel ρ (.pointer (some ⟨id,off,none⟩)) (.pointer (some ⟨t.block,t.shift+off,none⟩))
 | snil:VRel ρ (.slice none 0 0) (.slice none 0 0)
 | slc (id off n c:Nat) (t:Tgt) (h : ρ id=some t) (hc:n≤c) (hm:c≤maxLen) (hr:t.unit=0∨off+c * t.unit≤t.room) :
   VRel ρ (.slice (some ⟨id,off,none⟩) n 0) (.slice (some ⟨t.block,t.shift+off,none⟩) n c)
 | tail (id off c:Nat) (a:Addr):VRel ρ (.slice (some ⟨id,off,none⟩) 0 1) (.slice (some a) 0 c)
 | fnil:VRel ρ .nilFunc .nilFunc
 | inil:VRel ρ .nilIface .nilIface
 | iface (t:TypeId) (x y:Value) (h:VRel ρ x y):VRel ρ (.iface t x) (.iface t y)
 | func (f:Fn) (a b c d:Array Value) (h1:a.size=b.size) (h2:∀ (i:Nat) x y,a[i]? = some x→b[i]? = some y→VRel ρ x y)
   (h3:c.size=d.size) (h4:∀ (i:Nat) x y,c[i]? = some x→d[i]? = some y→VRel ρ x y):VRel ρ (.func f a c) (.func f b d)
 | agg (a b:Array Value) (h1:a.size=b.size) (h2:∀ (i:Nat) x y,a[i]? = some x→b[i]? = some y→VRel ρ x y):VRel ρ (.agg a) (.agg b)
 | tup (a b:Array Value) (h1:a.size=b.size) (h2:∀ (i:Nat) x y,a[i]? = some x→b[i]? = some y→VRel ρ x y):VRel ρ (.tuple a) (.tuple b)
def ARel (ρ : Ren) (a b:Array Value):Prop:=a.size=b.size∧∀ (i:Nat) x y,a[i]? = some x→b[i]? = some y→VRel ρ x y
def Ren.le (ρ ρ':Ren):Prop:=∀ id t, ρ id=some t → ρ' id=some t
theorem Ren.le_refl (ρ : Ren) : ρ.le ρ := fun _ _ h=>h
theorem Ren.le_trans {a b c:Ren} (h:a.le b) (k:b.le c):a.le c:=fun id t e=>k id t (h id t e)
theorem VRel.mono {ρ ρ':Ren} (hl : ρ.le ρ') {v v':Value} (h:VRel ρ v v'):VRel ρ' v v':=by
 induction h with
 | bool b=>exact .bool b
 | int k n=>exact .int k n
 | str s=>exact .str s
 | pnil=>exact .pnil
 | ptr id off t h=>exact .ptr id off t (hl _ _ h)
 | snil=>exact .snil
 | slc id off n c t h hc hm hr=>exact .slc id off n c t (hl _ _ h) hc hm hr
 | tail id off c a=>exact .tail id off c a
 | fnil=>exact .fnil
 | inil=>exact .inil
 | iface t x y _ ih=>exact .iface t x y ih
 | func f a b c d h1 _ h3 _ ih1 ih2=>exact .func f a b c d h1 ih1 h3 ih2
 | agg a b h1 _ ih=>exact .agg a b h1 ih
 | tup a b h1 _ ih=>exact .tup a b h1 ih
theorem ARel.get {ρ : Ren} {a b:Array Value} (h:ARel ρ a b) {i:Nat} {x:Value} (hx:a[i]? = some x):∃ y,b[i]? = some y∧VRel ρ x y:=by
 have hi:i<a.size:=(Array.getElem?_eq_some_iff.1 hx).1
 have hi':i<b.size:=h.1▸hi
 exact ⟨b[i],by simp [hi'],h.2 i x _ hx (by simp [hi'])⟩
section inv
variable {ρ : Ren} {v:Value}
theorem VRel.bool_inv {b:Bool} (h:VRel ρ (.bool b) v):v=.bool b:=by cases h;rfl
theorem VRel.int_inv {k:IntKind} {n:Int} (h:VRel ρ (.int k n) v):v=.int k n:=by cases h;rfl
theorem VRel.str_inv {s:ByteArray} (h:VRel ρ (.string s) v):v=.string s:=by cases h;rfl
theorem VRel.ptr_inv {id off:Nat} {s:Option Nat} (h:VRel ρ (.pointer (some ⟨id,off,s⟩)) v):s=none∧∃ t, ρ id=some t∧v=.pointer (some ⟨t.block,t.shift+off,none⟩):=by
 cases h with
 | ptr _ _ t h=>exact ⟨rfl,t,h,rfl⟩
theorem VRel.agg_inv {a:Array Value} (h:VRel ρ (.agg a) v):∃ b,v=.agg b∧ARel ρ a b:=by
 cases h with
 | agg _ b h1 h2=>exact ⟨b,rfl,h1,h2⟩
theorem VRel.tup_inv {a:Array Value} (h:VRel ρ (.tuple a) v):∃ b,v=.tuple b∧ARel ρ a b:=by
 cases h with
 | tup _ b h1 h2=>exact ⟨b,rfl,h1,h2⟩
theorem VRel.func_inv {f:Fn} {a c:Array Value} (h:VRel ρ (.func f a c) v):∃ b d,v=.func f b d∧ARel ρ a b∧ARel ρ c d:=by
 cases h with
 | func _ _ b _ d h1 h2 h3 h4=>exact ⟨b,d,rfl,⟨h1,h2⟩,⟨h3,h4⟩⟩
theorem VRel.mkAgg {a b:Array Value} (h:ARel ρ a b):VRel ρ (.agg a) (.agg b):=.agg a b h.1 h.2
theorem VRel.mkTup {a b:Array Value} (h:ARel ρ a b):VRel ρ (.tuple a) (.tuple b):=.tup a b h.1 h.2
end inv
theorem VRel.one {ρ : Ren} {v v':Value} (h:VRel ρ v v'):v'.oneCell'=v.oneCell':=by cases h <;> rfl
theorem VRel.cells {ρ : Ren} {v v':Value} (h:VRel ρ v v'):ARel ρ v.cells v'.cells:=by
 have key:∀ (x y:Value),VRel ρ x y→ARel ρ #[x] #[y]:=fun x y hxy=>⟨rfl,fun i a b ha hb=>by
  cases i with
  | zero=>simp at ha hb;subst ha hb;exact hxy
  | succ i=>simp at ha⟩
 cases h with
 | agg a b h1 h2=>exact ⟨h1,h2⟩
 | _=>refine key _ _ ?_;constructor <;> assumption
def scal:Value→Bool
 | .bool _ | .int .. | .string _ | .pointer none | .nilFunc | .nilIface=>true
 | .slice none 0 0=>true
 | _=>false
def flat:Value→Bool
 | .agg a | .tuple a=>a.all scal
 | v=>scal v
theorem VRel.of_scal {ρ : Ren} {v:Value} (h:scal v=true):VRel ρ v v:=by
 unfold scal at h
 split at h <;> first | (constructor;done) | (cases h;done)
theorem arel_of_scal {ρ : Ren} {a:Array Value} (h:a.all scal=true):ARel ρ a a:=by
 refine ⟨rfl,fun i x y hx hy=>?_⟩
 rw [hx] at hy;cases hy
 rw [Array.all_eq_true'] at h
 exact VRel.of_scal (h x (Array.mem_of_getElem? hx))
theorem VRel.of_flat {ρ : Ren} {v:Value} (h:flat v=true):VRel ρ v v:=by
 unfold flat at h
 split at h
 ·exact .mkAgg (arel_of_scal h)
 ·exact .mkTup (arel_of_scal h)
 ·exact .of_scal h
structure Blk where
 unit:Nat
 own:Bool
 cells:List Value
abbrev Hp:=Nat→Option Blk
def Hp.upd (H:Hp) (id:Nat) (b:Blk):Hp:=fun j=>if j=id then some b else H j
def Hp.del (H:Hp) (id:Nat):Hp:=fun j=>if j=id then none else H j
def Ren.upd (ρ : Ren) (id:Nat) (t:Tgt):Ren:=fun j=>if j=id then some t else ρ j
theorem Ren.le_upd {ρ : Ren} {id:Nat} {t:Tgt} (h : ρ id=none) : ρ.le (ρ.upd id t):=fun j u hj=>by
 unfold Ren.upd
 by_cases e:j=id
 ·subst e;rw [h] at hj;cases hj
 ·simp [e,hj]
theorem Ren.upd_same (ρ : Ren) (id:Nat) (t:Tgt):(ρ.upd id t) id=some t:=by simp [Ren.upd]
def CRel (ρ : Ren) (cells:List Value) (c:Array Value) (shift:Nat):Prop :=
 ∀ (i:Nat) v,cells[i]? = some v→v.oneCell'=true∧∃ v',c[shift+i]? = some v'∧VRel ρ v v'
def BRel (ρ : Ren) (b:Blk) (t:Tgt) (w:World):Prop :=
 ∃ c e fr,w.heap[t.block]? = some (.cells c e fr)∧t.shift+t.room=c.size∧b.cells.length≤t.room∧t.unit=b.unit∧CRel ρ b.cells c t.shift ∧
  (b.own=true→fr=(0,0)∧t.shift=0)
structure Rep (ρ : Ren) (H:Hp) (w:World):Prop where
 blk:∀ id b,H id=some b→∃ t, ρ id=some t∧BRel ρ b t w
 sep:∀ i j bi bj ti tj,H i=some bi→H j=some bj→i≠j → ρ i=some ti → ρ j=some tj→bi.own=true→ti.block≠tj.block
theorem CRel.mono {ρ ρ':Ren} (hl : ρ.le ρ') {cells:List Value} {c:Array Value} {s:Nat} (h:CRel ρ cells c s):CRel ρ' cells c s :=
 fun i v hv=>let ⟨h1,v',h2,h3⟩:=h i v hv;⟨h1,v',h2,h3.mono hl⟩
theorem BRel.mono {ρ ρ':Ren} (hl : ρ.le ρ') {b:Blk} {t:Tgt} {w:World} (h:BRel ρ b t w):BRel ρ' b t w :=
 let ⟨c,e,fr,h1,h2,h3,h4,h5,h6⟩:=h;⟨c,e,fr,h1,h2,h3,h4,h5.mono hl,h6⟩
theorem BRel.world {ρ : Ren} {b:Blk} {t:Tgt} {w w':World} (h:BRel ρ b t w) (he:w'.heap[t.block]? = w.heap[t.block]?):BRel ρ b t w' :=
 let ⟨c,e,fr,h1,h2⟩:=h;⟨c,e,fr,he.trans h1,h2⟩
theorem BRel.lt {ρ : Ren} {b:Blk} {t:Tgt} {w:World} (h:BRel ρ b t w):t.block<w.heap.size :=
 let ⟨_,_,_,h1,_⟩:=h;(Array.getElem?_eq_some_iff.1 h1).1
structure Ext (ρ : Ren) (H:Hp) (w:World) (ρ':Ren) (H':Hp) (w':World):Prop where
 le : ρ.le ρ'
 os:w'.os=w.os
 tape:w'.tape=w.tape
 output:w'.output=w.output
 size:w.heap.size≤w'.heap.size
 keep:∀ k,k<w.heap.size→(∀ id b t,H id=some b→b.own=true → ρ id=some t→t.block≠k)→w'.heap[k]? = w.heap[k]?
 mine:∀ id b t,H' id=some b → ρ' id=some t→w.heap.size≤t.block∨∃ i b0 t0,H i=some b0∧(b.own=true→b0.own=true) ∧ ρ i=some t0∧t0.block=t.block
theorem Ext.refl (ρ : Ren) (H:Hp) (w:World):Ext ρ H w ρ H w :=
 ⟨Ren.le_refl _,rfl,rfl,rfl,Nat.le_refl _,fun _ _ _=>rfl,fun id b t h1 h3=>.inr ⟨id,b,t,h1,fun h=>h,h3,rfl⟩⟩
theorem Ext.trans {ρ ρ' ρ'':Ren} {H H' H'':Hp} {w w' w'':World} (h:Ext ρ H w ρ' H' w') (k:Ext ρ' H' w' ρ'' H'' w''):Ext ρ H w ρ'' H'' w'' where
 le:=Ren.le_trans h.le k.le
 os:=k.os.trans h.os
 tape:=k.tape.trans h.tape
 output:=k.output.trans h.output
 size:=Nat.le_trans h.size k.size
 keep:=fun n hn hno=>by
  rw [k.keep n (Nat.lt_of_lt_of_le hn h.size) ?_,h.keep n hn hno]
  intro id b t h1 h2 h3 h4
  rcases h.mine id b t h1 h3 with h5 | ⟨i,b0,t0,e1,e2,e3,e4⟩
  ·omega
  ·exact hno i b0 t0 e1 (e2 h2) e3 (e4.trans h4)
 mine:=fun id b t h1 h3=>by
  rcases k.mine id b t h1 h3 with h5 | ⟨i,b0,t0,e1,e2,e3,e4⟩
  ·exact .inl (Nat.le_trans h.size h5)
  ·rcases h.mine i b0 t0 e1 e3 with h5 | ⟨i',b',t',f1,f2,f3,f4⟩
   ·exact .inl (e4▸h5)
   ·exact .inr ⟨i',b',t',f1,fun ho=>f2 (e2 ho),f3,f4.trans e4⟩
theorem Ext.below {ρ ρ':Ren} {H H':Hp} {w w':World} (h:Ext ρ H w ρ' H' w') (hn:∀ id b,H id=some b→b.own=false):RowKit.Below w.heap.size w w' :=
 ⟨h.os,h.tape,h.output,h.size,fun k hk=>h.keep k hk fun id b t h1 h2 _=>by rw [hn id b h1] at h2;cases h2⟩
end Go.Eng
set_option linter.unusedVariables false
set_option linter.unusedSimpArgs false
namespace Go.Eng
inductive Opd where
 | t (n:Nat)
 | k (v:Value)
 | f (n:Nat)
abbrev Tm:=Nat→Value
def Opd.ev (T:Tm):Opd→Value
 | .t n=>T n
 | .k v=>v
 | .f n=>.func (.func n) #[] #[]
def Tm.upd (T:Tm) (d:Nat) (v:Value):Tm:=fun j=>if j=d then v else T j
def opd:Operand→Option Opd
 | .tmp t=>some (.t t)
 | .const v=>if flat v then some (.k v) else none
 | .func f=>some (.f f)
 | .global _=>none
def opdL:List Operand→Option (List Opd)
 | []=>some []
 | x :: r=>match opd x,opdL r with
  | some y,some s=>some (y :: s)
  | _,_=>none
def TRel (ρ : Ren) (T:Tm) (a:Act):Prop:=∀ t,VRel ρ (T t) (a.tmps.getD t undef)
theorem TRel.mono {ρ ρ':Ren} (hl : ρ.le ρ') {T:Tm} {a:Act} (h:TRel ρ T a):TRel ρ' T a:=fun t=>(h t).mono hl
theorem opd_sound {ρ : Ren} {T:Tm} {a:Act} (hT:TRel ρ T a) {o:Operand} {x:Opd} (h:opd o=some x):VRel ρ (x.ev T) (a.eval o):=by
 cases o with
 | tmp t=>simp only [opd,Option.some.injEq] at h;subst h;exact hT t
 | const v =>
  simp only [opd] at h
  split at h
  ·rename_i hf;cases h;exact .of_flat hf
  ·cases h
 | func f=>simp only [opd,Option.some.injEq] at h;subst h;exact .func _ _ _ _ _ rfl (by simp) rfl (by simp)
 | global g=>cases h
theorem opdL_sound {ρ : Ren} {T:Tm} {a:Act} (hT:TRel ρ T a):∀ {os:List Operand} {xs:List Opd},opdL os=some xs →
  ARel ρ (xs.map (Opd.ev T)).toArray (os.map a.eval).toArray
 | [],xs,h=>by simp only [opdL,Option.some.injEq] at h;subst h;exact ⟨rfl,by simp⟩
 | o :: os,xs,h=>by
  simp only [opdL] at h
  split at h
  ·rename_i y s hy hs
   cases h
   have ih:=opdL_sound hT hs
   refine ⟨by simpa using ih.1,fun i x z hx hz=>?_⟩
   cases i with
   | zero=>simp at hx hz;subst hx hz;exact opd_sound hT hy
   | succ i=>exact ih.2 i x z (by simpa using hx) (by simpa using hz)
  ·cases h
inductive FOp where
 | mv (x:Opd)
 | pick (c a b:Opd)
 | ld (n:Nat) (agg:Bool) (x:Opd)
 | fad (off:Nat) (x:Opd)
 | iad (sz:Nat) (x i:Opd)
 | iada (len sz:Nat) (x i:Opd)
 | idx (x i:Opd)
 | fld (off n:Nat) (agg:Bool) (x:Opd)
 | ext (x:Opd) (i:Nat)
 | nck (x:Opd)
 | bin (op:BinOp) (x y:Opd)
 | eqb (neg:Bool) (x y:Opd)
 | eqn (neg:Bool) (kd:Nat) (x y:Opd)
 | eqa (neg:Bool) (ks:List Nat) (x y:Opd)
 | un (op:UnOp) (x:Opd)
 | cvi (k:IntKind) (x:Opd)
 | cvs (x:Opd)
 | cvbs (x:Opd)
 | slc (sz:Nat) (x:Opd) (lo hi:Option Opd)
 | sls (x:Opd) (lo hi:Option Opd)
 | mkf (f:Nat) (a c:List Opd)
 | bld (zero:Array Value) (pl:List (Nat × Nat)) (parts:List (Nat × Opd))
 | len (x:Opd)
 | lens (x:Opd)
 | mn (x y:Opd)
 | mx (x y:Opd)
def ldv (H:Hp) (n:Nat) (agg:Bool):Value→Option Value
 | .pointer (some ⟨id,off,none⟩) =>
  match H id with
  | some b =>
   match agg with
   | true=>match Nat.ble (off+n) b.cells.length with
    | true=>some (.agg ((b.cells.drop off).take n).toArray)
    | false=>none
   | false=>b.cells[off]?
  | none=>none
 | _=>none
def intR (op:BinOp) (k:IntKind) (a b:Int):Option Value :=
 match op with
 | .add=>some (.int k (k.wrap (a+b)))
 | .sub=>some (.int k (k.wrap (a-b)))
 | .mul=>some (.int k (k.wrap (a * b)))
 | .quo=>if b=0 then none else some (.int k (k.wrap (a.tdiv b)))
 | .rem=>if b=0 then none else some (.int k (a.tmod b))
 | .and=>some (.int k (bits .and k a b))
 | .or=>some (.int k (bits .or k a b))
 | .xor=>some (.int k (bits .xor k a b))
 | .andNot=>some (.int k (bits .andNot k a b))
 | .eql=>some (.bool (a == b))
 | .neq=>some (.bool (a != b))
 | .lss=>some (.bool (a<b))
 | .leq=>some (.bool (a≤b))
 | .gtr=>some (.bool (a>b))
 | .geq=>some (.bool (a≥b))
 | _=>none
def strL (s:ByteArray):List UInt8:=s.data.toList
def strR (op:BinOp) (a b:ByteArray):Option Value :=
 match op with
 | .add=>if a.data.size+b.data.size≤maxLen then some (.string ⟨a.data++b.data⟩) else none
 | .eql=>some (.bool (strL a == strL b))
 | .neq=>some (.bool !(strL a == strL b))
 | .lss=>some (.bool (Op.bytesLess (strL a) (strL b)))
 | .leq=>some (.bool (Op.bytesLess (strL a) (strL b) || strL a == strL b))
 | .gtr=>some (.bool !(Op.bytesLess (strL a) (strL b) || strL a == strL b))
 | .geq=>some (.bool !(Op.bytesLess (strL a) (strL b)))
 | _=>none
def binR (op:BinOp) (x y:Value):Option Value :=
 match x,y with
 | .int k a,.int j b =>
  match op with
  | .shl=>if b<0 then none else some (.int k (k.wrap (a * 2 ^ (min b.toNat k.bits))))
  | .shr=>if b<0 then none else some (.int k (a.fdiv (2 ^ (min b.toNat k.bits))))
  | _=>if k=j then intR op k a b else none
 | .string a,.string b=>strR op a b
 | _,_=>none
def unR (op:UnOp) (x:Value):Option Value :=
 match op,x with
 | .neg,.int k n=>some (.int k (k.wrap (0-n)))
 | .xor,.int k n=>some (.int k (bits .xor k (if k.signed then -1 else k.max) n))
 | .not,.bool b=>some (.bool !b)
 | _,_=>none
def nilR (kd:Nat) (x y:Value):Option Bool :=
 match kd,x,y with
 | 0,.pointer none,.pointer b=>some b.isNone
 | 0,.pointer (some _),.pointer none=>some false
 | 1,.slice none _ _,.slice b _ _=>some b.isNone
 | 1,.slice (some _) _ _,.slice none _ _=>some false
 | 2,.nilFunc,.nilFunc=>some true
 | 2,.nilFunc,.func _ _ _=>some false
 | 2,.func _ _ _,.nilFunc=>some false
 | _,_,_=>none
def cellEq (kd:Nat) (x y:Value):Option Bool :=
 match kd,x,y with
 | 0,.int j a,.int k b=>if j=k then some (a == b) else none
 | 1,.bool a,.bool b=>some (a == b)
 | 2,.string a,.string b=>some (strL a == strL b)
 | _,_,_=>none
def cellsEq:List Nat→Nat→Array Value→Array Value→Option Bool
 | [],_,_,_=>some true
 | kd :: ks,i,a,b =>
  match a[i]?,b[i]? with
  | some x,some y=>match cellEq kd x y with
   | some true=>cellsEq ks (i+1) a b
   | some false=>some false
   | none=>none
  | _,_=>none
def bytesOf:List Value→Option (List UInt8)
 | []=>some []
 | .int .u8 n :: r=>match bytesOf r with
  | some s=>some (UInt8.ofNat n.toNat :: s)
  | none=>none
 | _ :: _=>none
def boundOf (d:Nat):Option Value→Option Nat
 | none=>some d
 | some (.int _ n)=>if 0≤n then some n.toNat else none
 | some _=>none
def slcR (H:Hp) (sz:Nat) (x:Value) (lo hi:Option Value):Option Value :=
 match x with
 | .slice none 0 0 =>
  match boundOf 0 hi,boundOf 0 lo with
  | some 0,some 0=>some (.slice none 0 0)
  | _,_=>none
 | .slice (some ⟨id,off,none⟩) n c =>
  match boundOf n hi,boundOf 0 lo with
  | some h,some l =>
   match Nat.ble h n,Nat.ble l h with
   | true,true =>
    match c with
    | 0=>if l=0 then some (.slice (some ⟨id,off,none⟩) h 0)
       else if l=h then some (.slice (some ⟨id,off,none⟩) 0 1)
       else match H id with
        | some b=>if b.unit=sz∨b.unit=0 then some (.slice (some ⟨id,off+l * sz,none⟩) (h-l) 0) else none
        | none=>none
    | 1=>some (.slice (some ⟨id,off,none⟩) 0 1)
    | _=>none
   | _,_=>none
  | _,_=>none
 | _=>none
def slsR (s:ByteArray) (lo hi:Option Value):Option Value :=
 match boundOf s.data.size hi,boundOf 0 lo with
 | some h,some l =>
  match Nat.ble h s.data.size,Nat.ble l h with
  | true,true=>some (.string ⟨((s.data.toList.drop l).take (h-l)).toArray⟩)
  | _,_=>none
 | _,_=>none
def fev (H:Hp) (e:Opd→Value):FOp→Option Value
 | .mv x=>some (e x)
 | .pick c a b=>match e c with
  | .bool true=>some (e a)
  | .bool false=>some (e b)
  | _=>none
 | .ld n agg x=>ldv H n agg (e x)
 | .fad off x=>match e x with
  | .pointer (some ⟨id,o,none⟩)=>some (.pointer (some ⟨id,o+off,none⟩))
  | _=>none
 | .iad sz x i=>match e x,e i with
  | .slice (some ⟨id,o,none⟩) n _,.int _ j=>if 0≤j∧j<n then some (.pointer (some ⟨id,o+j.toNat * sz,none⟩)) else none
  | _,_=>none
 | .iada len sz x i=>match e x,e i with
  | .pointer (some ⟨id,o,none⟩),.int _ j=>if 0≤j∧j<len then some (.pointer (some ⟨id,o+j.toNat * sz,none⟩)) else none
  | _,_=>none
 | .idx x i=>match e x,e i with
  | .string s,.int _ j=>if 0≤j then (match s.data.toList[j.toNat]? with | some b=>some (.int .u8 b.toNat) | none=>none) else none
  | _,_=>none
 | .fld off n agg x=>match e x with
  | .agg cs=>match agg with
   | true=>match Nat.ble (off+n) cs.size with
    | true=>some (.agg ((cs.toList.drop off).take n).toArray)
    | false=>none
   | false=>cs[off]?
  | _=>none
 | .ext x i=>match e x with
  | .tuple vs=>vs[i]?
  | _=>none
 | .nck x=>match e x with
  | .pointer (some ⟨id,o,none⟩)=>some (.pointer (some ⟨id,o,none⟩))
  | .func (.func f) a c=>some (.func (.func f) a c)
  | _=>none
 | .bin op x y=>binR op (e x) (e y)
 | .eqb neg x y=>match e x,e y with
  | .bool a,.bool b=>some (.bool (neg != (a == b)))
  | _,_=>none
 | .eqn neg kd x y=>match nilR kd (e x) (e y) with
  | some r=>some (.bool (neg != r))
  | none=>none
 | .eqa neg ks x y=>match e x,e y with
  | .agg a,.agg b=>match cellsEq ks 0 a b with
   | some r=>some (.bool (neg != r))
   | none=>none
  | _,_=>none
 | .un op x=>unR op (e x)
 | .cvi k x=>match e x with
  | .int _ n=>some (.int k (k.wrap n))
  | _=>none
 | .cvs x=>match e x with
  | .string s=>some (.string s)
  | _=>none
 | .cvbs x=>match e x with
  | .slice none 0 0=>some (.string ⟨#[]⟩)
  | .slice (some ⟨_,_,none⟩) 0 1=>some (.string ⟨#[]⟩)
  | .slice (some ⟨id,o,none⟩) n 0 =>
   match n with
   | 0=>some (.string ⟨#[]⟩)
   | _=>match H id with
    | some b=>match Nat.ble (o+n) b.cells.length with
     | true=>match bytesOf ((b.cells.drop o).take n) with
      | some l=>some (.string ⟨l.toArray⟩)
      | none=>none
     | false=>none
    | none=>none
  | _=>none
 | .slc sz x lo hi=>slcR H sz (e x) (lo.map e) (hi.map e)
 | .sls x lo hi=>match e x with
  | .string s=>slsR s (lo.map e) (hi.map e)
  | _=>none
 | .mkf f a c=>some (.func (.func f) (a.map e).toArray (c.map e).toArray)
 | .bld zero pl parts=>match Instr.fill (fun i=>pl[i]?) zero (parts.map fun p=>(p.1,e p.2)) with
  | some cs=>some (.agg cs)
  | none=>none
 | .len x=>match e x with
  | .slice _ n _=>some (.int .i64 n)
  | _=>none
 | .lens x=>match e x with
  | .string s=>some (.int .i64 s.data.toList.length)
  | _=>none
 | .mn x y=>match e x,e y with
  | .int k a,.int _ b=>some (.int k (if b<a then b else a))
  | _,_=>none
 | .mx x y=>match e x,e y with
  | .int k a,.int _ b=>some (.int k (if b>a then b else a))
  | _,_=>none
end Go.Eng
set_option linter.unusedVariables false
set_option linter.unusedSimpArgs false
namespace Go.Eng
def isAggD:TypeDesc→Bool
 | .struct _ | .array _ _=>true
 | _=>false
def opdO:Option Operand→Option (Option Opd)
 | none=>some none
 | some x=>match opd x with
  | some y=>some (some y)
  | none=>none
def placesOf (P:Program):List Field→Option (List (Nat × Nat))
 | []=>some []
 | f :: r=>match P.info? f.type,placesOf P r with
  | some i,some s=>some ((f.offset,i.size) :: s)
  | _,_=>none
def partsOf:List (Nat × Operand)→Option (List (Nat × Opd))
 | []=>some []
 | p :: r=>match opd p.2,partsOf r with
  | some x,some s=>some ((p.1,x) :: s)
  | _,_=>none
def kindOf:Option TypeDesc→Option Nat
 | some (.int _)=>some 0
 | some .bool=>some 1
 | some .string=>some 2
 | _=>none
def plainFields (P:Program):Nat→List Field→Option (List Nat)
 | _,[]=>some []
 | n,f :: r =>
  match kindOf (P.underlying f.type),plainFields P (n+1) r with
  | some k, some ks => if f.offset = n ∧ f.name ≠ "_" then some (k :: ks) else none
  | _,_=>none
def nilKind:TypeDesc→Option Nat
 | .pointer _=>some 0
 | .slice _=>some 1
 | .func _ _ _=>some 2
 | _=>none
def trBin (P:Program) (op:BinOp) (t:TypeId) (x y:Opd):Option FOp :=
 match P.underlying t with
 | some .bool=>match op with
  | .eql=>some (.eqb false x y)
  | .neq=>some (.eqb true x y)
  | _=>none
 | some (.int _) | some .string=>some (.bin op x y)
 | some (.struct fs) =>
  match plainFields P 0 fs.toList with
  | some ks=>if P.stoodInHeld t=false∧P.eqGuardType P.depth t=false then
    match op with
    | .eql=>some (.eqa false ks x y)
    | .neq=>some (.eqa true ks x y)
    | _=>none
   else none
  | none=>none
 | some D=>match nilKind D,op with
  | some kd,.eql=>some (.eqn false kd x y)
  | some kd,.neq=>some (.eqn true kd x y)
  | _,_=>none
 | none=>none
def trConv (P:Program) (s d:TypeId) (x:Opd):Option FOp :=
 match P.underlying s,P.underlying d with
 | some (.int _),some (.int k)=>some (.cvi k x)
 | some .string,some .string=>some (.cvs x)
 | some (.slice e),some .string=>match P.underlying e with
  | some (.int .u8)=>match P.info? e with
   | some i=>if i.size=1 then some (.cvbs x) else none
   | none=>none
  | _=>none
 | _,_=>none
def trF (P:Program):Op→Option FOp
 | .move x=>(opd x).map .mv
 | .assign x=>(opd x).map .mv
 | .pick c a b=>match opd c,opd a,opd b with
  | some c,some a,some b=>some (.pick c a b)
  | _,_,_=>none
 | .load t x=>match opd x,P.info? t,P.underlying t with
  | some x,some i,some u=>some (.ld i.size (isAggD u) x)
  | _,_,_=>none
 | .fieldAddr s x k=>match opd x,P.underlying s with
  | some x,some (.struct fs)=>match fs[k]? with
   | some f=>match P.info? f.type with
    | some i=>if i.size=0 then none else some (.fad f.offset x)
    | none=>none
   | none=>none
  | _,_=>none
 | .indexAddr t x i=>match opd x,opd i,P.underlying t with
  | some x,some i,some (.slice e)=>(P.info? e).map fun inf=>.iad inf.size x i
  | some x,some i,some (.array n e)=>(P.info? e).map fun inf=>.iada n inf.size x i
  | _,_,_=>none
 | .index t x i=>match opd x,opd i,P.underlying t with
  | some x,some i,some .string=>some (.idx x i)
  | _,_,_=>none
 | .field t x k=>match opd x,P.underlying t with
  | some x,some (.struct fs)=>match fs[k]? with
   | some f=>match P.info? f.type,P.underlying f.type with
    | some i,some u=>some (.fld f.offset i.size (isAggD u) x)
    | _,_=>none
   | none=>none
  | _,_=>none
 | .extract x i=>(opd x).map fun x=>.ext x i
 | .nilCheck x=>(opd x).map .nck
 | .binOp op t x y _=>match opd x,opd y with
  | some x,some y=>trBin P op t x y
  | _,_=>none
 | .unOp op _ x=>(opd x).map (.un op)
 | .convert s d x=>match opd x with
  | some x=>trConv P s d x
  | none=>none
 | .slice t x lo hi none=>match opd x,opdO lo,opdO hi,P.underlying t with
  | some x,some lo,some hi,some (.slice e)=>(P.info? e).map fun inf=>.slc inf.size x lo hi
  | some x,some lo,some hi,some .string=>some (.sls x lo hi)
  | _,_,_,_=>none
 | .makeFunc (.func f) a c=>match opdL a.toList,opdL c.toList with
  | some a,some c=>some (.mkf f a c)
  | _,_=>none
 | .build t ps=>match P.info? t,P.underlying t,partsOf ps.toList with
  | some i,some (.struct fs),some ps=>match i.zero,placesOf P fs.toList with
   | some z,some pl=>if z.cells.all scal then some (.bld z.cells pl ps) else none
   | _,_=>none
  | some i,some (.array n e),some []=>match i.zero,P.info? e with
   | some z,some _=>if z.cells.all scal then some (.bld z.cells [] []) else none
   | _,_=>none
  | _,_,_=>none
 | .call { callee:=.builtin .len,args,argTypes }=>match args.toList,argTypes.toList with
  | [x],[t]=>match opd x,P.underlying t with
   | some x,some (.slice _)=>some (.len x)
   | some x,some .string=>some (.lens x)
   | _,_=>none
  | _,_=>none
 | .call { callee:=.builtin .min,args,argTypes }=>match args.toList with
  | [x,y]=>match opd x,opd y with
   | some x,some y=>some (.mn x y)
   | _,_=>none
  | _=>none
 | .call { callee:=.builtin .max,args,argTypes }=>match args.toList with
  | [x,y]=>match opd x,opd y with
   | some x,some y=>some (.mx x y)
   | _,_=>none
  | _=>none
 | _=>none
section
variable {P:Program} {ρ : Ren} {H:Hp} {w:World} {T:Tm} {a:Act}
theorem addr_add (b o n:Nat):(⟨b,o,none⟩:Addr).add n=⟨b,o+n,none⟩:=by
 unfold Addr.add;split <;> simp_all
theorem run_loadCells_row {g off n:Nat} {c:Array Value} {e:TypeId} {fr:Nat × Nat} (hg:w.heap[g]? = some (.cells c e fr)) (hn:off+n≤c.size) :
  (loadCells ⟨g,off,none⟩ n).run P w=.ok ((c.toList.drop off).take n).toArray w:=by
 have hl:((c.toList.drop off).take n).length=n:=by simp;omega
 have:=run_loadCells_list (P:=P) w ⟨g,off,none⟩ ((c.toList.drop off).take n) (fun j v hv=>by
  rw [addr_add,cell_of_row w g _ c e fr hg]
  rw [List.getElem?_take] at hv
  split at hv
  ·simpa [List.getElem?_drop] using hv
  ·cases hv)
 rwa [hl] at this
theorem run_isAgg {t:TypeId} {u:TypeDesc} (hu:P.underlying t=some u):(isAgg t).run P w=.ok (isAggD u) w:=by
 unfold isAgg
 rw [Sem.run_bind,run_underlying hu w]
 cases u <;> rfl
theorem run_sizeOf {t:TypeId} {i:TypeInfo} (hi:P.info? t=some i):(sizeOf t).run P w=.ok i.size w:=by
 simp [sizeOf,typeInfo,hi]
theorem run_zeroValue {t:TypeId} {i:TypeInfo} {z:Value} (hi:P.info? t=some i) (hz:i.zero=some z):(zeroValue t).run P w=.ok z w:=by
 simp [zeroValue,typeInfo,hi,hz]
theorem Rep.look (hR:Rep ρ H w) {id:Nat} {b:Blk} (hb:H id=some b) {t:Tgt} (ht : ρ id=some t):BRel ρ b t w:=by
 obtain ⟨t',h1,h2⟩:=hR.blk id b hb
 rw [ht] at h1;cases h1;exact h2
theorem CRel.get {cells:List Value} {c:Array Value} {s:Nat} (h:CRel ρ cells c s) {i:Nat} {v:Value} (hv:cells[i]? = some v):∃ v',c[s+i]? = some v'∧VRel ρ v v':=(h i v hv).2
theorem CRel.seg {cells:List Value} {c:Array Value} {s:Nat} (h:CRel ρ cells c s) {off n:Nat} (hn:off+n≤cells.length) (hc:s+cells.length≤c.size) :
  ARel ρ ((cells.drop off).take n).toArray ((c.toList.drop (s+off)).take n).toArray:=by
 refine ⟨by simp;omega,fun i x y hx hy=>?_⟩
 simp only [List.getElem?_toArray,List.getElem?_take,List.getElem?_drop] at hx hy
 split at hx
 ·rename_i hi
  simp only [hi,if_true] at hy
  obtain ⟨v',h1,h2⟩:=h.get hx
  rw [← Nat.add_assoc] at h1
  have:c[s+off+i]? = some y:=by simpa using hy
  rw [h1] at this;cases this
  exact h2
 ·cases hx
theorem ld_sound (hR:Rep ρ H w) {t:TypeId} {i:TypeInfo} {u:TypeDesc} (hi:P.info? t=some i) (hu:P.underlying t=some u) {p p' v:Value} (hp:VRel ρ p p')
  (h:ldv H i.size (isAggD u) p=some v):∃ v',(Instr.loadAt t p').run P w=.ok v' w∧VRel ρ v v':=by
 unfold ldv at h
 split at h
 ·rename_i id off
  obtain ⟨-,tg,ht,rfl⟩:=hp.ptr_inv
  split at h
  ·rename_i b hb
   obtain ⟨c,e,fr,h1,h2,h3,h4,h5,h6⟩:=hR.look hb ht
   split at h
   ·rename_i hagg
    split at h
    ·rename_i hle
     rw [Nat.ble_eq] at hle
     cases h
     refine ⟨_,?_,.mkAgg (h5.seg hle (by omega))⟩
     simp only [Instr.loadAt,Instr.sureAddr,loadVar,Sem.run_bind,Sem.run_pure,Result.andThen_ok,run_isAgg hu,hagg,if_true,run_sizeOf hi,
      run_loadCells_row h1 (show tg.shift+off+i.size≤c.size by omega)]
    ·cases h
   ·rename_i hagg
    obtain ⟨v',g1,g2⟩:=h5.get h
    refine ⟨v',?_,g2⟩
    have hc:w.cell? ⟨tg.block,tg.shift+off,none⟩=some v':=by rw [cell_of_row w _ _ c e fr h1];exact g1
    simp only [Instr.loadAt,Instr.sureAddr,loadVar,Sem.run_bind,Sem.run_pure,Result.andThen_ok,run_isAgg hu,hagg,Bool.false_eq_true,if_false,run_load,hc]
  ·cases h
 ·cases h
theorem opdO_sound (hT:TRel ρ T a) {o:Option Operand} {x:Option Opd} (h:opdO o=some x) :
  (x=none∧o=none)∨∃ y z,x=some y∧o=some z∧VRel ρ (y.ev T) (a.eval z):=by
 cases o with
 | none=>simp only [opdO,Option.some.injEq] at h;exact .inl ⟨h.symm,rfl⟩
 | some z =>
  simp only [opdO] at h
  split at h
  ·rename_i y hy;cases h;exact .inr ⟨y,z,rfl,rfl,opd_sound hT hy⟩
  ·cases h
theorem part_sound {t:TypeId} {i:TypeInfo} {u:TypeDesc} (hi:P.info? t=some i) (hu:P.underlying t=some u) {cs cs':Array Value} (hc:ARel ρ cs cs') {off:Nat} {v:Value}
  (h:(match isAggD u with
   | true=>match Nat.ble (off+i.size) cs.size with
    | true=>some (Value.agg ((cs.toList.drop off).take i.size).toArray)
    | false=>none
   | false=>cs[off]?)=some v):∃ v',(part t cs' off).run P w=.ok v' w∧VRel ρ v v':=by
 split at h
 ·rename_i hagg
  split at h
  ·rename_i hle
   rw [Nat.ble_eq] at hle
   cases h
   refine ⟨.agg (cs'.extract off (off+i.size)),?_,?_⟩
   ·simp [part,run_isAgg hu,hagg,run_sizeOf hi]
   ·refine .mkAgg ⟨?_,fun j x y hx hy=>?_⟩
    ·have:=hc.1;simp;omega
    ·simp only [List.getElem?_toArray,List.getElem?_take,List.getElem?_drop] at hx
     split at hx
     ·rename_i hj
      rw [Array.getElem?_extract] at hy
      split at hy
      ·exact hc.2 (off+j) x y (by simpa using hx) hy
      ·cases hy
     ·cases hx
  ·cases h
 ·rename_i hagg
  obtain ⟨y,hy,hr⟩:=hc.get h
  refine ⟨y,?_,hr⟩
  simp [part,run_isAgg hu,hagg,hy]
theorem bin_sound {op:BinOp} {t:TypeId} {x y:Operand} {u v u' v' r:Value} (hx:VRel ρ u u') (hy:VRel ρ v v') (h:binR op u v=some r) :
  (do eqGuard op t x y u' v';binOp op t u' v').run P w=.ok r w∧VRel ρ r r:=by
 unfold binR at h
 split at h
 ·rename_i k m j n
  cases hx.int_inv;cases hy.int_inv
  rw [Sem.run_bind,eqGuard_at_int,Sem.run_pure,Result.andThen_ok]
  split at h
  ·split at h
   ·cases h
   ·rename_i hneg
    cases h
    exact ⟨by simp [binOp_shl,Op.shift,hneg],.int _ _⟩
  ·split at h
   ·cases h
   ·rename_i hneg
    cases h
    exact ⟨by simp [binOp_shr,Op.shift,hneg],.int _ _⟩
  ·rename_i hs1 hs2
   split at h
   ·rename_i hkj
    subst hkj
    unfold intR at h
    split at h
    case h_1=>cases h;exact ⟨by simp [binOp_add,Op.intArith],.int _ _⟩
    case h_2=>cases h;exact ⟨by simp [binOp_sub,Op.intArith],.int _ _⟩
    case h_3=>cases h;exact ⟨by simp [binOp_mul,Op.intArith],.int _ _⟩
    case h_4 =>
     split at h
     ·cases h
     ·rename_i h0;cases h;exact ⟨by simp [binOp_quo,binOp_rem,Op.intDiv,h0],.int _ _⟩
    case h_5 =>
     split at h
     ·cases h
     ·rename_i h0;cases h;exact ⟨by simp [binOp_quo,binOp_rem,Op.intDiv,h0],.int _ _⟩
    all_goals first
     | (cases h;exact ⟨by simp [binOp_eql,binOp_neq,binOp_lss,binOp_leq,binOp_gtr,binOp_geq],by constructor⟩)
     | (cases h;exact ⟨by simp [binOp_and,binOp_or,binOp_xor,binOp_andNot,intBits_and,intBits_or,intBits_xor,intBits_andNot],by constructor⟩)
     | (cases h;done)
   ·cases h
 ·rename_i s s2
  cases hx.str_inv;cases hy.str_inv
  rw [Sem.run_bind,eqGuard_at_string,Sem.run_pure,Result.andThen_ok]
  unfold strR at h
  split at h
  ·split at h
   ·rename_i hle
    cases h
    refine ⟨?_,.str _⟩
    have hn:¬ (9223372036854775807<(s.size:Int)+(s2.size:Int)):=by
     have h1:s.data.size=s.size:=rfl
     have h2:s2.data.size=s2.size:=rfl
     simp only [maxLen] at hle
     omega
    have hap:s++s2=⟨s.data++s2.data⟩:=by
     apply ByteArray.ext;simp
    simp [binOp,Op.stringOp,hn,hap]
   ·cases h
  all_goals first
   | (cases h;exact ⟨by simp [binOp,Op.stringOp,ByteArray.toList_eq,strL],by constructor⟩)
   | (cases h;done)
 ·cases h
theorem un_sound {op:UnOp} {u u' r:Value} (hx:VRel ρ u u') (h:unR op u=some r):(Op.unary op u').run P w=.ok r w∧VRel ρ r r:=by
 unfold unR at h
 split at h
 ·cases hx.int_inv;cases h;exact ⟨by simp [Op.unary,Op.intArith],.int _ _⟩
 ·cases hx.int_inv;cases h;exact ⟨by simp [Op.unary,intBits_xor],.int _ _⟩
 ·cases hx.bool_inv;cases h;exact ⟨by simp [Op.unary],.bool _⟩
 ·cases h
theorem eqb_sound {t:TypeId} {x y:Operand} (ht:P.underlying t=some .bool) (b c:Bool) :
  (do eqGuard .eql t x y (.bool b) (.bool c);binOp .eql t (.bool b) (.bool c)).run P w=.ok (.bool (b == c)) w ∧
  (do eqGuard .neq t x y (.bool b) (.bool c);binOp .neq t (.bool b) (.bool c)).run P w=.ok (.bool (!(b == c))) w:=by
 constructor
 ·rw [Sem.run_bind,eqGuard_at_bool,Sem.run_pure,Result.andThen_ok,run_eql_bool w t b c ht]
 ·rw [Sem.run_bind,eqGuard_at_bool,Sem.run_pure,Result.andThen_ok,run_neq_bool w t b c ht]
theorem equalIn_nil {d:Nat} {t:TypeId} {D:TypeDesc} (hu:P.underlying t=some D) {kd:Nat} (hD:nilKind D=some kd)
  {u v u' v':Value} {r:Bool} (hx:VRel ρ u u') (hy:VRel ρ v v') (h:nilR kd u v=some r):(Op.equalIn (d+1) t u' v').run P w=.ok r w:=by
 cases D <;> simp only [nilKind,Option.some.injEq,reduceCtorEq] at hD <;> subst hD <;> unfold nilR at h <;> split at h
 all_goals (first | (cases h;done) | (rename_i he;cases he;done) | skip)
 all_goals cases hx <;> cases hy <;> cases h <;> simp [Op.equalIn,run_underlying hu]
theorem eqn_sound {t:TypeId} {x y:Operand} {D:TypeDesc} (hu:P.underlying t=some D) {kd:Nat} (hD:nilKind D=some kd)
  {u v u' v':Value} {r:Bool} (hx:VRel ρ u u') (hy:VRel ρ v v') (h:nilR kd u v=some r) :
  (do eqGuard .eql t x y u' v';binOp .eql t u' v').run P w=.ok (.bool r) w∧(do eqGuard .neq t x y u' v';binOp .neq t u' v').run P w=.ok (.bool (!r)) w:=by
 have he:=equalIn_nil (d:=9999) (w:=w) hu hD hx hy h
 have hg:∀ op,eqGuard op t x y u' v'=pure ():=by
  intro op
  unfold nilR at h
  split at h
  all_goals (first | (cases h;done) | skip)
  all_goals cases hx <;> cases hy <;> cases op <;> rfl
 have hb:(binOp .eql t u' v').run P w=.ok (.bool r) w∧(binOp .neq t u' v').run P w=.ok (.bool (!r)) w:=by
  unfold nilR at h
  split at h
  all_goals (first | (cases h;done) | skip)
  all_goals cases hx <;> cases hy <;> simp only [binOp] <;> simp [Op.equal,Op.maxDepth,he]
 rw [Sem.run_bind,Sem.run_bind,hg,hg,Sem.run_pure,Result.andThen_ok,Result.andThen_ok]
 exact hb
theorem ARel.set {a b:Array Value} (h:ARel ρ a b) {x y:Value} (hv:VRel ρ x y) (i:Nat):ARel ρ (a.setIfInBounds i x) (b.setIfInBounds i y):=by
 refine ⟨by simpa using h.1,fun j u v hu hv'=>?_⟩
 rw [Array.getElem?_setIfInBounds] at hu hv'
 by_cases e:i=j
 ·subst e
  simp only [if_true] at hu hv'
  split at hu
  ·split at hv'
   ·cases hu;cases hv';exact hv
   ·cases hv'
  ·cases hu
 ·simp only [e,if_false] at hu hv'
  exact h.2 j u v hu hv'
theorem setFold (off:Nat):∀ (xs ys:List Value) (k:Nat) (a b:Array Value),xs.length=ys.length→(∀ (i:Nat) x y,xs[i]? = some x→ys[i]? = some y→VRel ρ x y)→ARel ρ a b →
  ARel ρ ((xs.zipIdx k).foldl (fun cs (p:Value × Nat)=>cs.setIfInBounds (off+p.2) p.1) a) ((ys.zipIdx k).foldl (fun cs (p:Value × Nat)=>cs.setIfInBounds (off+p.2) p.1) b)
 | [],[],k,a,b,_,_,h=>h
 | [],_ :: _,k,a,b,hl,_,h=>by simp at hl
 | _ :: _,[],k,a,b,hl,_,h=>by simp at hl
 | x :: xs,y :: ys,k,a,b,hl,hr,h=>by
  simp only [List.zipIdx_cons,List.foldl_cons]
  exact setFold off xs ys (k+1) _ _ (by simpa using hl) (fun i u v hu hv=>hr (i+1) u v (by simpa using hu) (by simpa using hv)) (h.set (hr 0 x y rfl rfl) _)
theorem fill_sound (pl:Nat→Option (Nat × Nat)):∀ (ps qs:List (Nat × Value)) (z z' c:Array Value),ps.length=qs.length →
  (∀ (i:Nat) p q,ps[i]? = some p→qs[i]? = some q→p.1=q.1∧VRel ρ p.2 q.2)→ARel ρ z z'→Instr.fill pl z ps=some c→∃ c',Instr.fill pl z' qs=some c'∧ARel ρ c c'
 | [],[],z,z',c,_,_,h,hc=>by simp only [Instr.fill,Option.some.injEq] at hc;subst hc;exact ⟨z',rfl,h⟩
 | [],_ :: _,z,z',c,hl,_,h,hc=>by simp at hl
 | _ :: _,[],z,z',c,hl,_,h,hc=>by simp at hl
 | p :: ps,q :: qs,z,z',c,hl,hr,h,hc=>by
  obtain ⟨i,v⟩:=p
  obtain ⟨j,u⟩:=q
  obtain ⟨rfl,huv⟩:i=j∧VRel ρ v u:=hr 0 (i,v) (j,u) rfl rfl
  simp only [Instr.fill] at hc ⊢
  have hcs:=huv.cells
  split at hc
  ·cases hc
  ·rename_i off size hpl
   split at hc
   ·cases hc
   ·rename_i hno
    simp only [Bool.or_eq_true,decide_eq_true_eq,not_or,bne_iff_ne,ne_eq,Decidable.not_not] at hno
    have hno':¬ ((u.cells.size != size || decide (off+u.cells.size>z'.size))=true):=by
     rw [← hcs.1, ← h.1]
     simp only [Bool.or_eq_true,decide_eq_true_eq,not_or,bne_iff_ne,ne_eq,Decidable.not_not]
     exact hno
    rw [if_neg (by simpa using hno')]
    refine fill_sound pl ps qs _ _ c (by simpa using hl) (fun k a b ha hb=>hr (k+1) a b (by simpa using ha) (by simpa using hb)) ?_ hc
    rw [← Array.foldl_toList, ← Array.foldl_toList]
    simp only [Array.toList_zipIdx]
    exact setFold off v.cells.toList u.cells.toList 0 z z' (by simpa using hcs.1) (fun k a b ha hb=>hcs.2 k a b (by simpa using ha) (by simpa using hb)) h
theorem cellEq_sound {d:Nat} {t:TypeId} {kd:Nat} (hk:kindOf (P.underlying t)=some kd) {x y x' y':Value} {r:Bool} (hx:VRel ρ x x') (hy:VRel ρ y y') (h:cellEq kd x y=some r) :
  (Op.equalIn (d+1) t x' y').run P w=.ok r w:=by
 cases hu:P.underlying t with
 | none=>rw [hu] at hk;cases hk
 | some D =>
  rw [hu] at hk
  cases D <;> simp only [kindOf,Option.some.injEq,reduceCtorEq] at hk <;> subst hk <;> unfold cellEq at h <;> split at h
  all_goals (first | (cases h;done) | (rename_i he;cases he;done) | skip)
  ·cases hx.bool_inv;cases hy.bool_inv;cases h;simp [Op.equalIn,run_underlying hu]
  ·cases hx.int_inv;cases hy.int_inv
   split at h
   ·rename_i hjk;subst hjk;cases h;simp [Op.equalIn,run_underlying hu]
   ·cases h
  ·cases hx.str_inv;cases hy.str_inv;cases h;simp [Op.equalIn,run_underlying hu,beq_toListBytes,ByteArray.toList_eq,strL]
theorem cell_part {t:TypeId} {kd:Nat} (hk:kindOf (P.underlying t)=some kd) {cs:Array Value} {i:Nat} {v:Value} (h:cs[i]? = some v):(part t cs i).run P w=.ok v w:=by
 cases hu:P.underlying t with
 | none=>rw [hu] at hk;cases hk
 | some D =>
  have:isAggD D=false:=by rw [hu] at hk;cases D <;> simp [kindOf] at hk <;> rfl
  simp [part,run_isAgg hu,this,h]
theorem cellsEq_sound (d:Nat) {a b a' b':Array Value} (ha:ARel ρ a a') (hb:ARel ρ b b'):∀ (fs:List Field) (n:Nat) (ks:List Nat) (r:Bool),
  plainFields P n fs=some ks→cellsEq ks n a b=some r→(Op.eqFields (d+1) a' b' fs).run P w=.ok r w
 | [],n,ks,r,hp,h=>by
  simp only [plainFields,Option.some.injEq] at hp;subst hp
  simp only [cellsEq,Option.some.injEq] at h;subst h
  simp [Op.eqFields]
 | f :: fs,n,ks,r,hp,h=>by
  simp only [plainFields] at hp
  split at hp
  ·rename_i k ks' hk hks
   split at hp
   ·rename_i hof
    obtain ⟨h1,h2⟩:=hof
    cases hp
    simp only [cellsEq] at h
    split at h
    ·rename_i x y hx hy
     obtain ⟨x',hx',rx⟩:=ha.get hx
     obtain ⟨y',hy',ry⟩:=hb.get hy
     have e1:(part f.type a' f.offset).run P w=.ok x' w:=cell_part hk (by rw [h1];exact hx')
     have e2:(part f.type b' f.offset).run P w=.ok y' w:=cell_part hk (by rw [h1];exact hy')
     simp only [Op.eqFields,ne_eq,h2,not_false_eq_true,if_true,Sem.run_bind,e1,e2,Result.andThen_ok]
     split at h
     ·rename_i hc
      rw [cellEq_sound hk rx ry hc]
      simp only [Result.andThen_ok,Bool.not_true,Bool.false_eq_true,if_false]
      exact cellsEq_sound d ha hb fs (n+1) ks' r hks h
     ·rename_i hc
      cases h
      rw [cellEq_sound hk rx ry hc]
      simp
     ·cases h
    ·cases h
   ·cases hp
  ·cases hp
theorem eqa_sound {t:TypeId} {x y:Operand} {fs:Array Field} (hu:P.underlying t=some (.struct fs)) {ks:List Nat} (hp:plainFields P 0 fs.toList=some ks) (h1:P.stoodInHeld t=false)
  (h2:P.eqGuardType P.depth t=false) {a b a' b':Array Value} {r:Bool} (ha:ARel ρ a a') (hb:ARel ρ b b') (h:cellsEq ks 0 a b=some r) :
  (do eqGuard .eql t x y (.agg a') (.agg b');binOp .eql t (.agg a') (.agg b')).run P w=.ok (.bool r) w ∧
  (do eqGuard .neq t x y (.agg a') (.agg b');binOp .neq t (.agg a') (.agg b')).run P w=.ok (.bool (!r)) w:=by
 have hf:P.fieldsOf t=fs:=by simp [Program.fieldsOf,hu]
 have he:(Op.equalIn 10000 t (.agg a') (.agg b')).run P w=.ok r w:=by
  rw [run_equalIn_agg w 9999 t a' b' (by rw [hf];exact hu) h1,hf]
  exact cellsEq_sound 9998 ha hb fs.toList 0 ks r hp h
 constructor
 ·rw [Sem.run_bind,run_eqGuard_agg w .eql t x y a' b' h2,Result.andThen_ok,run_eql_struct,he];rfl
 ·rw [Sem.run_bind,run_eqGuard_agg w .neq t x y a' b' h2,Result.andThen_ok,run_neq_struct,he];rfl
end
end Go.Eng
set_option linter.unusedVariables false
set_option linter.unusedSimpArgs false
namespace Go.Eng
section
variable {P:Program} {ρ : Ren} {H:Hp} {w:World} {T:Tm} {a:Act}
theorem boundOf_sound {d:Nat} {x:Option Value} {b:Nat} (h:boundOf d x=some b):(x=none∧b=d)∨∃ k n,x=some (.int k n)∧0≤n∧n.toNat=b:=by
 unfold boundOf at h
 split at h
 ·cases h;exact .inl ⟨rfl,rfl⟩
 ·split at h
  ·rename_i k n hn;cases h;exact .inr ⟨k,n,rfl,hn,rfl⟩
  ·cases h
 ·cases h
theorem run_bounds {isSlice:Bool} {len cap:Nat} {lo hi lo' hi':Option Value} {l h:Nat} (hlo:boundOf 0 lo=some l) (hhi:boundOf len hi=some h) (rlo:lo'=lo) (rhi:hi'=hi)
  (h1:l≤h) (h2:h≤len) (h3:len≤cap):(Instr.sliceBounds isSlice len cap lo' hi' none).run P w=.ok (l,h,cap) w:=by
 subst rlo rhi
 rcases boundOf_sound hlo with ⟨rfl,rfl⟩ | ⟨k,n,rfl,hn,rfl⟩ <;> rcases boundOf_sound hhi with ⟨rfl,rfl⟩ | ⟨k',n',rfl,hn',rfl⟩
 ·simp [Instr.sliceBounds]
 ·simp [Instr.sliceBounds,Instr.sliceBound,asIntOf,hn',show n'≤(cap:Int) by omega]
 ·simp [Instr.sliceBounds,Instr.sliceBound,asIntOf,hn,show n≤(h:Int) by omega]
 ·simp [Instr.sliceBounds,Instr.sliceBound,asIntOf,hn,hn',show n'≤(cap:Int) by omega,show n≤max n' 0 by omega]
theorem bound_rel (hT:TRel ρ T a) {o:Option Operand} {x:Option Opd} (h:opdO o=some x) {d b:Nat} (hb:boundOf d (x.map (Opd.ev T))=some b):o.map a.eval=x.map (Opd.ev T):=by
 rcases opdO_sound hT h with ⟨rfl,rfl⟩ | ⟨y,z,rfl,rfl,hr⟩
 ·rfl
 ·rcases boundOf_sound hb with ⟨h1,_⟩ | ⟨k,n,h1,_⟩
  ·simp at h1
  ·simp only [Option.map_some,Option.some.injEq] at h1 ⊢
   rw [h1] at hr ⊢
   exact hr.int_inv
theorem slc_sound (hR:Rep ρ H w) {t e:TypeId} {i:TypeInfo} (ht:P.underlying t=some (.slice e)) (hi:P.info? e=some i) {x x':Value} (hx:VRel ρ x x') {lo hi':Option Value} {v:Value}
  (h:slcR H i.size x lo hi'=some v):∃ v',(Instr.sliceAt t x' lo hi' none).run P w=.ok v' w∧VRel ρ v v':=by
 have hs:(Instr.sliceAt t x' lo hi' none).run P w=(Instr.slice t x' lo hi' none).run P w:=by simp [Instr.sliceAt,run_underlying ht]
 rw [hs]
 unfold slcR at h
 split at h
 ·cases hx
  split at h
  ·rename_i h1 h2
   cases h
   refine ⟨.slice none 0 0,?_,.snil⟩
   simp [Instr.slice,run_underlying ht,run_bounds (P:=P) (w:=w) (isSlice:=true) h2 h1 rfl rfl (Nat.le_refl 0) (Nat.le_refl 0) (Nat.le_refl 0),run_sizeOf hi]
  ·cases h
 ·rename_i id off n c
  split at h
  ·rename_i hh ll h1 h2
   split at h
   ·rename_i b1 b2
    rw [Nat.ble_eq] at b1 b2
    cases hx with
    | slc _ _ _ c' tg htg hc hm hr =>
     have hb:=run_bounds (P:=P) (w:=w) (isSlice:=true) (cap:=c') h2 h1 rfl rfl b2 b1 hc
     have hrun:(Instr.slice t (.slice (some ⟨tg.block,tg.shift+off,none⟩) n c') lo hi' none).run P w =
       .ok (.slice (if c'=ll then some ⟨tg.block,tg.shift+off,none⟩ else some ⟨tg.block,tg.shift+off+ll * i.size,none⟩) (hh-ll) (c'-ll)) w:=by
      simp [Instr.slice,run_underlying ht,hb,run_sizeOf hi,addr_add]
     refine ⟨_,hrun,?_⟩
     simp only [] at h
     by_cases hl0:ll=0
     ·rw [if_pos hl0] at h
      cases h
      subst hl0
      have:(if c'=0 then some (⟨tg.block,tg.shift+off,none⟩:Addr) else some ⟨tg.block,tg.shift+off+0 * i.size,none⟩)=some ⟨tg.block,tg.shift+off,none⟩:=by simp
      rw [this]
      exact .slc id off hh c' tg htg (by omega) hm hr
     ·rw [if_neg hl0] at h
      by_cases hlh:ll=hh
      ·rw [if_pos hlh] at h
       cases h
       subst hlh
       rw [Nat.sub_self]
       split <;> exact .tail _ _ _ _
      ·rw [if_neg hlh] at h
       have hne:¬ c'=ll:=by omega
       rw [if_neg hne]
       split at h
       ·rename_i b hb'
        obtain ⟨cc,ee,fr,g1,g2,g3,g4,g5⟩:=hR.look hb' htg
        split at h
        ·rename_i hu
         cases h
         have e1:tg.shift+off+ll * i.size=tg.shift+(off+ll * i.size):=by omega
         rw [e1]
         refine .slc id _ _ _ tg htg (by omega) (by omega) ?_
         rcases hu with hu | hu
         ·rcases hr with hr | hr
          ·exact .inl hr
          ·right
           rw [g4,hu]
           rw [g4,hu] at hr
           have:ll * i.size+(c'-ll) * i.size=c' * i.size:=by rw [← Nat.add_mul];congr 1;omega
           omega
         ·exact .inl (g4.trans hu)
        ·cases h
       ·cases h
    | tail _ _ c' ad =>
     have hb:=run_bounds (P:=P) (w:=w) (isSlice:=true) (cap:=c') h2 h1 rfl rfl b2 b1 (Nat.zero_le _)
     have hrun:(Instr.slice t (.slice (some ad) 0 c') lo hi' none).run P w=.ok (.slice (if c'=ll then some ad else some (ad.add (ll * i.size))) (hh-ll) (c'-ll)) w:=by
      simp [Instr.slice,run_underlying ht,hb,run_sizeOf hi]
     refine ⟨_,hrun,?_⟩
     simp only [Option.some.injEq] at h
     subst h
     obtain rfl:hh=0:=by omega
     rw [Nat.zero_sub]
     split <;> exact .tail _ _ _ _
   ·cases h
  ·cases h
 ·cases h
theorem sls_sound {t:TypeId} (ht:P.underlying t=some .string) {s:ByteArray} {lo hi':Option Value} {v:Value} (h:slsR s lo hi'=some v) :
  (Instr.sliceAt t (.string s) lo hi' none).run P w=.ok v w∧VRel ρ v v:=by
 have hs:(Instr.sliceAt t (.string s) lo hi' none).run P w=(Instr.slice t (.string s) lo hi' none).run P w:=by simp [Instr.sliceAt,run_underlying ht]
 rw [hs]
 unfold slsR at h
 split at h
 ·rename_i hh ll h1 h2
  split at h
  ·rename_i b1 b2
   rw [Nat.ble_eq] at b1 b2
   cases h
   refine ⟨?_,.str _⟩
   have hb:=run_bounds (P:=P) (w:=w) (isSlice:=false) (cap:=s.size) h2 h1 rfl rfl b2 b1 (Nat.le_refl _)
   have he:s.extract ll hh=⟨((s.data.toList.drop ll).take (hh-ll)).toArray⟩:=by
    apply ByteArray.ext
    rw [ByteArray.data_extract]
    apply Array.ext'
    simp only [Array.toList_extract]
   simp only [Instr.slice,Sem.run_bind,run_underlying ht,Result.andThen_ok]
   have hsz:s.data.size=s.size:=rfl
   rw [hsz] at hb
   simp [hb,he]
  ·cases h
 ·cases h
theorem bytesOf_map:∀ {l:List Value} {bs:List UInt8},bytesOf l=some bs→∃ ns:List Int,l=ns.map (Value.int .u8)∧bs=ns.map fun n=>UInt8.ofNat n.toNat
 | [],bs,h=>by simp only [bytesOf,Option.some.injEq] at h;subst h;exact ⟨[],rfl,rfl⟩
 | x :: r,bs,h=>by
  unfold bytesOf at h
  split at h
  ·rename_i heq;cases heq
  ·rename_i n r' heq
   cases heq
   split at h
   ·rename_i s hs
    cases h
    obtain ⟨ns,rfl,rfl⟩:=bytesOf_map hs
    exact ⟨n :: ns,rfl,rfl⟩
   ·cases h
  ·cases h
theorem foldl_push (l:List Int):∀ (s:ByteArray),l.foldl (fun (r:ByteArray) n=>r.push (UInt8.ofNat n.toNat)) s=⟨s.data++(l.map fun n=>UInt8.ofNat n.toNat).toArray⟩:=by
 induction l with
 | nil=>intro s;simp
 | cons n l ih =>
  intro s
  rw [List.foldl_cons,ih]
  apply ByteArray.ext
  apply Array.ext'
  simp [ByteArray.push]
theorem cvbs_sound (hR:Rep ρ H w) {s d e:TypeId} {i:TypeInfo} (hs:P.underlying s=some (.slice e)) (he:P.underlying e=some (.int .u8)) (hd:P.underlying d=some .string)
  {x x':Value} (hx:VRel ρ x x') {id o n c:Nat} (hxe:x=.slice (some ⟨id,o,none⟩) (n+1) c) {b:Blk} (hb:H id=some b) (hn:o+(n+1)≤b.cells.length)
  {l:List UInt8} (hl:bytesOf ((b.cells.drop o).take (n+1))=some l):(convert s d x').run P w=.ok (.string ⟨l.toArray⟩) w:=by
 subst hxe
 cases hx with
 | slc _ _ _ c' tg htg hc hm hr =>
  obtain ⟨cc,ee,fr,g1,g2,g3,g4,g5,g6⟩:=hR.look hb htg
  obtain ⟨ns,h1,rfl⟩:=bytesOf_map hl
  have hseg:=g5.seg (off:=o) (n:=n+1) hn (by omega)
  have hld:=run_loadCells_row (P:=P) (w:=w) (off:=tg.shift+o) (n:=n+1) g1 (by omega)
  have hlist:((cc.toList.drop (tg.shift+o)).take (n+1))=ns.map (Value.int .u8):=by
   rw [← h1]
   apply List.ext_getElem?
   intro j
   obtain ⟨hs1,hs2⟩:=hseg
   simp only [List.size_toArray] at hs1
   by_cases hj:j<((b.cells.drop o).take (n+1)).length
   ·have e1:((b.cells.drop o).take (n+1))[j]? = some (((b.cells.drop o).take (n+1))[j]):=List.getElem?_eq_getElem hj
    have hj':j<((cc.toList.drop (tg.shift+o)).take (n+1)).length:=by rw [← hs1];exact hj
    have e2:((cc.toList.drop (tg.shift+o)).take (n+1))[j]? = some (((cc.toList.drop (tg.shift+o)).take (n+1))[j]):=List.getElem?_eq_getElem hj'
    have hr:=hs2 j _ _ (by rw [List.getElem?_toArray];exact e1) (by rw [List.getElem?_toArray];exact e2)
    rw [e1,e2]
    congr 1
    have hm:((b.cells.drop o).take (n+1))[j]∈ns.map (Value.int .u8):=by rw [← h1];exact List.getElem_mem _
    obtain ⟨m,_,hm2⟩:=List.mem_map.1 hm
    rw [← hm2] at hr ⊢
    exact hr.int_inv
   ·rw [List.getElem?_eq_none (by omega),List.getElem?_eq_none (by omega)]
  rw [run_convert_bytes_string w s d e (some ⟨tg.block,tg.shift+o,none⟩) (n+1) c' hs he hd]
  rw [hlist] at hld
  rw [run_bytesToString w ⟨tg.block,tg.shift+o,none⟩ (n+1) c' ns hld,foldl_push]
  simp
theorem cvbs_zero {s d e:TypeId} (hs:P.underlying s=some (.slice e)) (he:P.underlying e=some (.int .u8)) (hd:P.underlying d=some .string) (ad:Option Addr) (c:Nat) :
  (convert s d (.slice ad 0 c)).run P w=.ok (.string ⟨#[]⟩) w:=by
 rw [run_convert_bytes_string w s d e ad 0 c hs he hd]
 cases ad with
 | none=>simp [Conv.bytesToString];rfl
 | some ad =>
  have hld:(loadCells ad 0).run P w=.ok (([]:List Int).map (Value.int .u8)).toArray w:=by simp [loadCells,loadCellsFrom]
  rw [run_bytesToString w ad 0 c [] hld]
  rfl
theorem partsOf_sound (hT:TRel ρ T a):∀ {os:List (Nat × Operand)} {xs:List (Nat × Opd)},partsOf os=some xs →
  (xs.map fun p=>(p.1,p.2.ev T)).length=(os.map fun p=>(p.1,a.eval p.2)).length ∧
  ∀ (i:Nat) p q,(xs.map fun p=>(p.1,p.2.ev T))[i]? = some p→(os.map fun p=>(p.1,a.eval p.2))[i]? = some q→p.1=q.1∧VRel ρ p.2 q.2
 | [],xs,h=>by simp only [partsOf,Option.some.injEq] at h;subst h;exact ⟨rfl,by simp⟩
 | o :: os,xs,h=>by
  simp only [partsOf] at h
  split at h
  ·rename_i y s hy hs
   cases h
   obtain ⟨ih1,ih2⟩:=partsOf_sound hT hs
   refine ⟨by simpa using ih1,fun i p q hp hq=>?_⟩
   cases i with
   | zero=>simp at hp hq;subst hp hq;exact ⟨rfl,opd_sound hT hy⟩
   | succ i=>exact ih2 i p q (by simpa using hp) (by simpa using hq)
  ·cases h
theorem placesOf_sound:∀ {fs:List Field} {pl:List (Nat × Nat)},placesOf P fs=some pl→∀ (f:Field→Sem (Nat × Nat)),(f=fun f=>do pure (f.offset, ← sizeOf f.type)) →
  (fs.mapM f).run P w=.ok pl w
 | [],pl,h,f,hf=>by simp only [placesOf,Option.some.injEq] at h;subst h;simp
 | x :: fs,pl,h,f,hf=>by
  simp only [placesOf] at h
  split at h
  ·rename_i i s hi hs
   cases h
   have ih:=placesOf_sound hs f hf
   subst hf
   simp only [List.mapM_cons,Sem.run_bind,run_sizeOf hi,Result.andThen_ok,Sem.run_pure,ih]
  ·cases h
theorem bld_sound (hT:TRel ρ T a) {t:TypeId} {i:TypeInfo} (hi:P.info? t=some i) {fs:Array Field} (hu:P.underlying t=some (.struct fs)) {z:Value} (hz:i.zero=some z) (hsc:z.cells.all scal=true)
  {pl:List (Nat × Nat)} (hpl:placesOf P fs.toList=some pl) {ps:Array (Nat × Operand)} {qs:List (Nat × Opd)} (hq:partsOf ps.toList=some qs) {c:Array Value}
  (h:Instr.fill (fun i=>pl[i]?) z.cells (qs.map fun p=>(p.1,p.2.ev T))=some c) :
  ∃ c',(Instr.build t (ps.map fun (i,x)=>(i,a.eval x))).run P w=.ok (.agg c') w∧ARel ρ c c':=by
 obtain ⟨hl,hr⟩:=partsOf_sound hT hq
 obtain ⟨c',h1,h2⟩:=fill_sound (fun i=>pl[i]?) _ _ z.cells z.cells c hl hr (arel_of_scal hsc) h
 refine ⟨c',?_,h2⟩
 have hm:=placesOf_sound (w:=w) hpl _ rfl
 have hm':(fs.mapM fun f=>(do pure (f.offset, ← sizeOf f.type):Sem (Nat × Nat))).run P w=.ok pl.toArray w:=by
  rw [Array.mapM_eq_mapM_toList,Sem.run_map,hm,Result.andThen_ok]
 have hfun:(fun (i:Nat)=>pl.toArray[i]?)=fun (i:Nat)=>pl[i]? := by funext i;simp
 have hps:(ps.map fun (i,x)=>(i,a.eval x)).toList=ps.toList.map fun p=>(p.1,a.eval p.2):=by simp
 unfold Instr.build
 rw [Sem.run_bind,run_zeroValue hi hz,Result.andThen_ok,Sem.run_bind,run_underlying hu,Result.andThen_ok,Sem.run_bind]
 simp only []
 rw [hm',Result.andThen_ok]
 simp only [hfun,hps,h1,Sem.run_pure]
theorem partsOf_nil {ps:Array (Nat × Operand)} (hq:partsOf ps.toList=some []):ps = #[]:=by
 have:∀ l:List (Nat × Operand),partsOf l=some []→l=[]:=by
  intro l h
  cases l with
  | nil=>rfl
  | cons x r =>
   obtain ⟨i,o⟩:=x
   simp only [partsOf] at h
   split at h <;> cases h
 have:=this _ hq
 cases ps;simp_all
theorem bldA_run {t:TypeId} {i:TypeInfo} (hi:P.info? t=some i) {n:Nat} {e:TypeId} (hu:P.underlying t=some (.array n e)) {z:Value} (hz:i.zero=some z) {ie:TypeInfo} (hie:P.info? e=some ie)
  {ps:Array (Nat × Operand)} (hq:partsOf ps.toList=some []) {f:Operand→Value}:(Instr.build t (ps.map fun (i,x)=>(i,f x))).run P w=.ok (.agg z.cells) w:=by
 rw [partsOf_nil hq]
 unfold Instr.build
 rw [Sem.run_bind,run_zeroValue hi hz,Result.andThen_ok,Sem.run_bind,run_underlying hu,Result.andThen_ok,Sem.run_bind,run_sizeOf hie,Result.andThen_ok]
 simp [Instr.fill]
theorem fev_sound (hR:Rep ρ H w) (hT:TRel ρ T a) {o:Oper} {f:FOp} (htr:trF P o.op=some f) {v:Value} (h:fev H (Opd.ev T) f=some v) :
  ∃ v',(execOp a.eval o).run P w=.ok (.value v') w∧VRel ρ v v':=by
 obtain ⟨dst,op,ty,pos,aft,guard⟩:=o
 have wrapS:∀ {s:Sem Value} {v':Value},s.run P w=.ok v' w→(do pure (Next.value (← s)):Sem Next).run P w=.ok (.value v') w:=fun hs=>by
  rw [Sem.run_bind,hs];rfl
 cases op <;> simp only [trF] at htr <;> (try (cases htr;done))
 case move x =>
  simp only [Option.map_eq_some_iff] at htr
  obtain ⟨y,hy,rfl⟩:=htr
  simp only [fev,Option.some.injEq] at h;subst h
  exact ⟨_,rfl,opd_sound hT hy⟩
 case assign x =>
  simp only [Option.map_eq_some_iff] at htr
  obtain ⟨y,hy,rfl⟩:=htr
  simp only [fev,Option.some.injEq] at h;subst h
  exact ⟨_,rfl,opd_sound hT hy⟩
 case pick c x y =>
  split at htr
  ·rename_i c' x' y' hc hx hy
   cases htr
   have rc:=opd_sound hT hc
   simp only [fev] at h
   split at h
   ·rename_i hb;cases h;rw [hb] at rc
    exact ⟨_,by simp [execOp,rc.bool_inv,asBool],opd_sound hT hx⟩
   ·rename_i hb;cases h;rw [hb] at rc
    exact ⟨_,by simp [execOp,rc.bool_inv,asBool],opd_sound hT hy⟩
   ·cases h
  ·cases htr
 case build t ps =>
  split at htr
  ·rename_i i fs qs hi hu hq
   split at htr
   ·rename_i z pl hz hpl
    split at htr
    ·rename_i hsc
     cases htr
     simp only [fev] at h
     split at h
     ·rename_i c hc
      cases h
      obtain ⟨c',h1,h2⟩:=bld_sound (w:=w) hT hi hu hz hsc hpl hq hc
      exact ⟨_,wrapS h1,.mkAgg h2⟩
     ·cases h
    ·cases htr
   ·cases htr
  ·rename_i i n e hi hu hq
   split at htr
   ·rename_i z ie hz hie
    split at htr
    ·rename_i hsc
     cases htr
     simp only [fev,List.map_nil,Instr.fill,Option.some.injEq] at h
     subst h
     exact ⟨_,wrapS (bldA_run hi hu hz hie hq),.mkAgg (arel_of_scal hsc)⟩
    ·cases htr
   ·cases htr
  ·cases htr
 case load t x =>
  split at htr
  ·rename_i y i u hy hi hu
   cases htr
   obtain ⟨v',h1,h2⟩:=ld_sound hR hi hu (opd_sound hT hy) h
   exact ⟨v',wrapS h1,h2⟩
  ·cases htr
 case nilCheck x =>
  simp only [Option.map_eq_some_iff] at htr
  obtain ⟨y,hy,rfl⟩:=htr
  have rx:=opd_sound hT hy
  simp only [fev] at h
  split at h
  ·rename_i id off he
   cases h;rw [he] at rx
   have rx':=rx
   obtain ⟨-,tg,ht,hv⟩:=rx.ptr_inv
   exact ⟨a.eval x,by simp [execOp,hv],rx'⟩
  ·rename_i g b c he
   cases h;rw [he] at rx
   have rx':=rx
   obtain ⟨b',c',hv, -, -⟩:=rx.func_inv
   exact ⟨a.eval x,by simp [execOp,hv],rx'⟩
  ·cases h
 case binOp op t x y yt =>
  split at htr
  ·rename_i x' y' hx hy
   have rx:=opd_sound hT hx
   have ry:=opd_sound hT hy
   unfold trBin at htr
   split at htr
   ·rename_i hu
    split at htr
    ·cases htr
     simp only [fev] at h
     split at h
     ·rename_i b c e1 e2;cases h;rw [e1] at rx;rw [e2] at ry
      refine ⟨.bool (b == c),?_,by simpa using VRel.bool _⟩
      have:=(eqb_sound (w:=w) (x:=x) (y:=y) hu b c).1
      simp only [execOp,rx.bool_inv,ry.bool_inv]
      exact wrapS this
     ·cases h
    ·cases htr
     simp only [fev] at h
     split at h
     ·rename_i b c e1 e2;cases h;rw [e1] at rx;rw [e2] at ry
      refine ⟨.bool (!(b == c)),?_,by cases b <;> cases c <;> exact VRel.bool _⟩
      have:=(eqb_sound (w:=w) (x:=x) (y:=y) hu b c).2
      simp only [execOp,rx.bool_inv,ry.bool_inv]
      exact wrapS this
     ·cases h
    ·cases htr
   ·cases htr
    obtain ⟨h1,h2⟩:=bin_sound (P:=P) (w:=w) (t:=t) (x:=x) (y:=y) rx ry h
    exact ⟨v,wrapS h1,h2⟩
   ·cases htr
    obtain ⟨h1,h2⟩:=bin_sound (P:=P) (w:=w) (t:=t) (x:=x) (y:=y) rx ry h
    exact ⟨v,wrapS h1,h2⟩
   ·rename_i fs hu
    split at htr
    ·rename_i ks hks
     split at htr
     ·rename_i hg
      obtain ⟨g1,g2⟩:=hg
      split at htr
      ·cases htr
       simp only [fev] at h
       split at h
       ·rename_i b c e1 e2
        split at h
        ·rename_i r hr
         cases h;rw [e1] at rx;rw [e2] at ry
         obtain ⟨b',hb,rb⟩:=rx.agg_inv
         obtain ⟨c',hc,rc⟩:=ry.agg_inv
         have:=(eqa_sound (w:=w) (x:=x) (y:=y) hu hks g1 g2 rb rc hr).1
         refine ⟨.bool r,?_,by simpa using VRel.bool _⟩
         simp only [execOp,hb,hc]
         exact wrapS this
        ·cases h
       ·cases h
      ·cases htr
       simp only [fev] at h
       split at h
       ·rename_i b c e1 e2
        split at h
        ·rename_i r hr
         cases h;rw [e1] at rx;rw [e2] at ry
         obtain ⟨b',hb,rb⟩:=rx.agg_inv
         obtain ⟨c',hc,rc⟩:=ry.agg_inv
         have:=(eqa_sound (w:=w) (x:=x) (y:=y) hu hks g1 g2 rb rc hr).2
         refine ⟨.bool (!r),?_,by cases r <;> exact VRel.bool _⟩
         simp only [execOp,hb,hc]
         exact wrapS this
        ·cases h
       ·cases h
      ·cases htr
     ·cases htr
    ·cases htr
   ·rename_i D _ _ _ _ hu
    split at htr
    ·rename_i kd hkd
     cases htr
     simp only [fev] at h
     split at h
     ·rename_i r hr
      cases h
      have:=(eqn_sound (w:=w) (x:=x) (y:=y) hu hkd rx ry hr).1
      exact ⟨.bool r,wrapS this,by simpa using VRel.bool _⟩
     ·cases h
    ·rename_i kd hkd
     cases htr
     simp only [fev] at h
     split at h
     ·rename_i r hr
      cases h
      have:=(eqn_sound (w:=w) (x:=x) (y:=y) hu hkd rx ry hr).2
      exact ⟨.bool (!r),wrapS this,by cases r <;> exact VRel.bool _⟩
     ·cases h
    ·cases htr
   ·cases htr
  ·cases htr
 case unOp op t x =>
  simp only [Option.map_eq_some_iff] at htr
  obtain ⟨y,hy,rfl⟩:=htr
  obtain ⟨h1,h2⟩:=un_sound (P:=P) (w:=w) (opd_sound hT hy) h
  exact ⟨v,wrapS h1,h2⟩
 case convert s d x =>
  split at htr
  ·rename_i y hy
   have rx:=opd_sound hT hy
   unfold trConv at htr
   split at htr
   ·rename_i k1 k2 hs hd
    cases htr
    simp only [fev] at h
    split at h
    ·rename_i k n he
     cases h;rw [he] at rx
     refine ⟨_,wrapS ?_,.int _ _⟩
     rw [rx.int_inv]
     simp [convert,run_underlying hs,run_underlying hd,Conv.intToInt]
    ·cases h
   ·rename_i hs hd
    cases htr
    simp only [fev] at h
    split at h
    ·rename_i s' he
     cases h;rw [he] at rx
     refine ⟨_,wrapS ?_,.str _⟩
     rw [rx.str_inv]
     simp [convert,run_underlying hs,run_underlying hd]
    ·cases h
   ·rename_i e hs hd
    split at htr
    ·rename_i he
     split at htr
     ·rename_i i hi
      split at htr
      ·rename_i hsz
       cases htr
       simp only [fev] at h
       split at h
       ·rename_i hx
        cases h
        rw [hx] at rx
        cases hx':a.eval x <;> rw [hx'] at rx <;> cases rx
        exact ⟨_,wrapS (by rw [hx'];exact cvbs_zero hs he hd _ _),.str _⟩
       ·rename_i id o hx
        cases h
        rw [hx] at rx
        cases hx':a.eval x <;> rw [hx'] at rx <;> cases rx
        exact ⟨_,wrapS (by rw [hx'];exact cvbs_zero hs he hd _ _),.str _⟩
       ·rename_i id o n hx
        split at h
        ·cases h
         rw [hx] at rx
         cases hx':a.eval x <;> rw [hx'] at rx <;> cases rx
         exact ⟨_,wrapS (by rw [hx'];exact cvbs_zero hs he hd _ _),.str _⟩
        ·split at h
         ·rename_i b hb
          rename_i hn _
          split at h
          ·rename_i hle
           rw [Nat.ble_eq] at hle
           split at h
           ·rename_i l hl
            cases h
            obtain ⟨m,rfl⟩:∃ m,n=m+1:=⟨n-1,by have:n≠0:=fun e=>hn (by simp [e]);omega⟩
            exact ⟨_,wrapS (cvbs_sound hR (i:=i) hs he hd rx hx hb hle hl),.str _⟩
           ·cases h
          ·cases h
         ·cases h
       ·cases h
      ·cases htr
     ·cases htr
    ·cases htr
   ·cases htr
  ·cases htr
 case makeFunc fn fs cs =>
  cases fn <;> simp only [] at htr <;> (try (cases htr;done))
  rename_i f'
  split at htr
  ·rename_i a' c' ha hc
   cases htr
   simp only [fev,Option.some.injEq] at h
   subst h
   have r1:=opdL_sound hT ha
   have r2:=opdL_sound hT hc
   refine ⟨_,wrapS rfl,.func _ _ _ _ _ ?_ ?_ ?_ ?_⟩
   ·simpa using r1.1
   ·intro j x y hx hy;exact r1.2 j x y hx (by simpa using hy)
   ·simpa using r2.1
   ·intro j x y hx hy;exact r2.2 j x y hx (by simpa using hy)
  ·cases htr
 case slice t x lo hi mx =>
  cases mx <;> simp only [] at htr <;> (try (cases htr;done))
  split at htr
  ·rename_i x' lo' hi' e hx hlo hhi ht
   simp only [Option.map_eq_some_iff] at htr
   obtain ⟨inf,hinf,rfl⟩:=htr
   have rx:=opd_sound hT hx
   simp only [fev] at h
   have hb:∃ l h',boundOf 0 (lo'.map (Opd.ev T))=some l∧(∃ d,boundOf d (hi'.map (Opd.ev T))=some h'):=by
    unfold slcR at h
    split at h
    ·split at h
     ·rename_i h1 h2;exact ⟨_,_,h2,_,h1⟩
     ·cases h
    ·split at h
     ·rename_i h1 h2;exact ⟨_,_,h2,_,h1⟩
     ·cases h
    ·cases h
   obtain ⟨l,h',b1,d,b2⟩:=hb
   obtain ⟨v',h1,h2⟩:=slc_sound hR ht hinf rx h
   refine ⟨v',wrapS ?_,h2⟩
   rw [bound_rel hT hlo b1,bound_rel hT hhi b2]
   exact h1
  ·rename_i x' lo' hi' hx hlo hhi ht
   cases htr
   have rx:=opd_sound hT hx
   simp only [fev] at h
   split at h
   ·rename_i s he
    rw [he] at rx
    have hb:∃ l h',boundOf 0 (lo'.map (Opd.ev T))=some l∧(∃ d,boundOf d (hi'.map (Opd.ev T))=some h'):=by
     unfold slsR at h
     split at h
     ·rename_i h1 h2;exact ⟨_,_,h2,_,h1⟩
     ·cases h
    obtain ⟨l,h',b1,d,b2⟩:=hb
    obtain ⟨h1,h2⟩:=sls_sound (w:=w) ht h
    refine ⟨v,wrapS ?_,h2⟩
    rw [bound_rel hT hlo b1,bound_rel hT hhi b2,rx.str_inv]
    exact h1
   ·cases h
  ·cases htr
 case fieldAddr s x k =>
  split at htr
  ·rename_i y fs hy hu
   split at htr
   ·rename_i f hf
    split at htr
    ·rename_i i hi
     split at htr
     ·cases htr
     ·rename_i hsz
      cases htr
      have rx:=opd_sound hT hy
      simp only [fev] at h
      split at h
      ·rename_i id off he
       cases h;rw [he] at rx
       obtain ⟨-,tg,ht,hv⟩:=rx.ptr_inv
       refine ⟨.pointer (some ⟨tg.block,tg.shift+off+f.offset,none⟩),wrapS ?_,?_⟩
       ·rw [hv]
        simp [Instr.fieldAt,run_underlying hu,hf,Instr.sureAddr,fieldPlace,run_sizeOf hi,hsz,addr_add]
       ·rw [show tg.shift+off+f.offset=tg.shift+(off+f.offset) by omega]
        exact .ptr _ _ _ ht
      ·cases h
    ·cases htr
   ·cases htr
  ·cases htr
 case field t x k =>
  split at htr
  ·rename_i y fs hy hu
   split at htr
   ·rename_i f hf
    split at htr
    ·rename_i i u hi hu'
     cases htr
     have rx:=opd_sound hT hy
     simp only [fev] at h
     split at h
     ·rename_i cs he
      rw [he] at rx
      obtain ⟨cs',hv,rc⟩:=rx.agg_inv
      obtain ⟨v',h1,h2⟩:=part_sound (w:=w) hi hu' rc h
      refine ⟨v',wrapS ?_,h2⟩
      rw [hv]
      simp only [Instr.field,Sem.run_bind,run_underlying hu,Result.andThen_ok,hf,asAgg,Sem.run_pure,h1]
     ·cases h
    ·cases htr
   ·cases htr
  ·cases htr
 case indexAddr t x i =>
  split at htr
  ·rename_i x' i' e hx hi ht
   simp only [Option.map_eq_some_iff] at htr
   obtain ⟨inf,hinf,rfl⟩:=htr
   have rx:=opd_sound hT hx
   have ri:=opd_sound hT hi
   simp only [fev] at h
   split at h
   ·rename_i id off n c k j e1 e2
    split at h
    ·rename_i hj
     cases h
     rw [e1] at rx;rw [e2] at ri
     have hi':=ri.int_inv
     cases hx':a.eval x <;> rw [hx'] at rx <;> cases rx
     ·rename_i cap tg htg hm hr hc
      refine ⟨.pointer (some ⟨tg.block,tg.shift+off+j.toNat * inf.size,none⟩),wrapS ?_,?_⟩
      ·rw [hx',hi']
       simp [Instr.indexAt,asIntOf,run_underlying ht,hj,run_sizeOf hinf,addr_add]
      ·rw [show tg.shift+off+j.toNat * inf.size=tg.shift+(off+j.toNat * inf.size) by omega]
       exact .ptr _ _ _ htg
     ·omega
    ·cases h
   ·cases h
  ·rename_i x' i' n e hx hi ht
   simp only [Option.map_eq_some_iff] at htr
   obtain ⟨inf,hinf,rfl⟩:=htr
   have rx:=opd_sound hT hx
   have ri:=opd_sound hT hi
   simp only [fev] at h
   split at h
   ·rename_i id off k j e1 e2
    split at h
    ·rename_i hj
     cases h
     rw [e1] at rx;rw [e2] at ri
     have hi':=ri.int_inv
     obtain ⟨-,tg,htg,hv⟩:=rx.ptr_inv
     refine ⟨.pointer (some ⟨tg.block,tg.shift+off+j.toNat * inf.size,none⟩),wrapS ?_,?_⟩
     ·rw [hv,hi']
      simp [Instr.indexAt,asIntOf,run_underlying ht,hj,run_sizeOf hinf,addr_add,Instr.sureAddr]
     ·rw [show tg.shift+off+j.toNat * inf.size=tg.shift+(off+j.toNat * inf.size) by omega]
      exact .ptr _ _ _ htg
    ·cases h
   ·cases h
  ·cases htr
 case index t x i =>
  split at htr
  ·rename_i x' i' hx hi ht
   cases htr
   have rx:=opd_sound hT hx
   have ri:=opd_sound hT hi
   simp only [fev] at h
   split at h
   ·rename_i s k j e1 e2
    split at h
    ·rename_i hj
     split at h
     ·rename_i b hb
      cases h
      rw [e1] at rx;rw [e2] at ri
      refine ⟨.int .u8 b.toNat,wrapS ?_,.int _ _⟩
      rw [rx.str_inv,ri.int_inv]
      have hlt:j.toNat<s.data.size:=by
       have:=(List.getElem?_eq_some_iff.1 hb).1;simpa using this
      have hb':s[j.toNat]? = some b:=by
       rw [ByteArray.getElem?_lt' s j.toNat hlt]
       have:s.data[j.toNat]? = some b:=by simpa using hb
       rw [Array.getElem?_eq_getElem hlt] at this
       exact this
      simp [Instr.index,asIntOf,run_underlying ht,hj,hb']
     ·cases h
    ·cases h
   ·cases h
  ·cases htr
 case extract x i =>
  simp only [Option.map_eq_some_iff] at htr
  obtain ⟨y,hy,rfl⟩:=htr
  have rx:=opd_sound hT hy
  simp only [fev] at h
  split at h
  ·rename_i vs he
   rw [he] at rx
   obtain ⟨vs',hv,rv⟩:=rx.tup_inv
   obtain ⟨u,hu,r⟩:=rv.get h
   exact ⟨u,wrapS (by rw [hv];simp [Instr.extract,hu]),r⟩
  ·cases h
 case call c =>
  obtain ⟨callee,args,ats⟩:=c
  cases callee with
  | value f=>simp only [] at htr;cases htr
  | invoke r m=>simp only [] at htr;cases htr
  | builtin b =>
   cases b <;> simp only [] at htr <;> (try (cases htr;done))
   case len =>
    split at htr
    ·rename_i x t hargs hats
     obtain rfl:args = #[x]:=by apply Array.ext';simpa using hargs
     obtain rfl:ats = #[t]:=by apply Array.ext';simpa using hats
     split at htr
     ·rename_i y e hy ht
      cases htr
      have rx:=opd_sound hT hy
      simp only [fev] at h
      split at h
      ·rename_i b n c he
       cases h;rw [he] at rx
       refine ⟨.int .i64 n,?_,.int _ _⟩
       cases hx':a.eval x <;> rw [hx'] at rx <;> cases rx <;>
        simp [execOp,resolve,invoke,builtin,Builtin.len_,hx',run_underlying ht,goInt]
      ·cases h
     ·rename_i y hy ht
      cases htr
      have rx:=opd_sound hT hy
      simp only [fev] at h
      split at h
      ·rename_i s he
       cases h;rw [he] at rx
       have hsz:(s.data.toList.length:Int)=(s.size:Int):=by rw [Array.length_toList];rfl
       refine ⟨.int .i64 s.data.toList.length,?_,.int _ _⟩
       simp only [execOp,resolve,invoke,builtin,List.map_toArray,List.map_cons,List.map_nil,rx.str_inv,Sem.run_bind,Sem.run_pure,Result.andThen_ok]
       simp [Builtin.len_,run_underlying ht,goInt,hsz]
      ·cases h
     ·cases htr
    ·cases htr
   case max =>
    split at htr
    ·rename_i x y hargs
     obtain rfl:args = #[x,y]:=by apply Array.ext';simpa using hargs
     split at htr
     ·rename_i x' y' hx hy
      cases htr
      have rx:=opd_sound hT hx
      have ry:=opd_sound hT hy
      simp only [fev] at h
      split at h
      ·rename_i k n k' m e1 e2
       cases h;rw [e1] at rx;rw [e2] at ry
       refine ⟨_,?_,.int _ _⟩
       simp only [execOp,resolve,invoke,builtin,List.map_toArray,List.map_cons,List.map_nil,rx.int_inv,ry.int_inv,Sem.run_bind,Sem.run_pure,Result.andThen_ok,run_max_int2]
      ·cases h
     ·cases htr
    ·cases htr
   case min =>
    split at htr
    ·rename_i x y hargs
     obtain rfl:args = #[x,y]:=by apply Array.ext';simpa using hargs
     split at htr
     ·rename_i x' y' hx hy
      cases htr
      have rx:=opd_sound hT hx
      have ry:=opd_sound hT hy
      simp only [fev] at h
      split at h
      ·rename_i k n k' m e1 e2
       cases h;rw [e1] at rx;rw [e2] at ry
       refine ⟨_,?_,.int _ _⟩
       simp only [execOp,resolve,invoke,builtin,List.map_toArray,List.map_cons,List.map_nil,rx.int_inv,ry.int_inv,Sem.run_bind,Sem.run_pure,Result.andThen_ok,run_min_int2]
      ·cases h
     ·cases htr
    ·cases htr
end
end Go.Eng
set_option linter.unusedVariables false
set_option linter.unusedSimpArgs false
namespace Go.Eng
inductive AOp where
 | box (x:Opd)
 | bsl (sz n:Nat) (zero:Array Value) (parts:List (Nat × Opd))
 | msl (sz bytes:Nat) (zero:Array Value) (l c:Opd)
def mkv (id:Nat):Option Nat→Value
 | none=>.pointer (some ⟨id,0,none⟩)
 | some n=>.slice (some ⟨id,0,none⟩) n 0
def aev (e:Opd→Value):AOp→Option (Option Nat × Blk)
 | .box x=>match (e x).cells.all Value.oneCell' with
  | true=>some (none,⟨0,true,(e x).cells.toList⟩)
  | false=>none
 | .bsl sz n zero parts=>match Instr.fill (fun i=>some (i * sz,sz)) (madeCells zero (n * sz)) (parts.map fun p=>(p.1,e p.2)) with
  | some cs=>match cs.all Value.oneCell' with
   | true=>some (some n,⟨sz,true,cs.toList⟩)
   | false=>none
  | none=>none
 | .msl sz bytes zero l c=>match e l,e c with
  | .int _ l,.int _ c =>
   if 0≤l∧l≤c∧(bytes:Int) * c≤281474976710656∧c≤9223372036854775807 then
    some (some l.toNat,⟨sz,true,(madeCells zero (c.toNat * sz)).toList⟩)
   else none
  | _,_=>none
def trA (P:Program):Op→Option AOp
 | .alloc e=>match P.info? e with
  | some i=>match i.zero with
   | some z=>if flat z then some (.box (.k z)) else none
   | none=>none
  | none=>none
 | .box _ x=>(opd x).map .box
 | .buildSlice t n ps=>match P.underlying t,partsOf ps.toList with
  | some (.slice e),some qs=>match P.info? e with
   | some i=>match i.zero with
    | some z=>if z.cells.all scal=true∧z.cells.size=i.size∧n * i.size≤16777216∧n≤maxLen then some (.bsl i.size n z.cells qs) else none
    | none=>none
   | none=>none
  | _,_=>none
 | .makeSlice t l c=>match P.underlying t,opd l,opd c with
  | some (.slice e),some l,some c=>match P.info? e with
   | some i=>match i.zero with
    | some z=>if z.cells.all scal=true∧z.cells.size=i.size then some (.msl i.size i.bytes z.cells l c) else none
    | none=>none
   | none=>none
  | _,_,_=>none
 | _=>none
section
variable {P:Program} {ρ : Ren} {H:Hp} {w:World} {T:Tm} {a:Act}
theorem CRel.of_arel {xs c:Array Value} (h:ARel ρ xs c) (h1:xs.all Value.oneCell'=true):CRel ρ xs.toList c 0:=by
 intro i v hv
 rw [Array.all_eq_true'] at h1
 have hv':xs[i]? = some v:=by simpa using hv
 obtain ⟨y,hy,r⟩:=h.get hv'
 exact ⟨h1 v (Array.mem_of_getElem? hv'),y,by simpa using hy,r⟩
theorem madeCells_scal {z:Array Value} (h:z.all scal=true) (n:Nat) (hz:0<z.size∨n=0):(madeCells z n).all scal=true:=by
 rw [Array.all_eq_true']
 intro x hx
 simp only [madeCells,Array.mem_map,Array.mem_range] at hx
 obtain ⟨i,hi,rfl⟩:=hx
 rcases hz with hz | rfl
 ·have hlt:i % z.size<z.size:=Nat.mod_lt _ hz
  rw [getElem!_pos z (i % z.size) hlt]
  rw [Array.all_eq_true'] at h
  exact h _ (Array.getElem_mem hlt)
 ·omega
theorem scal_one {v:Value} (h:scal v=true):v.oneCell'=true:=by
 unfold scal at h
 split at h <;> first | rfl | (cases h;done)
theorem Rep.alloc (hR:Rep ρ H w) {id:Nat} (hid : ρ id=none) {b:Blk} {c:Array Value} {e:TypeId} (hc:CRel ρ b.cells c 0) (hl:b.cells.length≤c.size) {w':World}
  (hw:w'.heap=(w.alloc (.cells c e)).heap):Rep (ρ.upd id ⟨w.heap.size,0,c.size,b.unit⟩) (H.upd id b) w':=by
 have hle : ρ.le (ρ.upd id ⟨w.heap.size,0,c.size,b.unit⟩):=Ren.le_upd hid
 have hold:∀ j bj tj,H j=some bj→(ρ.upd id ⟨w.heap.size,0,c.size,b.unit⟩) j=some tj→j≠id ∧ ρ j=some tj∧tj.block<w.heap.size:=by
  intro j bj tj h1 h2
  obtain ⟨t,g1,g2⟩:=hR.blk j bj h1
  have hj:j≠id:=fun e=>by rw [e,hid] at g1;cases g1
  simp only [Ren.upd,hj,if_false] at h2
  refine ⟨hj,h2,?_⟩
  rw [g1] at h2;cases h2
  exact g2.lt
 constructor
 ·intro j bj hj
  by_cases hji:j=id
  ·subst hji
   simp only [Hp.upd,if_true,Option.some.injEq] at hj
   subst hj
   refine ⟨_,Ren.upd_same _ _ _,?_⟩
   refine ⟨c,e,(0,0),by rw [hw];exact heap_alloc_new w _,by simp,hl,rfl,hc.mono hle,fun _=>⟨rfl,rfl⟩⟩
  ·simp only [Hp.upd,hji,if_false] at hj
   obtain ⟨t,g1,g2⟩:=hR.blk j bj hj
   refine ⟨t,hle _ _ g1,(g2.mono hle).world ?_⟩
   rw [hw];exact heap_alloc_old w _ g2.lt
 ·intro i j bi bj ti tj hi hj hij h1 h2 ho
  by_cases hii:i=id
  ·subst hii
   have hji:j≠i:=Ne.symm hij
   simp only [Hp.upd,hji,if_false] at hj
   obtain ⟨-, -,h3⟩:=hold j bj tj hj h2
   simp only [Ren.upd,if_true,Option.some.injEq] at h1
   subst h1
   simp only []
   omega
  ·simp only [Hp.upd,hii,if_false] at hi
   obtain ⟨-,g1,g2⟩:=hold i bi ti hi h1
   by_cases hjj:j=id
   ·subst hjj
    simp only [Ren.upd,if_true,Option.some.injEq] at h2
    subst h2
    simp only []
    omega
   ·simp only [Hp.upd,hjj,if_false] at hj
    obtain ⟨-,g3, -⟩:=hold j bj tj hj h2
    exact hR.sep i j bi bj ti tj hi hj hij g1 g3 ho
theorem Ext.alloc (hR:Rep ρ H w) {id:Nat} (hid : ρ id=none) {b:Blk} {c:Array Value} {e:TypeId} {w':World} (hw:w'.heap=(w.alloc (.cells c e)).heap)
  (ho:w'.os=w.os) (ht:w'.tape=w.tape) (hu:w'.output=w.output):Ext ρ H w (ρ.upd id ⟨w.heap.size,0,c.size,b.unit⟩) (H.upd id b) w' where
 le:=Ren.le_upd hid
 os:=ho
 tape:=ht
 output:=hu
 size:=by rw [hw];simp
 keep:=fun k hk _=>by rw [hw];exact heap_alloc_old w _ hk
 mine:=fun j bj tj h1 h3=>by
  by_cases hji:j=id
  ·subst hji
   simp only [Ren.upd,if_true,Option.some.injEq] at h3
   subst h3
   exact .inl (Nat.le_refl _)
  ·simp only [Hp.upd,hji,if_false] at h1
   simp only [Ren.upd,hji,if_false] at h3
   exact .inr ⟨j,bj,tj,h1,fun h=>h,h3,rfl⟩
theorem aev_sound (hT:TRel ρ T a) {id:Nat} (hid : ρ id=none) {o:Oper} {f:AOp} (htr:trA P o.op=some f) {k:Option Nat} {b:Blk} (h:aev (Opd.ev T) f=some (k,b)) :
  ∃ v' c e,(execOp a.eval o).run P w=.ok (.value v') (w.alloc (.cells c e))∧VRel (ρ.upd id ⟨w.heap.size,0,c.size,b.unit⟩) (mkv id k) v'∧b.cells.length≤c.size∧CRel ρ b.cells c 0:=by
 obtain ⟨dst,op,ty,pos,aft,guard⟩:=o
 have wrapS:∀ {s:Sem Value} {v':Value} {w':World},s.run P w=.ok v' w'→(do pure (Next.value (← s)):Sem Next).run P w=.ok (.value v') w':=fun hs=>by
  rw [Sem.run_bind,hs];rfl
 cases op <;> simp only [trA] at htr <;> (try (cases htr;done))
 case alloc e =>
  split at htr
  ·rename_i i hi
   split at htr
   ·rename_i z hz
    split at htr
    ·rename_i hf
     cases htr
     simp only [aev,Opd.ev] at h
     split at h
     ·rename_i h1
      cases h
      have hr:VRel ρ z z:=.of_flat hf
      refine ⟨_,z.cells,e,wrapS ?_,.ptr id 0 _ (Ren.upd_same _ _ _),by simp,CRel.of_arel hr.cells h1⟩
      simp [Instr.alloc,run_zeroValue hi hz,newVar,newRow]
     ·cases h
    ·cases htr
   ·cases htr
  ·cases htr
 case box e x =>
  simp only [Option.map_eq_some_iff] at htr
  obtain ⟨y,hy,rfl⟩:=htr
  have rx:=opd_sound hT hy
  simp only [aev] at h
  split at h
  ·rename_i h1
   cases h
   refine ⟨_,(a.eval x).cells,e,wrapS ?_,.ptr id 0 _ (Ren.upd_same _ _ _),?_,CRel.of_arel rx.cells h1⟩
   ·simp [Instr.box,newVar,newRow]
   ·have:=rx.cells.1;simp [this]
  ·cases h
 case buildSlice t n ps =>
  split at htr
  ·rename_i e qs ht hq
   split at htr
   ·rename_i i hi
    split at htr
    ·rename_i z hz
     split at htr
     ·rename_i hg
      obtain ⟨g1,g2,g3,g4⟩:=hg
      cases htr
      simp only [aev] at h
      split at h
      ·rename_i cs hcs
       split at h
       ·rename_i h1
        cases h
        obtain ⟨hl,hr⟩:=partsOf_sound hT hq
        have hz0:0<z.cells.size∨n * i.size=0:=by
         rcases Nat.eq_zero_or_pos z.cells.size with h0 | h0
         ·right;rw [← g2,h0];simp
         ·exact .inl h0
        obtain ⟨c',h2,h3⟩:=fill_sound (fun j=>some (j * i.size,i.size)) _ _ _ _ cs hl hr (arel_of_scal (madeCells_scal g1 (n * i.size) hz0)) hcs
        have hfs:∀ (ps:List (Nat × Value)) (z0 c0:Array Value),Instr.fill (fun j=>some (j * i.size,i.size)) z0 ps=some c0→c0.size=z0.size:=by
         intro ps
         induction ps with
         | nil=>intro z0 c0 h;simp only [Instr.fill,Option.some.injEq] at h;rw [h]
         | cons p ps ih =>
          intro z0 c0 h
          obtain ⟨j,v⟩:=p
          simp only [Instr.fill] at h
          split at h
          ·cases h
          ·rw [ih _ _ h]
           have hsz:∀ (l:List (Value × Nat)) (z1:Array Value),(l.foldl (fun cs (p:Value × Nat)=>cs.setIfInBounds (j * i.size+p.2) p.1) z1).size=z1.size:=by
            intro l
            induction l with
            | nil=>intro z1;rfl
            | cons q l ih2=>intro z1;rw [List.foldl_cons,ih2];simp
           rw [← Array.foldl_toList]
           exact hsz _ _
        have hsz:c'.size=n * i.size:=by rw [hfs _ _ _ h2];exact size_madeCells _ _
        refine ⟨.slice (some ⟨w.heap.size,0,none⟩) n n,c',e,wrapS ?_,?_,by simp [h3.1],CRel.of_arel h3 h1⟩
        ·have hlim:¬ (n * i.size>2 ^ 24):=by omega
         have hps:(ps.map fun (i,x)=>(i,a.eval x)).toList=ps.toList.map fun p=>(p.1,a.eval p.2):=by simp
         by_cases h0:n * i.size=0
         ·have e0:(Array.range 0).map (fun i=>(#[]:Array Value)[i % (#[]:Array Value).size]!)=madeCells z.cells (n * i.size):=by rw [h0];simp [madeCells,Array.range_zero']
          simp only [Instr.buildSlice,Sem.run_bind,run_underlying ht,Result.andThen_ok,run_sizeOf hi]
          rw [if_neg hlim,if_pos h0]
          rw [h0] at e0 h2
          rw [Sem.run_bind,Sem.run_pure,Result.andThen_ok,h0,e0,hps,h2]
          rfl
         ·simp only [Instr.buildSlice,Sem.run_bind,run_underlying ht,Result.andThen_ok,run_sizeOf hi]
          rw [if_neg hlim,if_neg h0]
          simp only [Sem.run_bind,run_zeroValue hi hz,Sem.run_pure,Result.andThen_ok]
          have e1:((Array.range (n * i.size)).map fun i=>z.cells[i % z.cells.size]!)=madeCells z.cells (n * i.size):=rfl
          rw [e1,hps,h2]
          rfl
        ·refine .slc id 0 n n _ (Ren.upd_same _ _ _) (Nat.le_refl _) g4 (.inr ?_)
         simp only []
         omega
       ·cases h
      ·cases h
     ·cases htr
    ·cases htr
   ·cases htr
  ·cases htr
 case makeSlice t l c =>
  split at htr
  ·rename_i e l' c' ht hl hc
   split at htr
   ·rename_i i hi
    split at htr
    ·rename_i z hz
     split at htr
     ·rename_i hg
      obtain ⟨g1,g2⟩:=hg
      cases htr
      have rl:=opd_sound hT hl
      have rc:=opd_sound hT hc
      simp only [aev] at h
      split at h
      ·rename_i k1 n k2 m e1 e2
       split at h
       ·rename_i hb
        obtain ⟨b1,b2,b3,b4⟩:=hb
        cases h
        rw [e1] at rl;rw [e2] at rc
        have hrun:=run_make (P:=P) w t e i z ht hi hz k1 k2 n m b1 b2 b3 b4
        refine ⟨_,_,_,wrapS (by rw [rl.int_inv,rc.int_inv];exact hrun),?_,by simp,?_⟩
        ·refine .slc id 0 _ _ _ (Ren.upd_same _ _ _) (by omega) (by simp only [maxLen];omega) (.inr ?_)
         simp only [size_madeCells]
         omega
        ·have hz0:0<z.cells.size∨m.toNat * i.size=0:=by
          rcases Nat.eq_zero_or_pos z.cells.size with h0 | h0
          ·right;rw [← g2,h0];simp
          ·exact .inl h0
         have hs:=madeCells_scal g1 (m.toNat * i.size) hz0
         refine CRel.of_arel (arel_of_scal hs) ?_
         rw [Array.all_eq_true'] at hs ⊢
         exact fun x hx=>scal_one (hs x hx)
       ·cases h
      ·cases h
     ·cases htr
    ·cases htr
   ·cases htr
  ·cases htr
end
inductive EOp where
 | st (n:Nat) (x v:Opd)
 | app (sz bytes:Nat) (s x:Opd)
 | apps (s x:Opd)
def srcOf (H:Hp) (sz:Nat):Value→Option (Nat × List Value)
 | .slice none 0 0=>some (0,[])
 | .slice (some ⟨id,o,none⟩) m _ =>
  match m with
  | 0=>some (0,[])
  | _=>match H id with
   | some b=>match Nat.ble (o+m * sz) b.cells.length with
    | true=>some (m,(b.cells.drop o).take (m * sz))
    | false=>none
   | none=>none
 | _=>none
def appR (H:Hp) (c sz bytes:Nat) (s:Value) (m:Nat) (src:List Value):Option (Value × Hp × Nat) :=
 match s with
 | .slice none 0 0 =>
  match m with
  | 0=>some (.slice none 0 0,H,c)
  | _=>match Nat.ble (m * bytes) 140737488355328,Nat.ble m maxLen with
   | true,true=>some (.slice (some ⟨c,0,none⟩) m 0,H.upd c ⟨sz,true,src⟩,c+1)
   | _,_=>none
 | .slice (some ⟨id,0,none⟩) n 0 =>
  match H id with
  | some b =>
   if b.own=true∧b.unit=sz∧n * sz≤b.cells.length∧(n+m) * bytes≤140737488355328∧n+m≤maxLen then
    some (.slice (some ⟨c,0,none⟩) (n+m) 0,(H.del id).upd c ⟨sz,true,b.cells.take (n * sz)++src⟩,c+1)
   else none
  | none=>none
 | _=>none
def bytesV (s:ByteArray):List Value:=s.data.toList.map fun b=>Value.int .u8 b.toNat
def eev (H:Hp) (c:Nat) (e:Opd→Value):EOp→Option (Value × Hp × Nat)
 | .st n x v=>match e x with
  | .pointer (some ⟨id,off,none⟩)=>match H id with
   | some b =>
    if b.own=true∧(e v).cells.size=n∧off+n≤b.cells.length∧(e v).cells.all Value.oneCell'=true then
     some (undef,H.upd id ⟨b.unit,true,b.cells.take off++(e v).cells.toList++b.cells.drop (off+n)⟩,c)
    else none
   | none=>none
  | _=>none
 | .app sz bytes s x=>match srcOf H sz (e x) with
  | some (m,src)=>appR H c sz bytes (e s) m src
  | none=>none
 | .apps s x=>match e x with
  | .string t=>appR H c 1 1 (e s) t.data.toList.length (bytesV t)
  | _=>none
def trE (P:Program):Op→Option EOp
 | .store t x v=>match P.info? t,opd x,opd v with
  | some i,some x,some v=>some (.st i.size x v)
  | _,_,_=>none
 | .call { callee:=.builtin .append,args,argTypes }=>match args.toList,argTypes.toList with
  | [s,x],[t,u]=>match opd s,opd x,P.underlying t with
   | some s,some x,some (.slice e)=>match P.info? e with
    | some i=>match i.zero with
     | some z =>
      if z.cells.size=i.size∧0<i.size then
       if t=u then some (.app i.size i.bytes s x)
       else match P.underlying u with
        | some .string=>if i.size=1∧i.bytes=1 then some (.apps s x) else none
        | _=>none
      else none
     | none=>none
    | none=>none
   | _,_,_=>none
  | _,_=>none
 | _=>none
section
variable {P:Program} {ρ : Ren} {H:Hp} {w:World} {T:Tm} {a:Act}
structure Did (ρ : Ren) (H:Hp) (c:Nat) (w:World) (v':Value) (w':World) (v:Value) (H':Hp) (c':Nat) (ρ':Ren):Prop where
 val:VRel ρ' v v'
 rep:Rep ρ' H' w'
 fresh:∀ id,c'≤id → ρ' id=none
 up:c≤c'
 dom:∀ id,id<c→H' id≠none→H id≠none
 same:∀ id,id<c → ρ' id = ρ id
 ext:Ext ρ H w ρ' H' w'
theorem Rep.write (hR:Rep ρ H w) {id:Nat} {b:Blk} (hb:H id=some b) (ho:b.own=true) {t:Tgt} (ht : ρ id=some t) {c c':Array Value} {e:TypeId}
  (hc:w.heap[t.block]? = some (.cells c e (0,0))) (hs:c'.size=c.size) {cells:List Value} (hl:cells.length≤t.room) (hr:CRel ρ cells c' 0) {w':World}
  (hw:∀ k,k≠t.block→w'.heap[k]? = w.heap[k]?) (hw2:w'.heap[t.block]? = some (.cells c' e (0,0))):Rep ρ (H.upd id ⟨b.unit,true,cells⟩) w':=by
 obtain ⟨c0,e0,fr,g1,g2,g3,g4,g5,g6⟩:=hR.look hb ht
 rw [hc] at g1
 obtain ⟨rfl,rfl,rfl⟩:c=c0∧e=e0∧(0,0)=fr:=by simpa using g1
 obtain ⟨-,g7⟩:=g6 ho
 constructor
 ·intro j bj hj
  by_cases hji:j=id
  ·subst hji
   simp only [Hp.upd,if_true,Option.some.injEq] at hj
   subst hj
   exact ⟨t,ht,c',e,(0,0),hw2,by rw [g7,hs];rw [g7] at g2;exact g2,hl,g4,by rw [g7];exact hr,fun _=>⟨rfl,g7⟩⟩
  ·simp only [Hp.upd,hji,if_false] at hj
   obtain ⟨tj,h1,h2⟩:=hR.blk j bj hj
   exact ⟨tj,h1,h2.world (hw _ (Ne.symm (hR.sep id j b bj t tj hb hj (Ne.symm hji) ht h1 ho)))⟩
 ·intro i j bi bj ti tj hi hj hij h1 h2 ho'
  have back:∀ k bk,(H.upd id ⟨b.unit,true,cells⟩) k=some bk→∃ b0,H k=some b0∧b0.own=bk.own:=by
   intro k bk hk
   by_cases hki:k=id
   ·subst hki
    simp only [Hp.upd,if_true,Option.some.injEq] at hk
    subst hk
    exact ⟨b,hb,ho⟩
   ·simp only [Hp.upd,hki,if_false] at hk
    exact ⟨bk,hk,rfl⟩
  obtain ⟨b1,e1,o1⟩:=back i bi hi
  obtain ⟨b2,e2,o2⟩:=back j bj hj
  exact hR.sep i j b1 b2 ti tj e1 e2 hij h1 h2 (o1.trans ho')
theorem Ext.write {id:Nat} {b:Blk} {t:Tgt} (hb:H id=some b) (ho:b.own=true) (ht : ρ id=some t) {b':Blk} {w':World}
  (hw:∀ k,k≠t.block→w'.heap[k]? = w.heap[k]?) (h1:w'.os=w.os) (h2:w'.tape=w.tape) (h3:w'.output=w.output) (h4:w.heap.size≤w'.heap.size):Ext ρ H w ρ (H.upd id b') w' where
 le:=Ren.le_refl _
 os:=h1
 tape:=h2
 output:=h3
 size:=h4
 keep:=fun k hk hno=>hw k (fun e=>hno id b t hb ho ht e.symm)
 mine:=fun j bj tj g1 g3=>by
  by_cases hji:j=id
  ·subst hji
   rw [ht] at g3;cases g3
   exact .inr ⟨_,b,t,hb,fun _=>ho,ht,rfl⟩
  ·simp only [Hp.upd,hji,if_false] at g1
   exact .inr ⟨j,bj,tj,g1,fun h=>h,g3,rfl⟩
theorem st_sound (hR:Rep ρ H w) {c:Nat} (hf:∀ id,c≤id → ρ id=none) {t:TypeId} {i:TypeInfo} (hi:P.info? t=some i) {p p' u u':Value} (hp:VRel ρ p p') (hu:VRel ρ u u')
  {id off:Nat} (hpe:p=.pointer (some ⟨id,off,none⟩)) {b:Blk} (hb:H id=some b) (ho:b.own=true) (hn:u.cells.size=i.size) (hl:off+i.size≤b.cells.length)
  (h1:u.cells.all Value.oneCell'=true) :
  ∃ w',(Instr.storeAt t p' u').run P w=.ok () w'∧Did ρ H c w undef w' undef (H.upd id ⟨b.unit,true,b.cells.take off++u.cells.toList++b.cells.drop (off+i.size)⟩) c ρ := by
 subst hpe
 obtain ⟨-,tg,ht,rfl⟩:=hp.ptr_inv
 obtain ⟨cc,e,fr,g1,g2,g3,g4,g5,g6⟩:=hR.look hb ht
 obtain ⟨rfl,g7⟩:=g6 ho
 rw [g7] at g2 g5
 have hcs:=hu.cells
 have hlen:u'.cells.toList.length=i.size:=by rw [Array.length_toList, ← hcs.1];exact hn
 have hone:∀ v∈u'.cells.toList,v.oneCell'=true:=by
  intro v hv
  obtain ⟨j,hj,hvj⟩:=List.getElem_of_mem hv
  have hvj':u'.cells[j]? = some v:=by rw [← hvj];simp at hj ⊢
  have hj':j<u.cells.size:=by rw [hcs.1];simpa using hj
  have hr:=hcs.2 j _ v (Array.getElem?_eq_getElem hj') hvj'
  rw [hr.one]
  rw [Array.all_eq_true'] at h1
  exact h1 _ (Array.getElem_mem hj')
 have hst:=run_storeCells_at P tg.block off e u'.cells.toList 0 cc w g1 (by rw [hlen];omega) hone
 rw [Nat.add_zero,hlen] at hst
 refine ⟨w.setRow tg.block (cc.toList.take off++u'.cells.toList++cc.toList.drop (off+i.size)).toArray,?_,?_⟩
 ·have hsz:u'.cells.size=i.size:=by rw [← hcs.1];exact hn
  simp only [Instr.storeAt,Instr.sureAddr,Sem.run_bind,Sem.run_pure,Result.andThen_ok,storeVar,run_sizeOf hi,hsz,ne_eq,not_true_eq_false,if_false,g7,Nat.zero_add]
  exact hst
 ·have hsz2:(cc.toList.take off++u'.cells.toList++cc.toList.drop (off+i.size)).toArray.size=cc.size:=by
   simp only [List.size_toArray,List.length_append,List.length_take,List.length_drop,Array.length_toList,hlen] at *
   have:u'.cells.size=i.size:=by rw [← hcs.1];exact hn
   omega
  have hwo:∀ k,k≠tg.block→(w.setRow tg.block (cc.toList.take off++u'.cells.toList++cc.toList.drop (off+i.size)).toArray).heap[k]? = w.heap[k]? := fun k hk=>setRow_other w _ k _ hk
  refine ⟨.tup _ _ rfl (by simp),?_,hf,Nat.le_refl _,?_,fun _ _=>rfl,Ext.write hb ho ht hwo rfl rfl rfl (by simp)⟩
  ·refine hR.write hb ho ht g1 hsz2 ?_ ?_ hwo (setRow_heap w _ cc _ e _ g1)
   ·simp only [List.length_append,List.length_take,List.length_drop,Array.length_toList]
    omega
   ·intro j v hv
    rw [List.append_assoc,List.getElem?_append] at hv
    simp only [List.length_take] at hv
    have hmin:min off b.cells.length=off:=by omega
    have hmin':min off cc.size=off:=by omega
    rw [hmin] at hv
    simp only [Nat.zero_add,List.getElem?_toArray]
    rw [List.append_assoc,List.getElem?_append]
    simp only [List.length_take,Array.length_toList,hmin']
    split at hv
    ·rename_i hj
     rw [if_pos hj]
     rw [List.getElem?_take,if_pos hj] at hv
     obtain ⟨q1,v',q2,q3⟩:=g5 j v hv
     refine ⟨q1,v',?_,q3⟩
     rw [List.getElem?_take,if_pos hj]
     simpa using q2
    ·rename_i hj
     rw [if_neg hj]
     rw [List.getElem?_append] at hv ⊢
     simp only [Array.length_toList,hn] at hv
     simp only [hlen]
     split at hv
     ·rename_i hj2
      rw [if_pos hj2]
      have hv':u.cells[j-off]? = some v:=by simpa using hv
      obtain ⟨y,q1,q2⟩:=hcs.get hv'
      refine ⟨?_,y,by simpa using q1,q2⟩
      rw [Array.all_eq_true'] at h1
      exact h1 v (Array.mem_of_getElem? hv')
     ·rename_i hj2
      rw [if_neg hj2]
      rw [List.getElem?_drop] at hv ⊢
      obtain ⟨q1,v',q2,q3⟩:=g5 _ v hv
      exact ⟨q1,v',by simpa using q2,q3⟩
  ·intro j hj hne
   by_cases hji:j=id
   ·subst hji;rw [hb];simp
   ·simpa [Hp.upd,hji] using hne
end
end Go.Eng
set_option linter.unusedVariables false
set_option linter.unusedSimpArgs false
namespace Go.Eng
section
variable {P:Program} {ρ : Ren} {H:Hp} {w:World} {T:Tm} {a:Act}
structure Src (P:Program) (ρ : Ren) (w:World) (sz:Nat) (m:Nat) (src:List Value) (x':Value) (news:List Value):Prop where
 len:∀ w0:World,(Builtin.lenOf x').run P w0=.ok m w0
 run:∀ w0:World,w0.heap=w.heap→(Builtin.firstCells sz m x').run P w0=.ok news.toArray w0
 size:news.length=m * sz
 size':src.length=m * sz
 rel:∀ (i:Nat) v,src[i]? = some v→v.oneCell'=true∧∃ v',news[i]? = some v'∧VRel ρ v v'
 one:∀ u∈news,u.oneCell'=true
theorem Src.zero {sz:Nat} {x':Value} (h:x'=.slice none 0 0∨∃ ad c,x'=.slice (some ad) 0 c):Src P ρ w sz 0 [] x' []:=by
 rcases h with rfl | ⟨ad,c,rfl⟩
 ·exact ⟨fun _=>rfl,fun w0 _=>rfl,by simp,by simp,by simp,by simp⟩
 ·exact ⟨fun _=>rfl,fun w0 _=>by simp [Builtin.firstCells,loadCells,loadCellsFrom],by simp,by simp,by simp,by simp⟩
theorem src_sound (hR:Rep ρ H w) {sz:Nat} {x x':Value} (hx:VRel ρ x x') {m:Nat} {src:List Value} (h:srcOf H sz x=some (m,src)):∃ news,Src P ρ w sz m src x' news:=by
 unfold srcOf at h
 split at h
 ·cases h;cases hx
  exact ⟨[],Src.zero (.inl rfl)⟩
 ·rename_i id o m' c
  split at h
  ·cases h
   refine ⟨[],Src.zero (.inr ?_)⟩
   cases hx <;> exact ⟨_,_,rfl⟩
  ·rename_i hm
   split at h
   ·rename_i b hb
    split at h
    ·rename_i hle
     rw [Nat.ble_eq] at hle
     cases h
     cases hx with
     | tail=>exact absurd rfl hm
     | slc _ _ _ cap tg htg hc hmx hr =>
      obtain ⟨cc,e,fr,g1,g2,g3,g4,g5,g6⟩:=hR.look hb htg
      have hseg:=g5.seg hle (by omega)
      refine ⟨(cc.toList.drop (tg.shift+o)).take (m * sz),fun _=>rfl,fun w0 h0=>?_,by simp;omega,by simp;omega,fun i v hv=>?_,fun u hu=>?_⟩
      ·have g1':w0.heap[tg.block]? = some (.cells cc e fr):=by rw [h0];exact g1
       exact run_loadCells_row g1' (by omega)
      ·have hv0:b.cells[o+i]? = some v:=by
        rw [List.getElem?_take] at hv
        split at hv
        ·rwa [List.getElem?_drop] at hv
        ·cases hv
       refine ⟨(g5 _ v hv0).1,?_⟩
       have hs:(((b.cells.drop o).take (m * sz)).toArray)[i]? = some v:=by rw [List.getElem?_toArray];exact hv
       obtain ⟨y,q1,q2⟩:=ARel.get hseg hs
       exact ⟨y,by rw [List.getElem?_toArray] at q1;exact q1,q2⟩
      ·obtain ⟨j,hj,hju⟩:=List.getElem_of_mem hu
       have hj2:j<m * sz:=by simp at hj;omega
       have e1:b.cells[o+j]? = some b.cells[o+j]:=List.getElem?_eq_getElem (by omega)
       obtain ⟨q1,v',q2,q3⟩:=g5 _ _ e1
       have e2:cc[tg.shift+(o+j)]? = some u:=by
        rw [← hju]
        have hlt:tg.shift+(o+j)<cc.size:=by omega
        simp only [List.getElem_take,List.getElem_drop,Array.getElem_toList]
        rw [← Nat.add_assoc,Array.getElem?_eq_getElem (by omega)]
       rw [e2] at q2;cases q2
       rw [q3.one];exact q1
    ·cases h
   ·cases h
 ·cases h
theorem str_src (s:ByteArray):Src P ρ w 1 s.data.toList.length (bytesV s) (.string s) (bytesV s):=by
 have hone:∀ u∈bytesV s, ∃ n,u=.int .u8 n:=by
  intro u hu
  simp only [bytesV,List.mem_map] at hu
  obtain ⟨b,_,rfl⟩:=hu
  exact ⟨_,rfl⟩
 refine ⟨fun w0=>?_,fun w0 _=>?_,by simp [bytesV],by simp [bytesV],fun i v hv=>?_,fun u hu=>?_⟩
 ·simp only [Builtin.lenOf,Sem.run_pure,Array.length_toList];rfl
 ·have he:(s.extract 0 s.data.toList.length)=s:=by
   apply ByteArray.ext
   rw [ByteArray.data_extract,Array.length_toList,Array.extract_size]
  simp only [Builtin.firstCells,Sem.run_pure,he]
  congr 1
  apply Array.ext'
  simp [bytesV]
 ·obtain ⟨n,rfl⟩:=hone v (List.mem_of_getElem? hv)
  exact ⟨rfl,_,hv,.int _ _⟩
 ·obtain ⟨n,rfl⟩:=hone u hu
  rfl
theorem run_grow {t u ty e:TypeId} {i:TypeInfo} {z:Value} (ht:P.underlying t=some (.slice e)) {D:TypeDesc} (hu:P.underlying u=some D) (hD:(∃ e',D=.slice e')∨D=.string) (hi:P.info? e=some i) (hz:i.zero=some z)
  {base:Option Addr} {sLen sCap m:Nat} {x':Value} {olds news:List Value} (hlen:∀ w0:World,(Builtin.lenOf x').run P w0=.ok m w0)
  (hold:∀ w0:World,w0.heap=w.heap→(Builtin.firstCells i.size sLen (.slice base sLen sCap)).run P w0=.ok olds.toArray w0)
  (hnew:∀ w0:World,w0.heap=w.heap→(Builtin.firstCells i.size m x').run P w0=.ok news.toArray w0)
  (hg:sCap<sLen+m) (h63:sLen+m≤maxLen) (hb:(sLen+m) * i.bytes≤140737488355328) :
  (Builtin.append_ #[t,u] ty #[.slice base sLen sCap,x']).run P w =
   .ok (.slice (some ⟨w.heap.size,0,none⟩) (sLen+m) (grownCap w (sLen+m) sCap e)) (w.drew.alloc (.cells (olds.toArray++news.toArray++Builtin.zeroCells z.cells (grownCap w (sLen+m) sCap e-(sLen+m))) e)):=by
 have hfit:=growslice_fits hg hb
 have hn:¬ (sLen+m≤sCap):=by omega
 simp only [maxLen] at h63
 have h63':¬ (9223372036854775807<((sLen:Int)+(m:Int))):=by omega
 have h48':¬ (281474976710656<Builtin.nextslicecap (sLen+m) sCap * i.bytes):=by omega
 have hf:=hnew w.drew rfl
 have hfo:=hold w.drew rfl
 rcases hD with ⟨e',rfl⟩ | rfl <;> simp [Builtin.append_,run_underlying ht,run_underlying hu,sizeOf,typeInfo,zeroValue,hi,hz,hlen,hn,h63',h48',Question.forced,hf,hfo,newRow,grownCap]
 all_goals
  congr 2
  apply Array.ext'
  simp
theorem run_room {t u ty e:TypeId} {i:TypeInfo} (ht:P.underlying t=some (.slice e)) {D:TypeDesc} (hu:P.underlying u=some D) (hD:(∃ e',D=.slice e')∨D=.string) (hi:P.info? e=some i)
  {g sLen sCap m:Nat} {cur:Array Value} {e':TypeId} (hg:w.heap[g]? = some (.cells cur e' (0,0))) {x':Value} {news:List Value}
  (hlen:∀ w0:World,(Builtin.lenOf x').run P w0=.ok m w0) (hnew:∀ w0:World,w0.heap=w.heap→(Builtin.firstCells i.size m x').run P w0=.ok news.toArray w0)
  (h1:∀ u∈news,u.oneCell'=true) (hroom:sLen+m≤sCap) (hfit:sLen * i.size+news.length≤cur.size) :
  (Builtin.append_ #[t,u] ty #[.slice (some ⟨g,0,none⟩) sLen sCap,x']).run P w =
   .ok (.slice (some ⟨g,0,none⟩) (sLen+m) sCap) (w.setRow g (cur.toList.take (sLen * i.size)++news++cur.toList.drop (sLen * i.size+news.length)).toArray):=by
 have hf:=hnew w rfl
 have hst:=run_storeCells_at P g (sLen * i.size) e' news 0 cur w hg (by simpa using hfit) h1
 simp only [Nat.add_zero] at hst
 rcases hD with ⟨e',rfl⟩ | rfl <;> simp [Builtin.append_,run_underlying ht,run_underlying hu,sizeOf,typeInfo,hi,hlen,hroom,hf,Addr.add_lit,hst]
theorem run_same {t u ty e:TypeId} {i:TypeInfo} (ht:P.underlying t=some (.slice e)) {D:TypeDesc} (hu:P.underlying u=some D) (hD:(∃ e',D=.slice e')∨D=.string) (hi:P.info? e=some i)
  {x':Value} (hlen:∀ w0:World,(Builtin.lenOf x').run P w0=.ok 0 w0) (hnew:∀ w0:World,w0.heap=w.heap→(Builtin.firstCells i.size 0 x').run P w0=.ok #[] w0) :
  (Builtin.append_ #[t,u] ty #[.slice none 0 0,x']).run P w=.ok (.slice none 0 0) w:=by
 have hf:=hnew w rfl
 rcases hD with ⟨e',rfl⟩ | rfl <;> simp [Builtin.append_,run_underlying ht,run_underlying hu,sizeOf,typeInfo,hi,hlen,hf]
theorem app_sound (hR:Rep ρ H w) {c:Nat} (hf:∀ id,c≤id → ρ id=none) {t u ty e:TypeId} {i:TypeInfo} {z:Value} (ht:P.underlying t=some (.slice e)) {D:TypeDesc} (hu:P.underlying u=some D)
  (hD:(∃ e',D=.slice e')∨D=.string) (hi:P.info? e=some i) (hz:i.zero=some z) (hzs:z.cells.size=i.size) (hsz:0<i.size)
  {s s' x':Value} (hs:VRel ρ s s') {m:Nat} {src news:List Value} (hsrc:Src P ρ w i.size m src x' news) {v:Value} {H':Hp} {c':Nat} (h:appR H c i.size i.bytes s m src=some (v,H',c')) :
  ∃ v' w' ρ',(Builtin.append_ #[t,u] ty #[s',x']).run P w=.ok v' w'∧Did ρ H c w v' w' v H' c' ρ':=by
 unfold appR at h
 -- the grown case,told once
 have grown:∀ (base:Option Addr) (sLen sCap:Nat) (olds known:List Value),(∀ w0:World,w0.heap=w.heap→(Builtin.firstCells i.size sLen (.slice base sLen sCap)).run P w0=.ok olds.toArray w0) →
   sCap<sLen+m→sLen+m≤maxLen→(sLen+m) * i.bytes≤140737488355328→olds.length=sLen * i.size→known.length=sLen * i.size →
   (∀ (j:Nat) v,known[j]? = some v→v.oneCell'=true∧∃ v',olds[j]? = some v'∧VRel ρ v v')→∀ H0:Hp,(∀ j,H0 j=none∨H0 j=H j) →
   ∃ v' w' ρ',(Builtin.append_ #[t,u] ty #[.slice base sLen sCap,x']).run P w=.ok v' w'∧Did ρ H c w v' w' (.slice (some ⟨c,0,none⟩) (sLen+m) 0) (H0.upd c ⟨i.size,true,known++src⟩) (c+1) ρ':=by
  intro base sLen sCap olds known hold hg h63 hb hlo hlk hrel H0 hH0
  have hrun:=run_grow (w:=w) (ty:=ty) ht hu hD hi hz hsrc.len hold hsrc.run hg h63 hb
  have hge:=grownCap_ge w (sLen+m) sCap e
  have hcm:=grownCap_le_maxLen w (sLen+m) sCap e h63
  have hR0:Rep ρ H0 w:=⟨fun j bj hj=>hR.blk j bj (by rcases hH0 j with h0 | h0 <;> rw [h0] at hj;exact absurd hj (by simp);exact hj),fun a b ba bb ta tb h1 h2=>by
   have g1:H a=some ba:=by rcases hH0 a with h0 | h0 <;> rw [h0] at h1;exact absurd h1 (by simp);exact h1
   have g2:H b=some bb:=by rcases hH0 b with h0 | h0 <;> rw [h0] at h2;exact absurd h2 (by simp);exact h2
   exact hR.sep a b ba bb ta tb g1 g2⟩
  have hid : ρ c=none:=hf c (Nat.le_refl _)
  have hsz3:(olds.toArray++news.toArray++Builtin.zeroCells z.cells (grownCap w (sLen+m) sCap e-(sLen+m))).size=grownCap w (sLen+m) sCap e * i.size:=by
   simp only [Array.size_append,List.size_toArray,size_zeroCells,hzs,hlo,hsrc.size, ← Nat.add_mul]
   congr 1
   omega
  have hcr:CRel ρ (known++src) (olds.toArray++news.toArray++Builtin.zeroCells z.cells (grownCap w (sLen+m) sCap e-(sLen+m))) 0:=by
   intro j v hv
   rw [Nat.zero_add]
   have hL:(olds++news).length=(sLen+m) * i.size:=by rw [List.length_append,hlo,hsrc.size,Nat.add_mul]
   have hjlt:j<(known++src).length:=(List.getElem?_eq_some_iff.1 hv).1
   have hjlt2:j<(olds++news).length:=by rw [hL];rw [List.length_append,hlk,hsrc.size', ← Nat.add_mul] at hjlt;exact hjlt
   have key:v.oneCell'=true∧∃ v',(olds++news)[j]? = some v'∧VRel ρ v v':=by
    rw [List.getElem?_append] at hv ⊢
    rw [hlo]
    rw [hlk] at hv
    split at hv
    ·rename_i hj;rw [if_pos hj];exact hrel j v hv
    ·rename_i hj;rw [if_neg hj];exact hsrc.rel _ v hv
   obtain ⟨k1,v',k2,k3⟩:=key
   refine ⟨k1,v',?_,k3⟩
   rw [show olds.toArray++news.toArray=(olds++news).toArray by simp,Array.getElem?_append_left (by simpa using hjlt2)]
   simpa using k2
  refine ⟨_,_, ρ.upd c ⟨w.heap.size,0,(olds.toArray++news.toArray++Builtin.zeroCells z.cells (grownCap w (sLen+m) sCap e-(sLen+m))).size,i.size⟩,hrun,?_,?_,?_,Nat.le_succ _,?_,fun j hj=>by simp only [Ren.upd,show j≠c by omega,if_false],?_⟩
  ·have:=VRel.slc (ρ := ρ.upd c ⟨w.heap.size,0,(olds.toArray++news.toArray++Builtin.zeroCells z.cells (grownCap w (sLen+m) sCap e-(sLen+m))).size,i.size⟩) c 0 (sLen+m) (grownCap w (sLen+m) sCap e) _ (Ren.upd_same _ _ _) hge hcm (.inr (by simp only [hsz3];omega))
   simpa using this
  ·exact hR0.alloc (b:=⟨i.size,true,known++src⟩) hid hcr (by rw [hsz3];simp only [List.length_append,hlk,hsrc.size', ← Nat.add_mul];exact Nat.mul_le_mul_right _ hge) rfl
  ·intro j hj
   simp only [Ren.upd,show j≠c by omega,if_false]
   exact hf j (by omega)
  ·intro j hj hne
   simp only [Hp.upd,show j≠c by omega,if_false] at hne
   rcases hH0 j with h0 | h0
   ·exact absurd h0 hne
   ·rwa [h0] at hne
  ·have hx:=Ext.alloc (b:=⟨i.size,true,known++src⟩) (c:=(olds.toArray++news.toArray++Builtin.zeroCells z.cells (grownCap w (sLen+m) sCap e-(sLen+m)))) (e:=e)
    (w':=w.drew.alloc (.cells (olds.toArray++news.toArray++Builtin.zeroCells z.cells (grownCap w (sLen+m) sCap e-(sLen+m))) e)) hR hid rfl rfl rfl rfl
   refine ⟨hx.le,hx.os,hx.tape,hx.output,hx.size,hx.keep,fun j bj tj g1 g3=>?_⟩
   refine hx.mine j bj tj ?_ g3
   by_cases hjc:j=c
   ·subst hjc;simpa [Hp.upd] using g1
   ·simp only [Hp.upd,hjc,if_false] at g1 ⊢
    rcases hH0 j with h0 | h0 <;> rw [h0] at g1
    ·cases g1
    ·exact g1
 split at h
 ·cases hs
  split at h
  ·cases h
   have hn:news=[]:=List.eq_nil_of_length_eq_zero (by simpa using hsrc.size)
   subst hn
   exact ⟨_,w, ρ,run_same ht hu hD hi hsrc.len hsrc.run,.snil,hR,hf,Nat.le_refl _,fun _ _ h=>h,fun _ _=>rfl,Ext.refl _ _ _⟩
  ·rename_i hm
   split at h
   ·rename_i b1 b2
    rw [Nat.ble_eq] at b1 b2
    cases h
    have hpos:0<m:=Nat.pos_of_ne_zero (fun e=>hm (by simp [e]))
    have:=grown none 0 0 [] [] (fun w0 _=>rfl) (by omega) (by omega) (by rw [Nat.zero_add];exact b1) (by simp) (by simp) (by simp) H (fun j=>.inr rfl)
    simpa using this
   ·cases h
 ·rename_i id n
  split at h
  ·rename_i b hb
   split at h
   ·rename_i hg
    obtain ⟨ho,hun,hle,hbb,hmx⟩:=hg
    cases h
    cases hs with
    | slc _ _ _ cap tg htg hc hm hr =>
     obtain ⟨cc,ee,fr,g1,g2,g3,g4,g5,g6⟩:=hR.look hb htg
     obtain ⟨rfl,g7⟩:=g6 ho
     simp only [g7,Nat.zero_add,Nat.add_zero] at *
     by_cases hroom:n+m≤cap
     · -- there is room: the old block,under the new name
      have hfit:(n+m) * i.size≤cc.size:=by
       rcases hr with h0 | h0
       ·omega
       ·have:=Nat.mul_le_mul_right i.size hroom
        rw [g4,hun] at h0
        omega
      have hnl:n * i.size+news.length≤cc.size:=by rw [hsrc.size, ← Nat.add_mul];exact hfit
      have hrun:=run_room (w:=w) (ty:=ty) ht hu hD hi (sLen:=n) (sCap:=cap) g1 hsrc.len hsrc.run hsrc.one hroom hnl
      have hid : ρ c=none:=hf c (Nat.le_refl _)
      have hne:id≠c:=fun e=>by rw [e] at htg;rw [hid] at htg;cases htg
      have hle' : ρ.le (ρ.upd c ⟨tg.block,0,tg.room,i.size⟩):=Ren.le_upd hid
      have hlt:tg.block<w.heap.size:=(Array.getElem?_eq_some_iff.1 g1).1
      refine ⟨_,_, ρ.upd c ⟨tg.block,0,tg.room,i.size⟩,hrun,?_,?_,?_,Nat.le_succ _,?_,fun j hj=>by simp only [Ren.upd,show j≠c by omega,if_false],?_⟩
      ·have:=VRel.slc (ρ := ρ.upd c ⟨tg.block,0,tg.room,i.size⟩) c 0 (n+m) cap _ (Ren.upd_same _ _ _) hroom hm (.inr (by
        simp only []
        rcases hr with h0 | h0
        ·omega
        ·rw [g4,hun] at h0;omega))
       simpa using this
      ·have hcs:(cc.toList.take (n * i.size)++news++cc.toList.drop (n * i.size+news.length)).toArray.size=cc.size:=by
        simp only [List.size_toArray,List.length_append,List.length_take,List.length_drop,Array.length_toList]
        omega
       have hcr:CRel ρ (b.cells.take (n * i.size)++src) (cc.toList.take (n * i.size)++news++cc.toList.drop (n * i.size+news.length)).toArray 0:=by
        intro j v hv
        simp only [Nat.zero_add,List.getElem?_toArray]
        rw [List.getElem?_append] at hv
        have hmin:(b.cells.take (n * i.size)).length=n * i.size:=by rw [List.length_take];omega
        have hmin':(cc.toList.take (n * i.size)).length=n * i.size:=by rw [List.length_take,Array.length_toList];omega
        rw [hmin] at hv
        rw [List.append_assoc,List.getElem?_append,hmin']
        split at hv
        ·rename_i hj
         rw [if_pos hj]
         rw [List.getElem?_take,if_pos hj] at hv
         obtain ⟨q1,v',q2,q3⟩:=g5 j v hv
         refine ⟨q1,v',?_,q3⟩
         rw [List.getElem?_take,if_pos hj]
         simpa using q2
        ·rename_i hj
         rw [if_neg hj]
         obtain ⟨q1,v',q2,q3⟩:=hsrc.rel _ v hv
         refine ⟨q1,v',?_,q3⟩
         rw [List.getElem?_append_left (List.getElem?_eq_some_iff.1 q2).1]
         exact q2
       have hwo:∀ k,k≠tg.block→(w.setRow tg.block (cc.toList.take (n * i.size)++news++cc.toList.drop (n * i.size+news.length)).toArray).heap[k]? = w.heap[k]? := fun k hk=>setRow_other w _ k _ hk
       constructor
       ·intro j bj hj
        by_cases hjc:j=c
        ·subst hjc
         simp only [Hp.upd,if_true,Option.some.injEq] at hj
         subst hj
         refine ⟨_,Ren.upd_same _ _ _,_,ee,(0,0),setRow_heap w _ cc _ ee _ g1,by simp only [];rw [hcs,Nat.zero_add];exact g2,?_,rfl,hcr.mono hle',fun _=>⟨rfl,rfl⟩⟩
         simp only [List.length_append,List.length_take,hsrc.size']
         rw [g2]
         have e1:min (n * i.size) b.cells.length=n * i.size:=by omega
         rw [e1, ← Nat.add_mul];exact hfit
        ·simp only [Hp.upd,hjc,if_false,Hp.del] at hj
         split at hj
         ·cases hj
         ·rename_i hji
          obtain ⟨tj,q1,q2⟩:=hR.blk j bj hj
          exact ⟨tj,hle' _ _ q1,(q2.mono hle').world (hwo _ (Ne.symm (hR.sep id j b bj tg tj hb hj (Ne.symm hji) htg q1 ho)))⟩
       ·intro j k bj bk tj tk hj hk hjk h1 h2 ho'
        have back:∀ l bl tl,((H.del id).upd c ⟨i.size,true,b.cells.take (n * i.size)++src⟩) l=some bl→(ρ.upd c ⟨tg.block,0,tg.room,i.size⟩) l=some tl →
          ∃ l0 bl0 tl0,H l0=some bl0 ∧ ρ l0=some tl0∧tl0.block=tl.block∧bl0.own=bl.own∧(l=c∧l0=id∨l≠c∧l0=l∧l≠id):=by
         intro l bl tl hl hl2
         by_cases hlc:l=c
         ·subst hlc
          simp only [Hp.upd,if_true,Option.some.injEq] at hl
          simp only [Ren.upd,if_true,Option.some.injEq] at hl2
          subst hl hl2
          exact ⟨id,b,tg,hb,htg,rfl,ho,.inl ⟨rfl,rfl⟩⟩
         ·simp only [Hp.upd,hlc,if_false,Hp.del] at hl
          simp only [Ren.upd,hlc,if_false] at hl2
          split at hl
          ·cases hl
          ·rename_i hli
           exact ⟨l,bl,tl,hl,hl2,rfl,rfl,.inr ⟨hlc,rfl,hli⟩⟩
        obtain ⟨j0,bj0,tj0,a1,a2,a3,a4,a5⟩:=back j bj tj hj h1
        obtain ⟨k0,bk0,tk0,b1,b2,b3,b4,b5⟩:=back k bk tk hk h2
        rw [← a3, ← b3]
        refine hR.sep j0 k0 bj0 bk0 tj0 tk0 a1 b1 ?_ a2 b2 (a4.trans ho')
        rcases a5 with ⟨q1,q2⟩ | ⟨q1,q2,q3⟩ <;> rcases b5 with ⟨r1,r2⟩ | ⟨r1,r2,r3⟩ <;> omega
      ·intro j hj
       simp only [Ren.upd,show j≠c by omega,if_false]
       exact hf j (by omega)
      ·intro j hj hne'
       simp only [Hp.upd,show j≠c by omega,if_false,Hp.del] at hne'
       split at hne'
       ·exact absurd rfl hne'
       ·exact hne'
      ·refine ⟨hle',rfl,rfl,rfl,by simp,fun k hk hno=>setRow_other w _ k _ (fun e=>hno id b tg hb ho htg e.symm),fun j bj tj q1 q3=>?_⟩
       by_cases hjc:j=c
       ·subst hjc
        simp only [Ren.upd,if_true,Option.some.injEq] at q3
        subst q3
        exact .inr ⟨id,b,tg,hb,fun _=>ho,htg,rfl⟩
       ·simp only [Hp.upd,hjc,if_false,Hp.del] at q1
        simp only [Ren.upd,hjc,if_false] at q3
        split at q1
        ·cases q1
        ·exact .inr ⟨j,bj,tj,q1,fun h=>h,q3,rfl⟩
     · -- it grows
      have hld:∀ w0:World,w0.heap=w.heap→(Builtin.firstCells i.size n (.slice (some ⟨tg.block,0,none⟩) n cap)).run P w0=.ok ((cc.toList.drop 0).take (n * i.size)).toArray w0:=by
       intro w0 h0
       have g1':w0.heap[tg.block]? = some (.cells cc ee (0,0)):=by rw [h0];exact g1
       exact run_loadCells_row g1' (by omega)
      refine grown (some ⟨tg.block,0,none⟩) n cap _ (b.cells.take (n * i.size)) hld (by omega) hmx hbb (by simp;omega) (by simp;omega) ?_ (H.del id) (fun j=>by unfold Hp.del;split <;> simp)
      intro j v hv
      rw [List.getElem?_take] at hv
      split at hv
      ·rename_i hj
       obtain ⟨q1,v',q2,q3⟩:=g5 j v hv
       refine ⟨q1,v',?_,q3⟩
       rw [List.drop_zero,List.getElem?_take,if_pos hj]
       simpa using q2
      ·cases hv
   ·cases h
  ·cases h
 ·cases h
end
end Go.Eng
end
