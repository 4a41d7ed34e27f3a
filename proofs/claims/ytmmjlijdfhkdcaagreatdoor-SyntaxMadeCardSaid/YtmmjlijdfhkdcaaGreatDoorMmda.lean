/-
  HELPERS of the claim: part 1 of its texts.
-/
import Derived.WalkKit
import Derived.ProofKit
set_option linter.defProp false
namespace Go
def A0A:=@List.length_append
def A0B:=@List.getElem?_eq_getElem
def A0C:=@Nat.le_of_ble_eq_true
def A0D:=@Bool.and_eq_true
def A0E:=@List.length_map
def A0F:=@decide_eq_true_eq
def A0G:=@List.length_singleton
def A0H:=@List.mem_cons_of_mem
def A0I:=@List.length_cons
def A0J:=@Nat.le_refl
def A0K:=@List.mem_cons_self
def A0L:=@List.take_of_length_le
def A0M:=@List.mem_of_getElem?
def A0N:=@List.length_nil
def A0O:=@List.mem_singleton
def A0P:=@List.getElem?_eq_some_iff
def A0Q:=@List.all_eq_true
def A0R:=@Option.map_eq_some_iff
def A0S:=@List.map_append
def A0T:=@List.append_assoc
def A0U:=@List.map_cons
def A0V:=@List.getElem_mem
def A0W:=@List.mem_append
def A0X:=@Array.getElem?_eq_some_iff
def A0Y:=@List.getD_eq_getElem?_getD
def A0Z:=@Nat.zero_le
def A1A:=@List.getElem?_map
def A1B:=@List.flatMap_cons
def A1C:=@Bool.or_eq_true
def A1D:=@List.take_add_one
def A1E:=@List.mem_cons
def A1F:=@List.length_take
def A1G:=@List.mem_filterMap
def A1H:=@List.append_nil
def A1I:=@beq_iff_eq
def A1J:=@List.flatten_cons
def A1K:=@List.eq_nil_of_length_eq_zero
def A1L:=@List.mem_map
def A1M:=@Nat.zero_add
def A1N:=@Bool.false_eq_true
def A1O:=@Nat.le_trans
def A1P:=@Bool.false_ne_true
def A1Q:=@Nat.lt_succ_iff_lt_or_eq
def A1R:=@List.getElem?_take
def A1S:=@List.getElem?_toArray
def A1T:=@List.getElem?_eq_none
def A1U:=@decide_eq_false_iff_not
def A1V:=@List.drop_eq_getElem_cons
def A1W:=@List.getElem?_append
def A1X:=@Bool.and_true
def A1Y:=@List.take_succ_cons
def A1Z:=@List.flatMap_append
def A2A:=@List.length_drop
def A2B:=@Bool.true_and
def A2C:=@List.length_eq_one_iff
def A2D:=@List.drop_eq_nil_of_le
def A2E:=@Nat.lt_succ_self
def A2F:=@List.not_mem_nil
def A2G:=@List.nodup_cons
def A2H:=@List.all_cons
def A2I:=@Nat.ble_eq
def A2J:=@List.nodup_append
def A2K:=@List.take_append_drop
def A2L:=@Nat.not_lt_zero
def A2M:=@List.getElem?_drop
def A2N:=@List.getElem?_cons_zero
def A2O:=@List.getElem?_cons_succ
def A2P:=@Array.getD_eq_getD_getElem?
def A2Q:=@Bool.eq_iff_iff
def A2R:=@List.mem_append_left
def A2S:=@List.contains_eq_mem
def A2T:=@List.filterMap_cons
def A2U:=@Array.length_toList
def A2V:=@Nat.add_zero
def A2W:=@List.take_length
def A2X:=@List.mem_flatMap
def A2Y:=@List.getElem?_append_right
def A2Z:=@List.getElem?_append_left
def A3A:=@Array.getElem?_eq_getElem
def A3B:=@Nat.mul_le_mul_right
def A3C:=@Nat.add_assoc
def A3D:=@List.any_eq_true
def A3E:=@Bool.and_false
def A3F:=@Nat.le_succ
def A3G:=@Nat.add_mul
def A3H:=@List.getElem?_set_self
def A3I:=@Option.map_some
def A3J:=@List.sum_cons
def A3K:=@Nat.eq_of_beq_eq_true
def A3L:=@Bool.not_eq_true'
def A3M:=@List.mem_of_mem_drop
def A3N:=@Nat.le_add_right
def A3O:=@List.map_congr_left
def A3P:=@List.getElem_of_mem
def A3Q:=@List.length_set
def A3R:=@List.all_append
def A3S:=@List.size_toArray
def A3T:=@List.drop_zero
def A3U:=@List.drop_drop
def A3V:=@Int.toNat_natCast
def A3W:=@Option.getD_some
def A3X:=@List.map_toArray
def A3Y:=@List.flatten_nil
def A3Z:=@List.getElem?_set_ne
def A4A:=@Array.getElem?_setIfInBounds
def A4B:=@Nat.lt_of_lt_of_le
def A4C:=@List.set_cons_succ
def A4D:=@List.cons_beq_cons
def A4E:=@Bool.false_and
def A4F:=@Int.le_refl
end Go
noncomputable section
set_option linter.unusedVariables false
set_option linter.unusedSimpArgs false
namespace Go.Eng
structure Tgt where
 block:Nat
 shift:Nat
 room:Nat
 unit:Nat
abbrev Ren:=Nat->Option Tgt
inductive VRel (ρ : Ren):Value->Value->Prop where
 |bool (b:Bool):VRel ρ (.bool b) (.bool b)
 |int (k:IntKind) (n:Int):VRel ρ (.int k n) (.int k n)
 |str (s:ByteArray):VRel ρ (.string s) (.string s)
 |pnil:VRel ρ (.pointer none) (.pointer none)
 |ptr (id off:Nat) (t:Tgt) (h : ρ id=some t):VRel ρ (.pointer (some ⟨id,off,none⟩)) (.pointer (some ⟨t.block,t.shift+off,none⟩))
 |snil:VRel ρ (.slice none 0 0) (.slice none 0 0)
 |slc (id off n c:Nat) (t:Tgt) (h : ρ id=some t) (hc:n<=c) (hm:c<=maxLen) (hr:t.unit=0\/off+c * t.unit<=t.room) :
   VRel ρ (.slice (some ⟨id,off,none⟩) n 0) (.slice (some ⟨t.block,t.shift+off,none⟩) n c)
 |tail (id off c:Nat) (a:Addr):VRel ρ (.slice (some ⟨id,off,none⟩) 0 1) (.slice (some a) 0 c)
 |fnil:VRel ρ .nilFunc .nilFunc
 |inil:VRel ρ .nilIface .nilIface
 |mnil:VRel ρ (.map none) (.map none)
 |iface (t:TypeId) (x y:Value) (h:VRel ρ x y):VRel ρ (.iface t x) (.iface t y)
 |func (f:Fn) (a b c d:Array Value) (h1:a.size=b.size) (h2:∀ (i:Nat) x y,a[i]? = some x->b[i]? = some y->VRel ρ x y)
   (h3:c.size=d.size) (h4:∀ (i:Nat) x y,c[i]? = some x->d[i]? = some y->VRel ρ x y):VRel ρ (.func f a c) (.func f b d)
 |agg (a b:Array Value) (h1:a.size=b.size) (h2:∀ (i:Nat) x y,a[i]? = some x->b[i]? = some y->VRel ρ x y):VRel ρ (.agg a) (.agg b)
 |tup (a b:Array Value) (h1:a.size=b.size) (h2:∀ (i:Nat) x y,a[i]? = some x->b[i]? = some y->VRel ρ x y):VRel ρ (.tuple a) (.tuple b)
def F2(ρ : Ren)(a b:Array Value):Prop:=a.size=b.size/\∀ (i:Nat) x y,a[i]? = some x->b[i]? = some y->VRel ρ x y
def Ren.le(ρ ρ':Ren):Prop:=∀ id t, ρ id=some t -> ρ' id=some t
section inv
variable {ρ : Ren} {v:Value}
theorem VRel.int_inv{k:IntKind}{n:Int}(h:VRel ρ (.int k n) v):v=.int k n:=by cases h;rfl
theorem VRel.str_inv{s:ByteArray}(h:VRel ρ (.string s) v):v=.string s:=by cases h;rfl
end inv
def scal:Value->Bool
 |.bool _ |.int .. |.string _ |.pointer none |.nilFunc |.nilIface |.map none=>true
 |.slice none 0 0=>true
 |_=>false
def C3r(a:Array Value):Bool:=a.toList.all scal
def flat:Value->Bool
 |.agg a |.tuple a=>C3r a
 |v=>scal v
structure Blk where
 unit:Nat
 own:Bool
 cells:List Value
abbrev Hp:=Nat->Option Blk
def Hp.upd(H:Hp)(id:Nat)(b:Blk):Hp:=fun j=>if j=id then some b else H j
def Hp.del(H:Hp)(id:Nat):Hp:=fun j=>if j=id then none else H j
def S6(ρ : Ren)(cells:List Value)(c:Array Value)(shift:Nat):Prop :=
 ∀ (i:Nat) v,cells[i]? = some v->v.oneCell'=true/\∃ v',c[shift+i]? = some v'/\VRel ρ v v'
def A6s(ρ : Ren)(b:Blk)(t:Tgt)(w:World):Prop :=
 ∃ c e fr,w.heap[t.block]? = some (.cells c e fr)/\t.shift+t.room=c.size/\b.cells.length<=t.room/\t.unit=b.unit/\S6 ρ b.cells c t.shift /\
  (b.own=true->fr=(0,0)/\t.shift=0)
structure Rep (ρ : Ren) (H:Hp) (w:World):Prop where
 blk:∀ id b,H id=some b->∃ t, ρ id=some t/\A6s ρ b t w
 sep:∀ i j bi bj ti tj,H i=some bi->H j=some bj->i≠j -> ρ i=some ti -> ρ j=some tj->bi.own=true->ti.block≠tj.block
structure Ext (ρ : Ren) (H:Hp) (w:World) (ρ':Ren) (H':Hp) (w':World):Prop where
 le : ρ.le ρ'
 os:w'.os=w.os
 tape:w'.tape=w.tape
 output:w'.output=w.output
 size:w.heap.size<=w'.heap.size
 keep:∀ k,k<w.heap.size->(∀ id b t,H id=some b->b.own=true -> ρ id=some t->t.block≠k)->w'.heap[k]? = w.heap[k]?
 mine:∀ id b t,H' id=some b -> ρ' id=some t->w.heap.size<=t.block\/∃ i b0 t0,H i=some b0/\(b.own=true->b0.own=true) /\ ρ i=some t0/\t0.block=t.block
inductive Opd where
 |t (n:Nat)
 |k (v:Value)
 |f (n:Nat)
abbrev Tm:=Nat->Value
def Tm.upd(T:Tm)(d:Nat)(v:Value):Tm:=fun j=>if j=d then v else T j
def opd:Operand->Option Opd
 |.tmp t=>some (.t t)
 |.const v=>if flat v then some (.k v) else none
 |.func f=>some (.f f)
 |.global _=>none
def A3t:List Operand->Option (List Opd)
 |[]=>some []
 |x :: r=>match opd x,A3t r with
  |some y,some s=>some (y :: s)
  |_,_=>none
def Y2(ρ : Ren)(T:Tm)(a:Act):Prop:=∀ t,VRel ρ (T t) (a.tmps.getD t undef)
inductive FOp where
 |mv (x:Opd)
 |pick (c a b:Opd)
 |ld (n:Nat) (agg:Bool) (x:Opd)
 |fad (off:Nat) (x:Opd)
 |iad (sz:Nat) (x i:Opd)
 |iada (len sz:Nat) (x i:Opd)
 |idx (x i:Opd)
 |fld (off n:Nat) (agg:Bool) (x:Opd)
 |ext (x:Opd) (i:Nat)
 |nck (x:Opd)
 |bin (op:BinOp) (x y:Opd)
 |eqb (neg:Bool) (x y:Opd)
 |eqn (neg:Bool) (kd:Nat) (x y:Opd)
 |eqa (neg:Bool) (ks:List Nat) (x y:Opd)
 |un (op:UnOp) (x:Opd)
 |cvi (k:IntKind) (x:Opd)
 |cvs (x:Opd)
 |cvbs (x:Opd)
 |slc (sz:Nat) (x:Opd) (lo hi:Option Opd)
 |sls (x:Opd) (lo hi:Option Opd)
 |mkf (f:Nat) (a c:List Opd)
 |bld (zero:Array Value) (pl:List (Nat × Nat)) (parts:List (Nat × Opd))
 |len (x:Opd)
 |lens (x:Opd)
 |mn (x y:Opd)
 |mx (x y:Opd)
def ldv(H:Hp)(n:Nat)(agg:Bool):Value->Option Value
 |.pointer (some ⟨id,off,none⟩) =>
  match H id with
  |some b =>
   match agg with
   |true=>match Nat.ble (off+n) b.cells.length with
    |true=>some (.agg ((b.cells.drop off).take n).toArray)
    |false=>none
   |false=>b.cells[off]?
  |none=>none
 |_=>none
def intR(op:BinOp)(k:IntKind)(a b:Int):Option Value :=
 match op with
 |.add=>some (.int k (k.wrap (a+b)))
 |.sub=>some (.int k (k.wrap (a-b)))
 |.mul=>some (.int k (k.wrap (a * b)))
 |.quo=>if b=0 then none else some (.int k (k.wrap (a.tdiv b)))
 |.rem=>if b=0 then none else some (.int k (a.tmod b))
 |.and=>some (.int k (bits .and k a b))
 |.or=>some (.int k (bits .or k a b))
 |.xor=>some (.int k (bits .xor k a b))
 |.andNot=>some (.int k (bits .andNot k a b))
 |.eql=>some (.bool (a == b))
 |.neq=>some (.bool (a != b))
 |.lss=>some (.bool (a<b))
 |.leq=>some (.bool (a<=b))
 |.gtr=>some (.bool (a>b))
 |.geq=>some (.bool (a≥b))
 |_=>none
def strL(s:ByteArray):List UInt8:=s.data.toList
def strR(op:BinOp)(a b:ByteArray):Option Value :=
 match op with
 |.add=>if a.data.size+b.data.size<=maxLen then some (.string ⟨a.data++b.data⟩) else none
 |.eql=>some (.bool (strL a == strL b))
 |.neq=>some (.bool !(strL a == strL b))
 |.lss=>some (.bool (Op.bytesLess (strL a) (strL b)))
 |.leq=>some (.bool (Op.bytesLess (strL a) (strL b) || strL a == strL b))
 |.gtr=>some (.bool !(Op.bytesLess (strL a) (strL b) || strL a == strL b))
 |.geq=>some (.bool !(Op.bytesLess (strL a) (strL b)))
 |_=>none
def binR(op:BinOp)(x y:Value):Option Value :=
 match x,y with
 |.int k a,.int j b =>
  match op with
  |.shl=>if b<0 then none else some (.int k (k.wrap (a * 2 ^ (min b.toNat k.bits))))
  |.shr=>if b<0 then none else some (.int k (a.fdiv (2 ^ (min b.toNat k.bits))))
  |_=>if k=j then intR op k a b else none
 |.string a,.string b=>strR op a b
 |_,_=>none
def A5v(kd:Nat)(x y:Value):Option Bool :=
 match kd,x,y with
 |0,.int j a,.int k b=>if j=k then some (a == b) else none
 |1,.bool a,.bool b=>some (a == b)
 |2,.string a,.string b=>some (strL a == strL b)
 |_,_,_=>none
def S0:List Nat->Nat->Array Value->Array Value->Option Bool
 |[],_,_,_=>some true
 |kd :: ks,i,a,b =>
  match a[i]?,b[i]? with
  |some x,some y=>match A5v kd x y with
   |some true=>S0 ks (i+1) a b
   |some false=>some false
   |none=>none
  |_,_=>none
def boundOf(d:Nat):Option Value->Option Nat
 |none=>some d
 |some (.int _ n)=>if 0<=n then some n.toNat else none
 |some _=>none
def A7q(H:Hp)(sz:Nat)(x:Value)(lo hi:Option Value):Option Value :=
 match x with
 |.slice none 0 0 =>
  match boundOf 0 hi,boundOf 0 lo with
  |some 0,some 0=>some (.slice none 0 0)
  |_,_=>none
 |.slice (some ⟨id,off,none⟩) n c =>
  match boundOf n hi,boundOf 0 lo with
  |some h,some l =>
   match Nat.ble h n,Nat.ble l h with
   |true,true =>
    match c with
    |0=>if l=0 then some (.slice (some ⟨id,off,none⟩) h 0)
       else if l=h then some (.slice (some ⟨id,off,none⟩) 0 1)
       else match H id with
        |some b=>if b.unit=sz\/b.unit=0 then some (.slice (some ⟨id,off+l * sz,none⟩) (h-l) 0) else none
        |none=>none
    |1=>some (.slice (some ⟨id,off,none⟩) 0 1)
    |_=>none
   |_,_=>none
  |_,_=>none
 |_=>none
def slsR(s:ByteArray)(lo hi:Option Value):Option Value :=
 match boundOf s.data.size hi,boundOf 0 lo with
 |some h,some l =>
  match Nat.ble h s.data.size,Nat.ble l h with
  |true,true=>some (.string ⟨((s.data.toList.drop l).take (h-l)).toArray⟩)
  |_,_=>none
 |_,_=>none
def R4:TypeDesc->Bool
 |.struct _ |.array _ _=>true
 |_=>false
def A8y:Option Operand->Option (Option Opd)
 |none=>some none
 |some x=>match opd x with
  |some y=>some (some y)
  |none=>none
def R1(P:Program):List Field->Option (List (Nat × Nat))
 |[]=>some []
 |f :: r=>match P.info? f.type,R1 P r with
  |some i,some s=>some ((f.offset,i.size) :: s)
  |_,_=>none
def N3:List (Nat × Operand)->Option (List (Nat × Opd))
 |[]=>some []
 |p :: r=>match opd p.2,N3 r with
  |some x,some s=>some ((p.1,x) :: s)
  |_,_=>none
def A1w:Option TypeDesc->Option Nat
 |some (.int _)=>some 0
 |some .bool=>some 1
 |some .string=>some 2
 |_=>none
def K2(P:Program):Nat->List Field->Option (List Nat)
 |_,[]=>some []
 |n,f :: r =>
  match A1w (P.underlying f.type),K2 P (n+1) r with
  | some k, some ks => if f.offset = n ∧ f.name ≠ "_" then some (k :: ks) else none
  |_,_=>none
def Z0:TypeDesc->Option Nat
 |.pointer _=>some 0
 |.slice _=>some 1
 |.func _ _ _=>some 2
 |_=>none
def B6g(P:Program)(op:BinOp)(t:TypeId)(x y:Opd):Option FOp :=
 match P.underlying t with
 |some .bool=>match op with
  |.eql=>some (.eqb false x y)
  |.neq=>some (.eqb true x y)
  |_=>none
 |some (.int _)|some .string=>some (.bin op x y)
 |some (.struct fs) =>
  match K2 P 0 fs.toList with
  |some ks=>if P.stoodInHeld t=false/\P.eqGuardType P.depth t=false then
    match op with
    |.eql=>some (.eqa false ks x y)
    |.neq=>some (.eqa true ks x y)
    |_=>none
   else none
  |none=>none
 |some (.interface _)=>match op,y with
  |.eql,.k .nilIface=>some (.eqn false 3 x y)
  |.neq,.k .nilIface=>some (.eqn true 3 x y)
  |_,_=>none
 |some D=>match Z0 D,op with
  |some kd,.eql=>some (.eqn false kd x y)
  |some kd,.neq=>some (.eqn true kd x y)
  |_,_=>none
 |none=>none
theorem opd_inil{y:Operand}(h:opd y=some (.k .nilIface)):y=.const .nilIface:=by
 cases y with
 |const v =>
  simp only[opd]at h
  grind
 |tmp t=>cases h
 |func f=>cases h
 |global g=>cases h
def B0l(P:Program)(s d:TypeId)(x:Opd):Option FOp :=
 match P.underlying s,P.underlying d with
 |some (.int _),some (.int k)=>some (.cvi k x)
 |some .string,some .string=>some (.cvs x)
 |some (.slice e),some .string=>match P.underlying e with
  |some (.int .u8)=>match P.info? e with
   |some i=>if i.size=1 then some (.cvbs x) else none
   |none=>none
  |_=>none
 |_,_=>none
def trF(P:Program):Op->Option FOp
 |.move x=>(opd x).map .mv
 |.assign x=>(opd x).map .mv
 |.pick c a b=>match opd c,opd a,opd b with
  |some c,some a,some b=>some (.pick c a b)
  |_,_,_=>none
 |.load t x=>match opd x,P.info? t,P.underlying t with
  |some x,some i,some u=>some (.ld i.size (R4 u) x)
  |_,_,_=>none
 |.fieldAddr s x k=>match opd x,P.underlying s with
  |some x,some (.struct fs)=>match fs[k]? with
   |some f=>match P.info? f.type with
    |some i=>if i.size=0 then none else some (.fad f.offset x)
    |none=>none
   |none=>none
  |_,_=>none
 |.indexAddr t x i=>match opd x,opd i,P.underlying t with
  |some x,some i,some (.slice e)=>(P.info? e).map fun inf=>.iad inf.size x i
  |some x,some i,some (.array n e)=>(P.info? e).map fun inf=>.iada n inf.size x i
  |_,_,_=>none
 |.index t x i=>match opd x,opd i,P.underlying t with
  |some x,some i,some .string=>some (.idx x i)
  |_,_,_=>none
 |.field t x k=>match opd x,P.underlying t with
  |some x,some (.struct fs)=>match fs[k]? with
   |some f=>match P.info? f.type,P.underlying f.type with
    |some i,some u=>some (.fld f.offset i.size (R4 u) x)
    |_,_=>none
   |none=>none
  |_,_=>none
 |.extract x i=>(opd x).map fun x=>.ext x i
 |.nilCheck x=>(opd x).map .nck
 |.binOp op t x y _=>match opd x,opd y with
  |some x,some y=>B6g P op t x y
  |_,_=>none
 |.unOp op _ x=>(opd x).map (.un op)
 |.convert s d x=>match opd x with
  |some x=>B0l P s d x
  |none=>none
 |.slice t x lo hi none=>match opd x,A8y lo,A8y hi,P.underlying t with
  |some x,some lo,some hi,some (.slice e)=>(P.info? e).map fun inf=>.slc inf.size x lo hi
  |some x,some lo,some hi,some .string=>some (.sls x lo hi)
  |_,_,_,_=>none
 |.makeFunc (.func f) a c=>match A3t a.toList,A3t c.toList with
  |some a,some c=>some (.mkf f a c)
  |_,_=>none
 |.build t ps=>match P.info? t,P.underlying t,N3 ps.toList with
  |some i,some (.struct fs),some ps=>match i.zero,R1 P fs.toList with
   |some z,some pl=>if C3r z.cells then some (.bld z.cells pl ps) else none
   |_,_=>none
  |some i,some (.array n e),some []=>match i.zero,P.info? e with
   |some z,some _=>if C3r z.cells then some (.bld z.cells [] []) else none
   |_,_=>none
  |_,_,_=>none
 |.call { callee:=.builtin .len,args,argTypes }=>match args.toList,argTypes.toList with
  |[x],[t]=>match opd x,P.underlying t with
   |some x,some (.slice _)=>some (.len x)
   |some x,some .string=>some (.lens x)
   |_,_=>none
  |_,_=>none
 |.call { callee:=.builtin .min,args,argTypes }=>match args.toList with
  |[x,y]=>match opd x,opd y with
   |some x,some y=>some (.mn x y)
   |_,_=>none
  |_=>none
 |.call { callee:=.builtin .max,args,argTypes }=>match args.toList with
  |[x,y]=>match opd x,opd y with
   |some x,some y=>some (.mx x y)
   |_,_=>none
  |_=>none
 |_=>none
section
variable {P:Program} {ρ : Ren} {H:Hp} {w:World} {T:Tm} {a:Act}
theorem V3(b o n:Nat):(⟨b,o,none⟩:Addr).add n=⟨b,o+n,none⟩:=by
 unfold Addr.add;simp
theorem run_loadCells_row{g off n:Nat}{c:Array Value}{e:TypeId}{fr:Nat × Nat}(hg:w.heap[g]? = some (.cells c e fr))(hn:off+n<=c.size):
  (loadCells ⟨g,off,none⟩ n).run P w=.ok ((c.toList.drop off).take n).toArray w:=by
 have hl:((c.toList.drop off).take n).length=n:=by simp;omega
 have:=run_loadCells_list (P:=P) w ⟨g,off,none⟩ ((c.toList.drop off).take n) (fun j v hv=>by
  rw[V3,cell_of_row w g _ c e fr hg];rw[A1R]at hv;split at hv
  ·simpa[A2M] using hv
  ·cases hv)
 grind
theorem run_isAgg{t:TypeId}{u:TypeDesc}(hu:P.underlying t=some u):(isAgg t).run P w=.ok (R4 u) w:=by
 unfold isAgg;rw[Sem.run_bind,run_underlying hu w];cases u<;>rfl
theorem run_sizeOf{t:TypeId}{i:TypeInfo}(hi:P.info? t=some i):(sizeOf t).run P w=.ok i.size w:=by
 simp[sizeOf,typeInfo,hi]
theorem run_zeroValue{t:TypeId}{i:TypeInfo}{z:Value}(hi:P.info? t=some i)(hz:i.zero=some z):(zeroValue t).run P w=.ok z w:=by
 simp[zeroValue,typeInfo,hi,hz]
theorem bin_sound{op:BinOp}{t:TypeId}{x y:Operand}{u v u' v' r:Value}(hx:VRel ρ u u')(hy:VRel ρ v v')(h:binR op u v=some r):
  (do eqGuard op t x y u' v';binOp op t u' v').run P w=.ok r w/\VRel ρ r r:=by
 unfold binR at h;split at h
 ·rename_i k m j n;cases hx.int_inv;cases hy.int_inv;rw[Sem.run_bind,eqGuard_at_int,Sem.run_pure,Result.andThen_ok];split at h
  ·split at h
   ·cases h
   ·rename_i hneg;cases h;exact⟨by simp[binOp_shl,Op.shift,hneg],.int _ _⟩
  ·split at h
   ·cases h
   ·rename_i hneg;cases h;exact⟨by simp[binOp_shr,Op.shift,hneg],.int _ _⟩
  ·rename_i hs1 hs2;split at h
   ·rename_i hkj;subst hkj;unfold intR at h;split at h
    case h_1=>cases h;exact⟨by simp[binOp_add,Op.intArith],.int _ _⟩
    case h_2=>cases h;exact⟨by simp[binOp_sub,Op.intArith],.int _ _⟩
    case h_3=>cases h;exact⟨by simp[binOp_mul,Op.intArith],.int _ _⟩
    case h_4 =>
     split at h
     ·cases h
     ·rename_i h0;cases h;exact⟨by simp[binOp_quo,Op.intDiv,h0],.int _ _⟩
    case h_5 =>
     split at h
     ·cases h
     ·rename_i h0;cases h;exact⟨by simp[binOp_rem,Op.intDiv,h0],.int _ _⟩
    all_goals first
     |(cases h;exact⟨by simp[binOp_eql,binOp_neq,binOp_lss,binOp_leq,binOp_gtr,binOp_geq],by constructor⟩)
     |(cases h;exact⟨by simp[binOp_and,binOp_or,binOp_xor,binOp_andNot,intBits_and,intBits_or,intBits_xor,intBits_andNot],by constructor⟩)
     |(cases h;done)
   ·cases h
 ·rename_i s s2;cases hx.str_inv;cases hy.str_inv;rw[Sem.run_bind,eqGuard_at_string,Sem.run_pure,Result.andThen_ok];unfold strR at h;split at h
  ·split at h
   ·rename_i hle;cases h;refine⟨?_,.str _⟩;have hn:¬ (9223372036854775807<(s.size:Int)+(s2.size:Int)):=by
     have h1:s.data.size=s.size:=rfl;have h2:s2.data.size=s2.size:=rfl;simp only[maxLen]at hle;omega
    have hap:s++s2=⟨s.data++s2.data⟩:=by
     apply ByteArray.ext;simp
    simp[binOp,Op.stringOp,hn,hap]
   ·cases h
  all_goals first
   |(cases h;exact⟨by simp[binOp,Op.stringOp,ByteArray.toList_eq,strL],by constructor⟩)
   |(cases h;done)
 grind
theorem eqb_sound{t:TypeId}{x y:Operand}(ht:P.underlying t=some .bool)(b c:Bool):
  (do eqGuard .eql t x y (.bool b) (.bool c);binOp .eql t (.bool b) (.bool c)).run P w=.ok (.bool (b == c)) w /\
  (do eqGuard .neq t x y (.bool b) (.bool c);binOp .neq t (.bool b) (.bool c)).run P w=.ok (.bool (!(b == c))) w:=by
 constructor
 ·rw[Sem.run_bind,eqGuard_at_bool,Sem.run_pure,Result.andThen_ok,run_eql_bool w t b c ht]
 ·rw[Sem.run_bind,eqGuard_at_bool,Sem.run_pure,Result.andThen_ok,run_neq_bool w t b c ht]
theorem cell_part{t:TypeId}{kd:Nat}(hk:A1w (P.underlying t)=some kd){cs:Array Value}{i:Nat}{v:Value}(h:cs[i]? = some v):(part t cs i).run P w=.ok v w:=by
 cases hu:P.underlying t with
 |none=>rw[hu]at hk;cases hk
 |some D =>
  have:R4 D=false:=by rw[hu]at hk;cases D<;>simp[A1w]at hk<;>rfl
  simp[part,run_isAgg hu,this,h]
end
section
variable {P:Program} {ρ : Ren} {H:Hp} {w:World} {T:Tm} {a:Act}
theorem T9{d:Nat}{x:Option Value}{b:Nat}(h:boundOf d x=some b):(x=none/\b=d)\/∃ k n,x=some (.int k n)/\0<=n/\n.toNat=b:=by
 unfold boundOf at h
 grind
theorem run_bounds{isSlice:Bool}{len cap:Nat}{lo hi lo' hi':Option Value}{l h:Nat}(hlo:boundOf 0 lo=some l)(hhi:boundOf len hi=some h)(rlo:lo'=lo)(rhi:hi'=hi)
  (h1:l<=h) (h2:h<=len) (h3:len<=cap):(Instr.sliceBounds isSlice len cap lo' hi' none).run P w=.ok (l,h,cap) w:=by
 subst rlo rhi;rcases T9 hlo with ⟨rfl,rfl⟩|⟨k,n,rfl,hn,rfl⟩<;>rcases T9 hhi with ⟨rfl,rfl⟩|⟨k',n',rfl,hn',rfl⟩
 ·rfl
 ·simp[Instr.sliceBounds,Instr.sliceBound,asIntOf,hn',show n'<=(cap:Int) by omega]
 ·simp[Instr.sliceBounds,Instr.sliceBound,asIntOf,hn,show n<=(h:Int) by omega]
 ·simp[Instr.sliceBounds,Instr.sliceBound,asIntOf,hn,hn',show n'<=(cap:Int) by omega,show n<=max n' 0 by omega]
theorem sls_sound{t:TypeId}(ht:P.underlying t=some .string){s:ByteArray}{lo hi':Option Value}{v:Value}(h:slsR s lo hi'=some v):
  (Instr.sliceAt t (.string s) lo hi' none).run P w=.ok v w/\VRel ρ v v:=by
 have hs:(Instr.sliceAt t (.string s) lo hi' none).run P w=(Instr.slice t (.string s) lo hi' none).run P w:=by simp[Instr.sliceAt,run_underlying ht]
 rw[hs];unfold slsR at h;split at h
 ·rename_i hh ll h1 h2;split at h
  ·rename_i b1 b2;rw[A2I]at b1 b2;cases h;refine⟨?_,.str _⟩;have hb:=run_bounds (P:=P) (w:=w) (isSlice:=false) (cap:=s.size) h2 h1 rfl rfl b2 b1 (A0J _);have he:s.extract ll hh=⟨((s.data.toList.drop ll).take (hh-ll)).toArray⟩:=by
    apply ByteArray.ext;rw[ByteArray.data_extract];apply Array.ext';simp only[Array.toList_extract]
   simp only[Instr.slice,Sem.run_bind,run_underlying ht,Result.andThen_ok];have hsz:s.data.size=s.size:=rfl;rw[hsz]at hb;simp[hb,he]
  ·cases h
 grind
theorem foldl_push(l:List Int):∀ (s:ByteArray),l.foldl (fun (r:ByteArray) n=>r.push (UInt8.ofNat n.toNat)) s=⟨s.data++(l.map fun n=>UInt8.ofNat n.toNat).toArray⟩:=by
 induction l with
 |nil=>simp
 |cons n l ih =>
  simp_all
theorem cvbs_zero{s d e:TypeId}(hs:P.underlying s=some (.slice e))(he:P.underlying e=some (.int .u8))(hd:P.underlying d=some .string)(ad:Option Addr)(c:Nat):
  (convert s d (.slice ad 0 c)).run P w=.ok (.string ⟨#[]⟩) w:=by
 rw[run_convert_bytes_string w s d e ad 0 c hs he hd];cases ad with
 |none=>rfl
 |some ad =>
  rfl
theorem placesOf_sound:∀ {fs:List Field} {pl:List (Nat × Nat)},R1 P fs=some pl->∀ (f:Field->Sem (Nat × Nat)),(f=fun f=>do pure (f.offset, <- sizeOf f.type)) ->
  (fs.mapM f).run P w=.ok pl w
 |[],pl,h,f,hf=>by simp only[R1,Option.some.injEq]at h;simp_all
 |x :: fs,pl,h,f,hf=>by
  simp only[R1]at h;split at h
  ·rename_i i s hi hs;cases h;have ih:=placesOf_sound hs f hf;subst hf;simp only[List.mapM_cons,Sem.run_bind,run_sizeOf hi,Result.andThen_ok,Sem.run_pure,ih]
  grind
theorem B2s{ps:Array (Nat × Operand)}(hq:N3 ps.toList=some []):ps = #[]:=by
 have:∀ l:List (Nat × Operand),N3 l=some []->l=[]:=by
  intro l h;cases l with
  |nil=>rfl
  |cons x r =>
   obtain⟨i,o⟩:=x;simp only[N3]at h;split at h<;>cases h
 grind
theorem bldA_run{t:TypeId}{i:TypeInfo}(hi:P.info? t=some i){n:Nat}{e:TypeId}(hu:P.underlying t=some (.array n e)){z:Value}(hz:i.zero=some z){ie:TypeInfo}(hie:P.info? e=some ie)
  {ps:Array (Nat × Operand)} (hq:N3 ps.toList=some []) {f:Operand->Value}:(Instr.build t (ps.map fun (i,x)=>(i,f x))).run P w=.ok (.agg z.cells) w:=by
 rw[B2s hq];unfold Instr.build;rw[Sem.run_bind,run_zeroValue hi hz,Result.andThen_ok,Sem.run_bind,run_underlying hu,Result.andThen_ok,Sem.run_bind,run_sizeOf hie,Result.andThen_ok];simp[Instr.fill]
end
inductive AOp where
 |box (x:Opd)
 |bsl (sz n:Nat) (zero:Array Value) (parts:List (Nat × Opd))
 |msl (sz bytes:Nat) (zero:Array Value) (l c:Opd)
def trA(P:Program):Op->Option AOp
 |.alloc e=>match P.info? e with
  |some i=>match i.zero with
   |some z=>if flat z then some (.box (.k z)) else none
   |none=>none
  |none=>none
 |.box _ x=>(opd x).map .box
 |.buildSlice t n ps=>match P.underlying t,N3 ps.toList with
  |some (.slice e),some qs=>match P.info? e with
   |some i=>match i.zero with
    |some z=>if C3r z.cells=true/\z.cells.size=i.size/\n * i.size<=16777216/\n<=maxLen then some (.bsl i.size n z.cells qs) else none
    |none=>none
   |none=>none
  |_,_=>none
 |.makeSlice t l c=>match P.underlying t,opd l,opd c with
  |some (.slice e),some l,some c=>match P.info? e with
   |some i=>match i.zero with
    |some z=>if C3r z.cells=true/\z.cells.size=i.size then some (.msl i.size i.bytes z.cells l c) else none
    |none=>none
   |none=>none
  |_,_,_=>none
 |_=>none
section
variable {P:Program} {ρ : Ren} {H:Hp} {w:World} {T:Tm} {a:Act}
end
inductive KKey where
 |s
 |b
 |i (k:IntKind)
deriving DecidableEq
def A6m:TypeDesc->Option KKey
 |.string=>some .s
 |.bool=>some .b
 |.int k=>some (.i k)
 |_=>none
inductive EOp where
 |st (n:Nat) (x v:Opd)
 |app (sz bytes:Nat) (s x:Opd)
 |apps (s x:Opd)
 |mkm (kd:KKey)
 |mup (kd:KKey) (m k v:Opd)
 |lkp (kd:KKey) (z:Value) (ok:Bool) (m k:Opd)
 |cvsb (x:Opd)
 |cpy (sz:Nat) (d s:Opd)
 |cpys (d s:Opd)
 |cap0 (x:Opd)
 |appz (sz bytes:Nat) (zero:Array Value) (s x:Opd)
def bytesV(s:ByteArray):List Value:=s.data.toList.map fun b=>Value.int .u8 b.toNat
def C8l(P:Program)(t:TypeId)(r:Option Operand):Option EOp :=
 match P.underlying t with
 |some (.map kt _)=>match (P.underlying kt).bind A6m with
  |some kd=>match r with
   |none=>some (.mkm kd)
   |some r=>match opd r with
    |some (.k (.int _ _))=>some (.mkm kd)
    |_=>none
  |none=>none
 |_=>none
def B1w(P:Program)(t:TypeId)(m k v:Operand):Option EOp :=
 match P.underlying t with
 |some (.map kt _)=>match (P.underlying kt).bind A6m,opd m,opd k,opd v with
  |some kd,some m,some k,some v=>some (.mup kd m k v)
  |_,_,_,_=>none
 |_=>none
def C0a(P:Program)(t:TypeId)(m k:Operand)(ok:Bool):Option EOp :=
 match P.underlying t with
 |some (.map kt et)=>match (P.underlying kt).bind A6m,P.info? et,opd m,opd k with
  |some kd,some i,some m,some k=>match i.zero with
   |some z=>some (.lkp kd z ok m k)
   |none=>none
  |_,_,_,_=>none
 |_=>none
def C8m(P:Program)(s d:TypeId)(x:Operand):Option EOp :=
 match P.underlying s,P.underlying d with
 |some .string,some (.slice e)=>match P.underlying e,opd x with
  |some (.int .u8),some x=>if (P.info? e).map (fun i=>(i.size,i.bytes))=some (1,1) then some (.cvsb x) else none
  |_,_=>none
 |_,_=>none
def C8n(P:Program)(args:List Operand)(ts:List TypeId):Option EOp :=
 match args,ts with
 |[d,s],[t,u]=>match opd d,opd s,P.underlying t with
  |some d,some s,some (.slice e)=>match P.info? e with
   |some i=>if 0<i.size then
     if t=u then some (.cpy i.size d s)
     else match P.underlying u with
      |some .string=>if i.size=1 then some (.cpys d s) else none
      |_=>none
    else none
   |none=>none
  |_,_,_=>none
 |_,_=>none
def C8o(P:Program)(args:List Operand)(ts:List TypeId):Option EOp :=
 match args,ts with
 |[d],[t]=>match opd d,P.underlying t with
  |some d,some (.slice _)=>some (.cap0 d)
  |_,_=>none
 |_,_=>none
def trE(P:Program):Op->Option EOp
 |.convert s d x=>C8m P s d x
 |.call { callee:=.builtin .copy,args,argTypes }=>C8n P args.toList argTypes.toList
 |.call { callee:=.builtin .cap,args,argTypes }=>C8o P args.toList argTypes.toList
 |.store t x v=>match P.info? t,opd x,opd v with
  |some i,some x,some v=>some (.st i.size x v)
  |_,_,_=>none
 |.makeMap t r=>C8l P t r
 |.mapUpdate t m k v=>B1w P t m k v
 |.insert t m k v=>B1w P t m k v
 |.lookup t m k ok=>C0a P t m k ok
 |.call { callee:=.builtin .append,args,argTypes }=>match args.toList,argTypes.toList with
  |[s,x],[t,u]=>match opd s,opd x,P.underlying t with
   |some s,some x,some (.slice e)=>match P.info? e with
    |some i=>match i.zero with
     |some z =>
      if z.cells.size=i.size/\0<i.size then
       if t=u then some (.app i.size i.bytes s x)
       else match P.underlying u with
        |some .string=>if i.size=1/\i.bytes=1 then some (.apps s x) else none
        |some (.int _)=>some (.appz i.size i.bytes z.cells s x)
        |_=>none
      else none
     |none=>none
    |none=>none
   |_,_,_=>none
  |_,_=>none
 |_=>none
section
variable {P:Program} {ρ : Ren} {H:Hp} {w:World} {T:Tm} {a:Act}
structure Did (ρ : Ren) (H:Hp) (c:Nat) (w:World) (v':Value) (w':World) (v:Value) (H':Hp) (c':Nat) (ρ':Ren):Prop where
 val:VRel ρ' v v'
 rep:Rep ρ' H' w'
 fresh:∀ id,c'<=id -> ρ' id=none
 up:c<=c'
 dom:∀ id,id<c->H' id≠none->H id≠none
 same:∀ id,id<c -> ρ' id = ρ id
 ext:Ext ρ H w ρ' H' w'
end
section
variable {P:Program} {ρ : Ren} {H:Hp} {w:World} {T:Tm} {a:Act}
structure Src (P:Program) (ρ : Ren) (w:World) (sz:Nat) (m:Nat) (src:List Value) (x':Value) (news:List Value):Prop where
 len:∀ w0:World,(Builtin.lenOf x').run P w0=.ok m w0
 run:∀ w0:World,w0.heap=w.heap->(Builtin.firstCells sz m x').run P w0=.ok news.toArray w0
 size:news.length=m * sz
 size':src.length=m * sz
 rel:∀ (i:Nat) v,src[i]? = some v->v.oneCell'=true/\∃ v',news[i]? = some v'/\VRel ρ v v'
 one:∀ u∈news,u.oneCell'=true
theorem str_src(s:ByteArray):Src P ρ w 1 s.data.toList.length (bytesV s) (.string s) (bytesV s):=by
 have hone:∀ u∈bytesV s, ∃ n,u=.int .u8 n:=by
  intro u hu;simp only[bytesV,A1L]at hu
  grind
 refine⟨fun w0=>?_,fun w0 _=>?_,by simp[bytesV],by simp[bytesV],fun i v hv=>?_,fun u hu=>?_⟩
 ·rfl
 ·have he:(s.extract 0 s.data.toList.length)=s:=by
   simp
  simp only[Builtin.firstCells,Sem.run_pure,he]
  congr 1
  apply Array.ext';simp[bytesV]
 ·obtain⟨n,rfl⟩:=hone v (A0M hv);exact⟨rfl,_,hv,.int _ _⟩
 ·obtain⟨n,rfl⟩:=hone u hu;rfl
theorem B2m{t u ty e:TypeId}{i:TypeInfo}{z:Value}(ht:P.underlying t=some (.slice e)){D:TypeDesc}(hu:P.underlying u=some D)(hD:(∃ e',D=.slice e')\/D=.string)(hi:P.info? e=some i)(hz:i.zero=some z)
  {base:Option Addr} {sLen sCap m:Nat} {x':Value} {olds news:List Value} (hlen:∀ w0:World,(Builtin.lenOf x').run P w0=.ok m w0)
  (G0:∀ w0:World,w0.heap=w.heap->(Builtin.firstCells i.size sLen (.slice base sLen sCap)).run P w0=.ok olds.toArray w0)
  (hnew:∀ w0:World,w0.heap=w.heap->(Builtin.firstCells i.size m x').run P w0=.ok news.toArray w0)
  (hg:sCap<sLen+m) (h63:sLen+m<=maxLen) (hb:(sLen+m) * i.bytes<=140737488355328) :
  (Builtin.append_ #[t,u] ty #[.slice base sLen sCap,x']).run P w =
   .ok (.slice (some ⟨w.heap.size,0,none⟩) (sLen+m) (grownCap w (sLen+m) sCap e)) (w.drew.alloc (.cells (olds.toArray++news.toArray++Builtin.zeroCells z.cells (grownCap w (sLen+m) sCap e-(sLen+m))) e)):=by
 have hfit:=growslice_fits hg hb;have hn:¬ (sLen+m<=sCap):=by omega
 simp only[maxLen]at h63;have h63':¬ (9223372036854775807<((sLen:Int)+(m:Int))):=by omega
 have h48':¬ (281474976710656<Builtin.nextslicecap (sLen+m) sCap * i.bytes):=by omega
 have hf:=hnew w.drew rfl;have hfo:=G0 w.drew rfl;rcases hD with ⟨e',rfl⟩|rfl<;>simp[Builtin.append_,run_underlying ht,run_underlying hu,sizeOf,typeInfo,zeroValue,hi,hz,hlen,hn,h63',h48',Question.forced,hf,hfo,newRow,grownCap]
 all_goals
  congr 2
  apply Array.ext';simp
theorem B2k{t u ty e:TypeId}{i:TypeInfo}(ht:P.underlying t=some (.slice e)){D:TypeDesc}(hu:P.underlying u=some D)(hD:(∃ e',D=.slice e')\/D=.string)(hi:P.info? e=some i)
  {x':Value} (hlen:∀ w0:World,(Builtin.lenOf x').run P w0=.ok 0 w0) (hnew:∀ w0:World,w0.heap=w.heap->(Builtin.firstCells i.size 0 x').run P w0=.ok #[] w0) :
  (Builtin.append_ #[t,u] ty #[.slice none 0 0,x']).run P w=.ok (.slice none 0 0) w:=by
 have hf:=hnew w rfl;rcases hD with ⟨e',rfl⟩|rfl<;>simp[Builtin.append_,run_underlying ht,run_underlying hu,sizeOf,typeInfo,hi,hlen,hf]
end
end Go.Eng
end
