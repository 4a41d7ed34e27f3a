/-
  HELPERS of the claim: part 6 of its texts.
-/
import Derived.Test.YtcallbfckjlagaaGreatProg
import Derived.KernelRfl
import Derived.Test.YtcallbfckjlagaaGreatBroe
noncomputable section
set_option linter.unusedVariables false
set_option linter.unusedSimpArgs false
namespace Go.Eng
abbrev TrB:=Tr Blk
def adC (f:Nat→Nat→Option Value) (b o:Nat) (s:Option Nat):Option Value:=@Option.rec Nat (fun _=>Option Value) (f b o) (fun _=>none) s
def adO (f:Nat→Nat→Option Value) (a:Option Addr):Option Value:=@Option.rec Addr (fun _=>Option Value) none (@Addr.rec (fun _=>Option Value) (adC f)) a
def vPtr (f:Nat→Nat→Option Value) (v:Value):Option Value:=@Value.rec.{1} (fun _=>Option Value) (fun _=>PUnit) (fun _=>PUnit) (fun _=>none) (fun _ _=>none) (fun _ _=>none) (fun _ _ _=>none) (fun _=>none) (adO f) (fun _ _ _=>none) (fun _=>none) (fun _=>none) (fun _ _ _ _ _=>none) (none) (fun _ _ _=>none) (none) (fun _ _=>none) (fun _ _=>none) (fun _ _=>PUnit.unit) PUnit.unit (fun _ _ _ _=>PUnit.unit) v
theorem vPtr_eq (f:Nat→Nat→Option Value) (v:Value):vPtr f v=(match v with | .pointer (some ⟨id,off,none⟩)=>f id off|_=>none):=by
 cases v with
 | pointer a=>cases a with
  | none=>rfl
  | some a=>obtain ⟨b,o,s⟩:=a;cases s<;>rfl
 | _=>rfl
def slC (f:Nat→Nat→Nat→Nat→Option Value) (n c b o:Nat) (s:Option Nat):Option Value:=@Option.rec Nat (fun _=>Option Value) (f b o n c) (fun _=>none) s
def slO (f:Nat→Nat→Nat→Nat→Option Value) (a:Option Addr) (n c:Nat):Option Value:=@Option.rec Addr (fun _=>Option Value) none (@Addr.rec (fun _=>Option Value) (slC f n c)) a
def vSl (f:Nat→Nat→Nat→Nat→Option Value) (v:Value):Option Value:=@Value.rec.{1} (fun _=>Option Value) (fun _=>PUnit) (fun _=>PUnit) (fun _=>none) (fun _ _=>none) (fun _ _=>none) (fun _ _ _=>none) (fun _=>none) (fun _=>none) (slO f) (fun _=>none) (fun _=>none) (fun _ _ _ _ _=>none) (none) (fun _ _ _=>none) (none) (fun _ _=>none) (fun _ _=>none) (fun _ _=>PUnit.unit) PUnit.unit (fun _ _ _ _=>PUnit.unit) v
theorem vSl_eq (f:Nat→Nat→Nat→Nat→Option Value) (v:Value):vSl f v=(match v with | .slice (some ⟨id,off,none⟩) n c=>f id off n c|_=>none):=by
 cases v with
 | slice a n c=>cases a with
  | none=>rfl
  | some a=>obtain ⟨b,o,s⟩:=a;cases s<;>rfl
 | _=>rfl
def vInt (f:IntKind→Int→Option Value) (v:Value):Option Value:=@Value.rec.{1} (fun _=>Option Value) (fun _=>PUnit) (fun _=>PUnit) (fun _=>none) f (fun _ _=>none) (fun _ _ _=>none) (fun _=>none) (fun _=>none) (fun _ _ _=>none) (fun _=>none) (fun _=>none) (fun _ _ _ _ _=>none) (none) (fun _ _ _=>none) (none) (fun _ _=>none) (fun _ _=>none) (fun _ _=>PUnit.unit) PUnit.unit (fun _ _ _ _=>PUnit.unit) v
theorem vInt_eq (f:IntKind→Int→Option Value) (v:Value):vInt f v=(match v with | .int k n=>f k n|_=>none):=by cases v<;>rfl
def vStr (f:ByteArray→Option Value) (v:Value):Option Value:=@Value.rec.{1} (fun _=>Option Value) (fun _=>PUnit) (fun _=>PUnit) (fun _=>none) (fun _ _=>none) (fun _ _=>none) (fun _ _ _=>none) f (fun _=>none) (fun _ _ _=>none) (fun _=>none) (fun _=>none) (fun _ _ _ _ _=>none) (none) (fun _ _ _=>none) (none) (fun _ _=>none) (fun _ _=>none) (fun _ _=>PUnit.unit) PUnit.unit (fun _ _ _ _=>PUnit.unit) v
theorem vStr_eq (f:ByteArray→Option Value) (v:Value):vStr f v=(match v with | .string s=>f s|_=>none):=by cases v<;>rfl
def vBool (f:Bool→Option Value) (v:Value):Option Value:=@Value.rec.{1} (fun _=>Option Value) (fun _=>PUnit) (fun _=>PUnit) f (fun _ _=>none) (fun _ _=>none) (fun _ _ _=>none) (fun _=>none) (fun _=>none) (fun _ _ _=>none) (fun _=>none) (fun _=>none) (fun _ _ _ _ _=>none) (none) (fun _ _ _=>none) (none) (fun _ _=>none) (fun _ _=>none) (fun _ _=>PUnit.unit) PUnit.unit (fun _ _ _ _=>PUnit.unit) v
theorem vBool_eq (f:Bool→Option Value) (v:Value):vBool f v=(match v with | .bool s=>f s|_=>none):=by cases v<;>rfl
def oneX (v:Value):Bool:=@Value.rec.{1} (fun _=>Bool) (fun _=>PUnit) (fun _=>PUnit) (fun _=>true) (fun _ _=>true) (fun _ _=>true) (fun _ _ _=>true) (fun _=>true) (fun _=>true) (fun _ _ _=>true) (fun _=>true) (fun _=>true) (fun _ _ _ _ _=>true) (true) (fun _ _ _=>true) (true) (fun _ _=>false) (fun _ _=>false) (fun _ _=>PUnit.unit) PUnit.unit (fun _ _ _ _=>PUnit.unit) v
theorem oneX_eq (v:Value):oneX v=v.oneCell':=by cases v<;>rfl
def lallC (a:Value) (l:List Value) (ih:Bool):Bool:=@Bool.rec (fun _=>Bool) false ih (oneX a)
def lallX (l:List Value):Bool:=@List.rec Value (fun _=>Bool) true lallC l
theorem lallX_eq:∀ l:List Value,lallX l=l.all Value.oneCell'
 | []=>rfl
 | a :: l=>by
  show lallC a l (lallX l)=_
  rw [lallX_eq l,List.all_cons, ← oneX_eq]
  unfold lallC
  cases oneX a<;>rfl
def clA (cs:Array Value) (_:PUnit.{1}) (_:Value):Option (List Value):=@Bool.rec (fun _=>Option (List Value)) none (some cs.toList) (lallX cs.toList)
def cl1 (v:Value):Option (List Value):=some (v :: [])
def cl0 (v:Value):Option (List Value):=none
def cellsX (v:Value):Option (List Value):=@Value.rec.{1} (fun _=>Value→Option (List Value)) (fun _=>PUnit) (fun _=>PUnit) (fun _=>cl1) (fun _ _=>cl1) (fun _ _=>cl1) (fun _ _ _=>cl1) (fun _=>cl1) (fun _=>cl1) (fun _ _ _=>cl1) (fun _=>cl1) (fun _=>cl1) (fun _ _ _ _ _=>cl1) (cl1) (fun _ _ _=>cl1) (cl1) clA (fun _ _=>cl0) (fun _ _=>PUnit.unit) PUnit.unit (fun _ _ _ _=>PUnit.unit) v v
theorem cellsX_eq (v:Value):cellsX v=(match v.cells.all Value.oneCell' with|true=>some v.cells.toList|false=>none):=by
 cases v with
 | agg cs =>
  show clA cs PUnit.unit (.agg cs)=_
  have e:(Value.agg cs).cells=cs:=rfl
  rw [e, ← Array.all_toList, ← lallX_eq]
  unfold clA
  cases lallX cs.toList<;>rfl
 | tuple vs =>
  have:(Value.tuple vs).cells.all Value.oneCell'=false:=by simp [Value.cells,Value.oneCell']
  rw [this];rfl
 | _=>simp [Value.cells,Value.oneCell'];rfl
def ldC (n:Nat) (agg:Bool) (off:Nat) (b:Blk):Option Value :=
 @Bool.rec (fun _=>Option Value) (nthX Value b.cells off) (@Bool.rec (fun _=>Option Value) none (some (.agg ⟨tkX Value (dpX Value b.cells off) n⟩)) (Nat.ble (Nat.add off n) (lenX Value b.cells))) agg
def ldB (H:TrB) (n:Nat) (agg:Bool) (id off:Nat):Option Value:=@Option.rec Blk (fun _=>Option Value) none (ldC n agg off) (Tr.gx Blk H id)
def ldX (H:TrB) (n:Nat) (agg:Bool) (v:Value):Option Value:=vPtr (ldB H n agg) v
theorem ldX_eq (H:TrB) (n:Nat) (agg:Bool) (v:Value):ldX H n agg v=ldv (hpOf H) n agg v:=by
 unfold ldX
 rw [vPtr_eq]
 unfold ldv
 split
 ·rename_i id off
  simp only [ldB,Tr.gx_eq,hpOf]
  cases H.get id with
  | none=>rfl
  | some b =>
   show ldC n agg off b=_
   unfold ldC
   cases agg with
   | false=>exact nthX_eq _ _
   | true =>
    have e:Nat.add off n=off+n:=rfl
    simp only [e,lenX_eq,tkX_eq,dpX_eq]
    cases Nat.ble (off+n) b.cells.length<;>rfl
 ·rename_i hne
  split
  ·exact (hne _ _ rfl).elim
  ·rfl
def keq (k j:IntKind):Bool:=decide (k=j)
def bIf (k j:IntKind) (v:Value):Option Value:=@Bool.rec (fun _=>Option Value) none (some v) (keq k j)
def bAdd (j:IntKind) (b:Int) (k:IntKind) (a:Int):Option Value:=bIf k j (.int k (wrapX k (iaddX a b)))
def bSub (j:IntKind) (b:Int) (k:IntKind) (a:Int):Option Value:=bIf k j (.int k (wrapX k (isubX a b)))
def bMul (j:IntKind) (b:Int) (k:IntKind) (a:Int):Option Value:=bIf k j (.int k (wrapX k (Int.mul a b)))
def bEql (j:IntKind) (b:Int) (k:IntKind) (a:Int):Option Value:=bIf k j (.bool (ieqX a b))
def bNeq (j:IntKind) (b:Int) (k:IntKind) (a:Int):Option Value:=bIf k j (.bool (Bool.not (ieqX a b)))
def bLss (j:IntKind) (b:Int) (k:IntKind) (a:Int):Option Value:=bIf k j (.bool (Bool.not (ileX b a)))
def bLeq (j:IntKind) (b:Int) (k:IntKind) (a:Int):Option Value:=bIf k j (.bool (ileX a b))
def bGtr (j:IntKind) (b:Int) (k:IntKind) (a:Int):Option Value:=bIf k j (.bool (Bool.not (ileX a b)))
def bGeq (j:IntKind) (b:Int) (k:IntKind) (a:Int):Option Value:=bIf k j (.bool (ileX b a))
def bAny (op:BinOp) (j:IntKind) (b:Int) (k:IntKind) (a:Int):Option Value:=binR op (.int k a) (.int j b)
theorem bIf_eq {k j:IntKind} {v:Value}:bIf k j v=if k=j then some v else none:=by
 unfold bIf keq
 by_cases h:k=j
 ·rw [decide_eq_true h,if_pos h]
 ·rw [decide_eq_false h,if_neg h]
theorem not_le_dec (a b:Int):(!decide (b≤a))=decide (a<b):=by
 by_cases h:b≤a
 ·rw [decide_eq_true h,decide_eq_false (by omega)];rfl
 ·rw [decide_eq_false h,decide_eq_true (by omega)];rfl
def vIk (f:IntKind→Int→IntKind→Int→Option Value) (k:IntKind) (a:Int) (v:Value):Option Value:=@Value.rec.{1} (fun _=>IntKind→Int→Option Value) (fun _=>PUnit) (fun _=>PUnit) (fun _=>(fun _ _=>none)) f (fun _ _=>(fun _ _=>none)) (fun _ _ _=>(fun _ _=>none)) (fun _=>(fun _ _=>none)) (fun _=>(fun _ _=>none)) (fun _ _ _=>(fun _ _=>none)) (fun _=>(fun _ _=>none)) (fun _=>(fun _ _=>none)) (fun _ _ _ _ _=>(fun _ _=>none)) ((fun _ _=>none)) (fun _ _ _=>(fun _ _=>none)) ((fun _ _=>none)) (fun _ _=>(fun _ _=>none)) (fun _ _=>(fun _ _=>none)) (fun _ _=>PUnit.unit) PUnit.unit (fun _ _ _ _=>PUnit.unit) v k a
def sEql (s t:ByteArray):Option Value:=some (.bool (eqBX s.data.toList t.data.toList))
def sNeq (s t:ByteArray):Option Value:=some (.bool (Bool.not (eqBX s.data.toList t.data.toList)))
def bS1 (fs:ByteArray→ByteArray→Option Value) (s:ByteArray) (y:Value):Option Value:=vStr (fs s) y
def binF (fi:IntKind→Int→IntKind→Int→Option Value) (fs:ByteArray→ByteArray→Option Value) (x y:Value):Option Value:=@Value.rec.{1} (fun _=>Value→Option Value) (fun _=>PUnit) (fun _=>PUnit) (fun _=>(fun _=>none)) (vIk fi) (fun _ _=>(fun _=>none)) (fun _ _ _=>(fun _=>none)) (bS1 fs) (fun _=>(fun _=>none)) (fun _ _ _=>(fun _=>none)) (fun _=>(fun _=>none)) (fun _=>(fun _=>none)) (fun _ _ _ _ _=>(fun _=>none)) ((fun _=>none)) (fun _ _ _=>(fun _=>none)) ((fun _=>none)) (fun _ _=>(fun _=>none)) (fun _ _=>(fun _=>none)) (fun _ _=>PUnit.unit) PUnit.unit (fun _ _ _ _=>PUnit.unit) x y
structure BinW where
 f:Value→Value→Option Value
def binAny (op:BinOp):BinW:=⟨binF (bAny op) (strR op)⟩
def binW (op:BinOp):BinW :=
 @BinOp.rec (fun _=>BinW) ⟨binF bAdd (strR .add)⟩ ⟨binF bSub (strR .sub)⟩ ⟨binF bMul (strR .mul)⟩ (binAny .quo) (binAny .rem) (binAny .and) (binAny .or) (binAny .xor) (binAny .shl) (binAny .shr) (binAny .andNot) ⟨binF bEql sEql⟩ ⟨binF bNeq sNeq⟩ ⟨binF bLss (strR .lss)⟩ ⟨binF bLeq (strR .leq)⟩ ⟨binF bGtr (strR .gtr)⟩ ⟨binF bGeq (strR .geq)⟩ op
theorem binF_eq {op:BinOp} {fi:IntKind→Int→IntKind→Int→Option Value} {fs:ByteArray→ByteArray→Option Value} (hi:∀ j b k a,fi j b k a=binR op (.int k a) (.int j b)) (hs:∀ s t,fs s t=strR op s t) (x y:Value):binF fi fs x y=binR op x y:=by
 cases x with
 | int k a=>cases y with
  | int j b=>exact hi j b k a
  | _=>rfl
 | string s=>cases y with
  | string t=>exact hs s t
  | _=>rfl
 | _=>cases y<;>rfl
theorem binX_eq (op:BinOp) (x y:Value):(binW op).f x y=binR op x y:=by
 cases op with
 | add=>exact binF_eq (op:=.add) (fun j b k a=>by show bIf _ _ _=_;rw [bIf_eq,wrapX_eq,iaddX_eq];rfl) (fun _ _=>rfl) x y
 | sub=>exact binF_eq (op:=.sub) (fun j b k a=>by show bIf _ _ _=_;rw [bIf_eq,wrapX_eq,isubX_eq];rfl) (fun _ _=>rfl) x y
 | mul=>exact binF_eq (op:=.mul) (fun j b k a=>by show bIf _ _ _=_;rw [bIf_eq,wrapX_eq];rfl) (fun _ _=>rfl) x y
 | eql=>exact binF_eq (op:=.eql) (fun j b k a=>by show bIf _ _ _=_;rw [bIf_eq,ieqX_eq];rfl) (fun s t=>by show some _=_;rw [eqBX_eq];rfl) x y
 | neq=>exact binF_eq (op:=.neq) (fun j b k a=>by show bIf _ _ _=_;rw [bIf_eq,ieqX_eq];rfl) (fun s t=>by show some _=_;rw [eqBX_eq];rfl) x y
 | lss=>exact binF_eq (op:=.lss) (fun j b k a=>by show bIf _ _ _=_;rw [bIf_eq,ileX_eq,not_le_dec];rfl) (fun _ _=>rfl) x y
 | leq=>exact binF_eq (op:=.leq) (fun j b k a=>by show bIf _ _ _=_;rw [bIf_eq,ileX_eq];rfl) (fun _ _=>rfl) x y
 | gtr=>exact binF_eq (op:=.gtr) (fun j b k a=>by show bIf _ _ _=_;rw [bIf_eq,ileX_eq,not_le_dec];rfl) (fun _ _=>rfl) x y
 | geq=>exact binF_eq (op:=.geq) (fun j b k a=>by show bIf _ _ _=_;rw [bIf_eq,ileX_eq];rfl) (fun _ _=>rfl) x y
 | quo=>exact binF_eq (op:=.quo) (fun _ _ _ _=>rfl) (fun _ _=>rfl) x y
 | rem=>exact binF_eq (op:=.rem) (fun _ _ _ _=>rfl) (fun _ _=>rfl) x y
 | and=>exact binF_eq (op:=.and) (fun _ _ _ _=>rfl) (fun _ _=>rfl) x y
 | or=>exact binF_eq (op:=.or) (fun _ _ _ _=>rfl) (fun _ _=>rfl) x y
 | xor=>exact binF_eq (op:=.xor) (fun _ _ _ _=>rfl) (fun _ _=>rfl) x y
 | shl=>exact binF_eq (op:=.shl) (fun _ _ _ _=>rfl) (fun _ _=>rfl) x y
 | shr=>exact binF_eq (op:=.shr) (fun _ _ _ _=>rfl) (fun _ _=>rfl) x y
 | andNot=>exact binF_eq (op:=.andNot) (fun _ _ _ _=>rfl) (fun _ _=>rfl) x y
abbrev FX:=Fr→TrB→Option Value
def xMv (x:Opd) (fr:Fr) (H:TrB):Option Value:=some ((opdW x).f fr)
def pkB (fr:Fr) (a b:Opd) (t:Bool):Option Value:=@Bool.rec (fun _=>Option Value) (some ((opdW b).f fr)) (some ((opdW a).f fr)) t
def xPick (c a b:Opd) (fr:Fr) (H:TrB):Option Value:=vBool (pkB fr a b) ((opdW c).f fr)
def xLd (n:Nat) (agg:Bool) (x:Opd) (fr:Fr) (H:TrB):Option Value:=ldX H n agg ((opdW x).f fr)
def fdC (off id o:Nat):Option Value:=some (.pointer (some ⟨id,Nat.add o off,none⟩))
def xFad (off:Nat) (x:Opd) (fr:Fr) (H:TrB):Option Value:=vPtr (fdC off) ((opdW x).f fr)
def iadE (sz id o n m:Nat):Option Value:=@Bool.rec (fun _=>Option Value) none (some (.pointer (some ⟨id,Nat.add o (Nat.mul m sz),none⟩))) (Nat.ble (Nat.succ m) n)
def iadD (sz id o n:Nat) (_:IntKind) (j:Int):Option Value:=@Int.rec (fun _=>Option Value) (iadE sz id o n) (fun _=>none) j
def iadC (sz:Nat) (y:Value) (id o n c:Nat):Option Value:=vInt (iadD sz id o n) y
def xIad (sz:Nat) (x i:Opd) (fr:Fr) (H:TrB):Option Value:=vSl (iadC sz ((opdW i).f fr)) ((opdW x).f fr)
def xIadaC (len sz:Nat) (y:Value) (id o:Nat):Option Value:=vInt (iadD sz id o len) y
def xIada (len sz:Nat) (x i:Opd) (fr:Fr) (H:TrB):Option Value:=vPtr (xIadaC len sz ((opdW i).f fr)) ((opdW x).f fr)
def ixF (b:UInt8):Option Value:=some (.int .u8 b.toNat)
def ixE (s:ByteArray) (m:Nat):Option Value:=@Option.rec UInt8 (fun _=>Option Value) none ixF (nthX UInt8 s.data.toList m)
def ixD (s:ByteArray) (_:IntKind) (j:Int):Option Value:=@Int.rec (fun _=>Option Value) (ixE s) (fun _=>none) j
def ixC (y:Value) (s:ByteArray):Option Value:=vInt (ixD s) y
def xIdx (x i:Opd) (fr:Fr) (H:TrB):Option Value:=vStr (ixC ((opdW i).f fr)) ((opdW x).f fr)
def xBin (op:BinOp) (x y:Opd) (fr:Fr) (H:TrB):Option Value:=(binW op).f ((opdW x).f fr) ((opdW y).f fr)
def xUn (op:UnOp) (x:Opd) (fr:Fr) (H:TrB):Option Value:=unR op ((opdW x).f fr)
def cvC (k:IntKind) (_:IntKind) (n:Int):Option Value:=some (.int k (wrapX k n))
def xCvi (k:IntKind) (x:Opd) (fr:Fr) (H:TrB):Option Value:=vInt (cvC k) ((opdW x).f fr)
def lnC (_:Option Addr) (n _:Nat):Option Value:=some (.int .i64 (.ofNat n))
def vLen (v:Value):Option Value:=@Value.rec.{1} (fun _=>Option Value) (fun _=>PUnit) (fun _=>PUnit) (fun _=>none) (fun _ _=>none) (fun _ _=>none) (fun _ _ _=>none) (fun _=>none) (fun _=>none) lnC (fun _=>none) (fun _=>none) (fun _ _ _ _ _=>none) (none) (fun _ _ _=>none) (none) (fun _ _=>none) (fun _ _=>none) (fun _ _=>PUnit.unit) PUnit.unit (fun _ _ _ _=>PUnit.unit) v
def xLen (x:Opd) (fr:Fr) (H:TrB):Option Value:=vLen ((opdW x).f fr)
def lsC (s:ByteArray):Option Value:=some (.int .i64 (.ofNat s.data.toList.length))
def xLens (x:Opd) (fr:Fr) (H:TrB):Option Value:=vStr lsC ((opdW x).f fr)
def nkP (id o:Nat):Option Value:=some (.pointer (some ⟨id,o,none⟩))
def nkF (f:Fn) (a c:Array Value) (_ _:PUnit.{1}):Option Value:=match f with | .func f=>some (.func (.func f) a c)|_=>none
def vNck (v:Value):Option Value:=@Value.rec.{1} (fun _=>Option Value) (fun _=>PUnit) (fun _=>PUnit) (fun _=>none) (fun _ _=>none) (fun _ _=>none) (fun _ _ _=>none) (fun _=>none) (adO nkP) (fun _ _ _=>none) (fun _=>none) (fun _=>none) nkF (none) (fun _ _ _=>none) (none) (fun _ _=>none) (fun _ _=>none) (fun _ _=>PUnit.unit) PUnit.unit (fun _ _ _ _=>PUnit.unit) v
def xNck (x:Opd) (fr:Fr) (H:TrB):Option Value:=vNck ((opdW x).f fr)
def xAny (f:FOp) (fr:Fr) (H:TrB):Option Value:=fev (hpOf H) (Opd.ev (tmX fr)) f
def fldC (off n:Nat) (agg:Bool) (cs:Array Value) (_:PUnit.{1}):Option Value :=
 @Bool.rec (fun _=>Option Value) (nthX Value cs.toList off) (@Bool.rec (fun _=>Option Value) none (some (.agg ⟨tkX Value (dpX Value cs.toList off) n⟩)) (Nat.ble (Nat.add off n) (lenX Value cs.toList))) agg
def vAgg (f:Array Value→PUnit.{1}→Option Value) (v:Value):Option Value:=@Value.rec.{1} (fun _=>Option Value) (fun _=>PUnit) (fun _=>PUnit) (fun _=>none) (fun _ _=>none) (fun _ _=>none) (fun _ _ _=>none) (fun _=>none) (fun _=>none) (fun _ _ _=>none) (fun _=>none) (fun _=>none) (fun _ _ _ _ _=>none) (none) (fun _ _ _=>none) (none) f (fun _ _=>none) (fun _ _=>PUnit.unit) PUnit.unit (fun _ _ _ _=>PUnit.unit) v
def vTup (f:Array Value→PUnit.{1}→Option Value) (v:Value):Option Value:=@Value.rec.{1} (fun _=>Option Value) (fun _=>PUnit) (fun _=>PUnit) (fun _=>none) (fun _ _=>none) (fun _ _=>none) (fun _ _ _=>none) (fun _=>none) (fun _=>none) (fun _ _ _=>none) (fun _=>none) (fun _=>none) (fun _ _ _ _ _=>none) (none) (fun _ _ _=>none) (none) (fun _ _=>none) f (fun _ _=>PUnit.unit) PUnit.unit (fun _ _ _ _=>PUnit.unit) v
def xFld (off n:Nat) (agg:Bool) (x:Opd) (fr:Fr) (H:TrB):Option Value:=vAgg (fldC off n agg) ((opdW x).f fr)
def extC (i:Nat) (vs:Array Value) (_:PUnit.{1}):Option Value:=nthX Value vs.toList i
def xExt (x:Opd) (i:Nat) (fr:Fr) (H:TrB):Option Value:=vTup (extC i) ((opdW x).f fr)
def bdC (l:List Value):Option Value:=some (.agg ⟨l⟩)
def xBld (z:Array Value) (pl:List (Nat × Nat)) (ps:List (Nat × Opd)) (fr:Fr) (H:TrB):Option Value:=@Option.rec (List Value) (fun _=>Option Value) none bdC (flX (paX fr ps) z.toList (nthX (Nat × Nat) pl))
structure FW where
 f:FX
def fevW (f:FOp):FW:=@FOp.rec (fun _=>FW) (fun x=>⟨xMv x⟩) (fun c a b=>⟨xPick c a b⟩) (fun n g x=>⟨xLd n g x⟩) (fun o x=>⟨xFad o x⟩) (fun z x i=>⟨xIad z x i⟩) (fun l z x i=>⟨xIada l z x i⟩) (fun x i=>⟨xIdx x i⟩)
 (fun o n g x=>⟨xFld o n g x⟩) (fun x i=>⟨xExt x i⟩) (fun x=>⟨xNck x⟩) (fun o x y=>⟨xBin o x y⟩) (fun n x y=>⟨xAny (.eqb n x y)⟩) (fun n k x y=>⟨xAny (.eqn n k x y)⟩) (fun n k x y=>⟨xAny (.eqa n k x y)⟩)
 (fun o x=>⟨xUn o x⟩) (fun k x=>⟨xCvi k x⟩) (fun x=>⟨xAny (.cvs x)⟩) (fun x=>⟨xAny (.cvbs x)⟩) (fun s x l h=>⟨xAny (.slc s x l h)⟩) (fun x l h=>⟨xAny (.sls x l h)⟩) (fun f a c=>⟨xAny (.mkf f a c)⟩) (fun z p q=>⟨xBld z p q⟩) (fun x=>⟨xLen x⟩) (fun x=>⟨xLens x⟩) (fun x y=>⟨xAny (.mn x y)⟩) (fun x y=>⟨xAny (.mx x y)⟩) f
def fevX (f:FOp):FX:=(fevW f).f
theorem fevX_eq (f:FOp) (fr:Fr) (H:TrB):fevX f fr H=fev (hpOf H) (Opd.ev (tmX fr)) f:=by
 cases f with
 | mv x=>show some ((opdW x).f fr)=_;rw [rdO_eq];rfl
 | pick c a b =>
  show vBool _ _=_
  rw [vBool_eq,rdO_eq]
  simp only [fev]
  cases c.ev (tmX fr) with
  | bool t=>cases t<;>(simp only [pkB,rdO_eq])
  | _=>rfl
 | ld n agg x=>show ldX _ _ _ _=_;rw [ldX_eq,rdO_eq];rfl
 | fad off x =>
  show vPtr _ _=_
  rw [vPtr_eq,rdO_eq]
  simp only [fev]
  split<;>rename_i h<;>simp only [h]<;>rfl
 | iad sz x i =>
  show vSl _ _=_
  rw [vSl_eq,rdO_eq,rdO_eq]
  simp only [fev]
  split
  ·rename_i id o n c hx
   simp only [hx,iadC,vInt_eq]
   split
   ·rename_i k j hy
    simp only [hy,iadD]
    cases j with
    | ofNat m =>
     show iadE sz id o n m=_
     unfold iadE
     cases h:Nat.ble (Nat.succ m) n with
     | true=>have:=Nat.le_of_ble_eq_true h;rw [if_pos (by simp only [Int.ofNat_eq_natCast];omega)];rfl
     | false=>have:=bleF h;rw [if_neg (by simp only [Int.ofNat_eq_natCast];omega)]
    | negSucc m=>rw [if_neg (by omega)]
   ·rename_i hne
    split
    ·rename_i k j hy;exact absurd hy (hne _ _)
    ·rfl
  ·rename_i hne
   split
   ·rename_i hx hy;exact absurd hx (hne _ _ _ _)
   ·rfl
 | iada len sz x i =>
  show vPtr _ _=_
  rw [vPtr_eq,rdO_eq,rdO_eq]
  simp only [fev]
  split
  ·rename_i id o hx
   simp only [hx,xIadaC,vInt_eq]
   split
   ·rename_i k j hy
    simp only [hy,iadD]
    cases j with
    | ofNat m =>
     show iadE sz id o len m=_
     unfold iadE
     cases h:Nat.ble (Nat.succ m) len with
     | true=>have:=Nat.le_of_ble_eq_true h;rw [if_pos (by simp only [Int.ofNat_eq_natCast];omega)];rfl
     | false=>have:=bleF h;rw [if_neg (by simp only [Int.ofNat_eq_natCast];omega)]
    | negSucc m=>rw [if_neg (by omega)]
   ·rename_i hne
    split
    ·rename_i k j hy;exact absurd hy (hne _ _)
    ·rfl
  ·rename_i hne
   split
   ·rename_i hx hy;exact absurd hx (hne _ _)
   ·rfl
 | idx x i =>
  show vStr _ _=_
  rw [vStr_eq,rdO_eq,rdO_eq]
  simp only [fev]
  split
  ·rename_i s hx
   simp only [hx,ixC,vInt_eq]
   split
   ·rename_i k j hy
    simp only [hy,ixD]
    cases j with
    | ofNat m =>
     rw [if_pos (by simp)]
     show ixE s m=_
     unfold ixE
     rw [nthX_eq]
     show _=match s.data.toList[m]? with|some b=>some (Value.int .u8 b.toNat)|none=>none
     cases s.data.toList[m]? <;> rfl
    | negSucc m=>rw [if_neg (by omega)]
   ·rename_i hne
    split
    ·rename_i k j hy;exact absurd hy (hne _ _)
    ·rfl
  ·rename_i hne
   split
   ·rename_i hx hy;exact absurd hx (hne _)
   ·rfl
 | fld off n agg x =>
  show vAgg _ _=_
  rw [rdO_eq]
  simp only [fev]
  cases x.ev (tmX fr) with
  | agg cs =>
   show fldC off n agg cs PUnit.unit=_
   unfold fldC
   cases agg with
   | false=>show nthX Value cs.toList off=cs[off]?;rw [nthX_eq];simp
   | true =>
    have e:Nat.add off n=off+n:=rfl
    simp only [e,lenX_eq,tkX_eq,dpX_eq,Array.length_toList]
    cases Nat.ble (off+n) cs.size<;>rfl
  | _=>rfl
 | ext x i =>
  show vTup _ _=_
  rw [rdO_eq]
  simp only [fev]
  cases x.ev (tmX fr) with
  | tuple vs=>show nthX Value vs.toList i=vs[i]?;rw [nthX_eq];simp
  | _=>rfl
 | bld z pl ps =>
  show @Option.rec (List Value) (fun _=>Option Value) none bdC (flX (paX fr ps) z.toList (nthX (Nat × Nat) pl))=_
  have ep:nthX (Nat × Nat) pl=fun i=>pl[i]? := funext fun i=>nthX_eq pl i
  rw [flX_eq,paX_eq,ep]
  simp only [fev]
  cases Instr.fill (fun i=>pl[i]?) z (ps.map fun p=>(p.1,p.2.ev (tmX fr)))<;>rfl
 | nck x =>
  show vNck _=_
  rw [rdO_eq]
  simp only [fev]
  cases x.ev (tmX fr) with
  | pointer a=>cases a with
   | none=>rfl
   | some a=>obtain ⟨b,o,s⟩:=a;cases s<;>rfl
  | func f a c=>cases f<;>rfl
  | _=>rfl
 | bin op x y=>show (binW op).f _ _=_;rw [binX_eq,rdO_eq,rdO_eq];rfl
 | un op x=>show unR _ _=_;rw [rdO_eq];rfl
 | cvi k x =>
  show vInt _ _=_
  rw [vInt_eq,rdO_eq]
  simp only [fev,cvC,wrapX_eq]
  cases x.ev (tmX fr)<;>rfl
 | len x =>
  show vLen _=_
  rw [rdO_eq]
  simp only [fev]
  cases x.ev (tmX fr)<;>rfl
 | lens x =>
  show vStr _ _=_
  rw [vStr_eq,rdO_eq]
  rfl
 | _=>rfl
def bxC (l:List Value):Option (Option Nat × Blk):=some (none,⟨0,true,l⟩)
def xBox (x:Opd) (fr:Fr):Option (Option Nat × Blk):=@Option.rec (List Value) (fun _=>Option (Option Nat × Blk)) none bxC (cellsX ((opdW x).f fr))
def bslC (sz n:Nat) (l:List Value):Option (Option Nat × Blk):=@Bool.rec (fun _=>Option (Option Nat × Blk)) none (some (some n,⟨sz,true,l⟩)) (lallX l)
def bslP (sz i:Nat):Option (Nat × Nat):=some (i * sz,sz)
def xBsl (sz n:Nat) (z:Array Value) (ps:List (Nat × Opd)) (fr:Fr):Option (Option Nat × Blk):=@Option.rec (List Value) (fun _=>Option (Option Nat × Blk)) none (bslC sz n) (flX (paX fr ps) (madeCells z (n * sz)).toList (bslP sz))
def aAny (f:AOp) (fr:Fr):Option (Option Nat × Blk):=aev (Opd.ev (tmX fr)) f
structure AW where
 f:Fr→Option (Option Nat × Blk)
def aevW (f:AOp):AW:=@AOp.rec (fun _=>AW) (fun x=>⟨xBox x⟩) (fun s n z p=>⟨xBsl s n z p⟩) (fun s b z l c=>⟨aAny (.msl s b z l c)⟩) f
def aevX (f:AOp):Fr→Option (Option Nat × Blk):=(aevW f).f
theorem aevX_eq (f:AOp) (fr:Fr):aevX f fr=aev (Opd.ev (tmX fr)) f:=by
 cases f with
 | box x =>
  show @Option.rec (List Value) (fun _=>Option (Option Nat × Blk)) none bxC (cellsX ((opdW x).f fr))=_
  rw [cellsX_eq,rdO_eq]
  simp only [aev]
  cases (x.ev (tmX fr)).cells.all Value.oneCell'<;>rfl
 | bsl sz n z ps =>
  show @Option.rec (List Value) (fun _=>Option (Option Nat × Blk)) none (bslC sz n) (flX (paX fr ps) (madeCells z (n * sz)).toList (bslP sz))=_
  rw [flX_eq,paX_eq]
  simp only [aev]
  show @Option.rec (List Value) (fun _=>Option (Option Nat × Blk)) none (bslC sz n) ((Instr.fill (fun i=>some (i * sz,sz)) (madeCells z (n * sz)) (ps.map fun p=>(p.1,p.2.ev (tmX fr)))).map Array.toList)=_
  cases Instr.fill (fun i=>some (i * sz,sz)) (madeCells z (n * sz)) (ps.map fun p=>(p.1,p.2.ev (tmX fr))) with
  | none=>rfl
  | some cs =>
   show bslC sz n cs.toList=_
   unfold bslC
   rw [lallX_eq,Array.all_toList]
   show _=(match cs.all Value.oneCell' with|true=>some (some n,(⟨sz,true,cs.toList⟩:Blk))|false=>none)
   cases cs.all Value.oneCell'<;>rfl
 | _=>rfl
def stE (H:TrB) (c id off:Nat) (v:Value) (b:Blk) (_:Value):Res :=
 @Bool.rec (fun _=>Res) none (some (undef,Tr.sx Blk H id (some ⟨b.unit,true,lstX Value b.cells off v⟩),c)) b.own
def stD (H:TrB) (c:Nat) (v:Value) (id off:Nat) (b:Blk):Res:=@Option.rec Value (fun _=>Res) none (stE H c id off v b) (nthX Value b.cells off)
def stC (H:TrB) (c:Nat) (v:Value) (id off:Nat):Res:=@Option.rec Blk (fun _=>Res) none (stD H c v id off) (Tr.gx Blk H id)
def stC1 (f:Nat→Nat→Res) (b o:Nat) (s:Option Nat):Res:=@Option.rec Nat (fun _=>Res) (f b o) (fun _=>none) s
def stC2 (f:Nat→Nat→Res) (a:Option Addr):Res:=@Option.rec Addr (fun _=>Res) none (@Addr.rec (fun _=>Res) (stC1 f)) a
def vPtrR (f:Nat→Nat→Res) (v:Value):Res:=@Value.rec.{1} (fun _=>Res) (fun _=>PUnit) (fun _=>PUnit) (fun _=>none) (fun _ _=>none) (fun _ _=>none) (fun _ _ _=>none) (fun _=>none) (stC2 f) (fun _ _ _=>none) (fun _=>none) (fun _=>none) (fun _ _ _ _ _=>none) (none) (fun _ _ _=>none) (none) (fun _ _=>none) (fun _ _=>none) (fun _ _=>PUnit.unit) PUnit.unit (fun _ _ _ _=>PUnit.unit) v
def st1 (H:TrB) (c:Nat) (x v:Opd) (fr:Fr):Res :=
 @Bool.rec (fun _=>Res) (gEff H c (Opd.ev (tmX fr)) (.st 1 x v)) (vPtrR (stC H c ((opdW v).f fr)) ((opdW x).f fr)) (oneX ((opdW v).f fr))
def stF (H:TrB) (c n:Nat) (l:List Value) (id off:Nat) (b:Blk):Res :=
 @Bool.rec (fun _=>Res) none (@Bool.rec (fun _=>Res) none (some (undef,Tr.sx Blk H id (some ⟨b.unit,true,spX b.cells off l⟩),c)) (Nat.ble (Nat.add off n) (lenX Value b.cells))) b.own
def stG (H:TrB) (c n:Nat) (l:List Value) (id off:Nat):Res:=@Option.rec Blk (fun _=>Res) none (stF H c n l id off) (Tr.gx Blk H id)
def stH (H:TrB) (c n:Nat) (x:Value) (l:List Value):Res:=@Bool.rec (fun _=>Res) none (vPtrR (stG H c n l) x) (Nat.beq (lenX Value l) n)
def stN (n:Nat) (x v:Opd) (fr:Fr) (H:TrB) (c:Nat):Res:=@Option.rec (List Value) (fun _=>Res) none (stH H c n ((opdW x).f fr)) (cellsX ((opdW v).f fr))
def xSt (n:Nat) (x v:Opd) (fr:Fr) (H:TrB) (c:Nat):Res:=@Bool.rec (fun _=>Res) (stN n x v fr H c) (st1 H c x v fr) (Nat.beq n 1)
def eAny (f:EOp) (fr:Fr) (H:TrB) (c:Nat):Res:=gEff H c (Opd.ev (tmX fr)) f
structure EW where
 f:Fr→TrB→Nat→Res
def eevW (f:EOp):EW:=@EOp.rec (fun _=>EW) (fun n x v=>⟨xSt n x v⟩) (fun s b x y=>⟨eAny (.app s b x y)⟩) (fun x y=>⟨eAny (.apps x y)⟩) f
def eevX (f:EOp):Fr→TrB→Nat→Res:=(eevW f).f
theorem vPtrR_eq (f:Nat→Nat→Res) (v:Value):vPtrR f v=(match v with | .pointer (some ⟨id,off,none⟩)=>f id off|_=>none):=by
 cases v with
 | pointer a=>cases a with
  | none=>rfl
  | some a=>obtain ⟨b,o,s⟩:=a;cases s<;>rfl
 | _=>rfl
theorem stN_eq (n:Nat) (x v:Opd) (fr:Fr) (H:TrB) (c:Nat):stN n x v fr H c=gEff H c (Opd.ev (tmX fr)) (.st n x v):=by
 unfold stN
 rw [cellsX_eq,rdO_eq,rdO_eq]
 simp only [gEff]
 cases ha:(v.ev (tmX fr)).cells.all Value.oneCell' with
 | false =>
  simp only []
  split
  ·split
   ·rw [if_neg (fun h=>by cases h.2.2.2)]
   ·rfl
  ·rfl
 | true =>
  show stH H c n _ (v.ev (tmX fr)).cells.toList=_
  unfold stH
  rw [lenX_eq,Array.length_toList]
  cases hn:Nat.beq (v.ev (tmX fr)).cells.size n with
  | false =>
   simp only []
   split
   ·split
    ·rw [if_neg (fun h=>by have:=h.2.1;rw [this,Nat.beq_refl] at hn;cases hn)]
    ·rfl
   ·rfl
  | true =>
   have hn':=Nat.eq_of_beq_eq_true hn
   show vPtrR _ _=_
   rw [vPtrR_eq]
   split
   ·rename_i id off hx
    simp only [hx,stG,Tr.gx_eq]
    cases H.get id with
    | none=>rfl
    | some b =>
     show stF H c n _ id off b=_
     unfold stF
     cases how:b.own with
     | false=>simp only [];rw [if_neg (fun h=>by have:=h.1;first|(rw [how] at this;cases this)|cases this)]
     | true =>
      have e1:Nat.add off n=off+n:=rfl
      rw [lenX_eq,e1]
      cases hb:Nat.ble (off+n) b.cells.length with
      | false=>have:=bleF hb;simp only [];rw [if_neg (fun h=>by have:=h.2.2.1;omega)]
      | true =>
       have hle:=Nat.le_of_ble_eq_true hb
       simp only []
       rw [if_pos ⟨by first|exact how|rfl,hn',hle,by first|rfl|trivial⟩,Tr.sx_eq,spX_eq,spl_eq _ _ _ (by rw [Array.length_toList,hn'];exact hle),Array.length_toList,hn']
   ·rename_i hne
    first|rfl|(split <;> first|rfl|(rename_i hx;exact (hne _ _ hx).elim))
theorem eevX_eq (f:EOp) (fr:Fr) (H:TrB) (c:Nat):eevX f fr H c=gEff H c (Opd.ev (tmX fr)) f:=by
 cases f with
 | st n x v =>
  show xSt n x v fr H c=_
  unfold xSt
  cases hn:Nat.beq n 1 with
  | false=>exact stN_eq n x v fr H c
  | true =>
   have:=Nat.eq_of_beq_eq_true hn
   subst this
   show st1 H c x v fr=_
   unfold st1
   cases ho:oneX ((opdW v).f fr) with
   | false=>rfl
   | true =>
    show vPtrR _ _=_
    rw [vPtrR_eq,rdO_eq,rdO_eq]
    rw [rdO_eq] at ho
    have hc:(v.ev (tmX fr)).cells = #[v.ev (tmX fr)]:=by
     cases hv:v.ev (tmX fr)<;>first|rfl|(rw [hv] at ho;cases ho)
    have h1:(v.ev (tmX fr)).oneCell'=true:=by rw [← oneX_eq];exact ho
    simp only [gEff]
    split
    ·rename_i id off hx
     simp only [hx,stC,Tr.gx_eq]
     cases H.get id with
     | none=>rfl
     | some b =>
      show stD H c _ id off b=_
      unfold stD
      rw [nthX_eq]
      simp only [hc]
      cases hb:b.cells[off]? with
      | none =>
       have:=List.getElem?_eq_none_iff.1 hb
       show none=_
       rw [if_neg (fun h=>by have:=h.2.2.1;omega)]
      | some w0 =>
       have hlt:off<b.cells.length:=(List.getElem?_eq_some_iff.1 hb).1
       show stE H c id off _ b w0=_
       unfold stE
       cases how:b.own with
       | false=>rw [if_neg (fun h=>by cases h.1)]
       | true =>
        rw [if_pos ⟨rfl,rfl,by omega,by simp [h1]⟩,Tr.sx_eq,lstX_eq _ _ _ hlt]
    ·rename_i hne
     first|rfl|(split <;> first|rfl|(rename_i hx;exact (hne _ _ hx).elim))
 | _=>rfl
end Go.Eng
namespace Go.Eng
abbrev KV:=Value→TrB→Nat→Bool
abbrev KF:=Fr→TrB→Nat→Bool
abbrev CX:=Nat→List Value→TrB→Nat→KV→Bool
structure RL where
 f:Fr→List Value
def rdL0:RL:=⟨fun _=>[]⟩
def rdLC (x:RdW) (r:RL) (fr:Fr):List Value:=x.f fr :: r.f fr
def rdLW (l:List Opd):RL:=@List.rec Opd (fun _=>RL) rdL0 (fun x _ ih=>⟨rdLC (opdW x) ih⟩) l
theorem rdL_eq (fr:Fr):∀ l,(rdLW l).f fr=l.map (Opd.ev (tmX fr))
 | []=>rfl
 | x :: l=>by
  show (opdW x).f fr :: (rdLW l).f fr=_
  rw [rdL_eq fr l,rdO_eq,List.map_cons]
structure DW where
 f:KF→Fr→Value→TrB→Nat→Bool
def dsN (K:KF) (fr:Fr) (_:Value) (H:TrB) (c:Nat):Bool:=K fr H c
def ds0 (_:KF) (_:Fr) (_:Value) (_:TrB) (_:Nat):Bool:=false
def dsS (w:WrW) (K:KF) (fr:Fr) (v:Value) (H:TrB) (c:Nat):Bool:=K (w.f fr v) H c
def dsW (dst:Option Nat):DW:=@Option.rec Nat (fun _=>DW) ⟨dsN⟩ (fun d=>@Option.rec WrW (fun _=>DW) ⟨ds0⟩ (fun w=>⟨dsS w⟩) (accW d)) dst
structure OpW where
 f:(Fr→Value→TrB→Nat→Bool)→CX→Fr→TrB→Nat→Bool
def opPur (x:FW) (K:Fr→Value→TrB→Nat→Bool) (call:CX) (fr:Fr) (H:TrB) (c:Nat):Bool:=@Option.rec Value (fun _=>Bool) false (fun v=>K fr v H c) (x.f fr H)
def opMv (x:RdW) (K:Fr→Value→TrB→Nat→Bool) (call:CX) (fr:Fr) (H:TrB) (c:Nat):Bool:=K fr (x.f fr) H c
def opNewK (H:TrB) (c:Nat) (K:Value→TrB→Nat→Bool) (k:Option Nat) (b:Blk):Bool:=K (mkv c k) (Tr.sx Blk H c (some b)) (Nat.succ c)
def opNew (x:AW) (K:Fr→Value→TrB→Nat→Bool) (call:CX) (fr:Fr) (H:TrB) (c:Nat):Bool:=@Option.rec (Option Nat × Blk) (fun _=>Bool) false (@Prod.rec (Option Nat) Blk (fun _=>Bool) (opNewK H c (K fr))) (x.f fr)
def opEffK (K:Value→TrB→Nat→Bool) (v:Value) (p:TrB × Nat):Bool:=@Prod.rec TrB Nat (fun _=>Bool) (K v) p
def opEff (x:EW) (K:Fr→Value→TrB→Nat→Bool) (call:CX) (fr:Fr) (H:TrB) (c:Nat):Bool:=@Option.rec (Value × TrB × Nat) (fun _=>Bool) false (@Prod.rec Value (TrB × Nat) (fun _=>Bool) (opEffK (K fr))) (x.f fr H c)
def opCall (f:Nat) (l:RL) (K:Fr→Value→TrB→Nat→Bool) (call:CX) (fr:Fr) (H:TrB) (c:Nat):Bool:=call f (l.f fr) H c (K fr)
def opCallv (x:RdW) (l:RL) (K:Fr→Value→TrB→Nat→Bool) (call:CX) (fr:Fr) (H:TrB) (c:Nat):Bool :=
 match x.f fr with
 | .func (.func f) a k=>call f (a.toList++l.f fr++k.toList) H c (K fr)
 | _=>false
def opFW (f:FOp):OpW:=@FOp.rec (fun _=>OpW) (fun x=>⟨opMv (opdW x)⟩) (fun c a b=>⟨opPur (fevW (.pick c a b))⟩) (fun n g x=>⟨opPur (fevW (.ld n g x))⟩) (fun o x=>⟨opPur (fevW (.fad o x))⟩) (fun z x i=>⟨opPur (fevW (.iad z x i))⟩) (fun l z x i=>⟨opPur (fevW (.iada l z x i))⟩) (fun x i=>⟨opPur (fevW (.idx x i))⟩) (fun o n g x=>⟨opPur (fevW (.fld o n g x))⟩) (fun x i=>⟨opPur (fevW (.ext x i))⟩) (fun x=>⟨opPur (fevW (.nck x))⟩) (fun o x y=>⟨opPur (fevW (.bin o x y))⟩) (fun n x y=>⟨opPur (fevW (.eqb n x y))⟩) (fun n k x y=>⟨opPur (fevW (.eqn n k x y))⟩) (fun n k x y=>⟨opPur (fevW (.eqa n k x y))⟩) (fun o x=>⟨opPur (fevW (.un o x))⟩) (fun k x=>⟨opPur (fevW (.cvi k x))⟩) (fun x=>⟨opPur (fevW (.cvs x))⟩) (fun x=>⟨opPur (fevW (.cvbs x))⟩) (fun s x l h=>⟨opPur (fevW (.slc s x l h))⟩) (fun x l h=>⟨opPur (fevW (.sls x l h))⟩) (fun f a c=>⟨opPur (fevW (.mkf f a c))⟩) (fun z p q=>⟨opPur (fevW (.bld z p q))⟩) (fun x=>⟨opPur (fevW (.len x))⟩) (fun x=>⟨opPur (fevW (.lens x))⟩) (fun x y=>⟨opPur (fevW (.mn x y))⟩) (fun x y=>⟨opPur (fevW (.mx x y))⟩) f
def oneW (op:IOp):OpW:=@IOp.rec (fun _=>OpW) opFW (fun f=>⟨opNew (aevW f)⟩) (fun f=>⟨opEff (eevW f)⟩) (fun f l=>⟨opCall f (rdLW l)⟩) (fun x l=>⟨opCallv (opdW x) (rdLW l)⟩) op
structure RW where
 f:CX→KF→KF
def wIfT (v:Value) (t e:Bool):Bool:=@Value.rec.{1} (fun _=>Bool) (fun _=>PUnit) (fun _=>PUnit) (@Bool.rec (fun _=>Bool) e t) (fun _ _=>e) (fun _ _=>e) (fun _ _ _=>e) (fun _=>e) (fun _=>e) (fun _ _ _=>e) (fun _=>e) (fun _=>e) (fun _ _ _ _ _=>e) (e) (fun _ _ _=>e) (e) (fun _ _=>e) (fun _ _=>e) (fun _ _=>PUnit.unit) PUnit.unit (fun _ _ _ _=>PUnit.unit) v
def wIfF (v:Value) (t e:Bool):Bool:=@Value.rec.{1} (fun _=>Bool) (fun _=>PUnit) (fun _=>PUnit) (@Bool.rec (fun _=>Bool) t e) (fun _ _=>e) (fun _ _=>e) (fun _ _ _=>e) (fun _=>e) (fun _=>e) (fun _ _ _=>e) (fun _=>e) (fun _=>e) (fun _ _ _ _ _=>e) (e) (fun _ _ _=>e) (e) (fun _ _=>e) (fun _ _=>e) (fun _ _=>PUnit.unit) PUnit.unit (fun _ _ _ _=>PUnit.unit) v
def rgN (d:DW) (o:OpW) (ih:RW) (call:CX) (K:KF):KF:=o.f (d.f (ih.f call K)) call
def rgT (d:DW) (o:OpW) (r:RdW) (ih:RW) (call:CX) (K:KF) (fr:Fr) (H:TrB) (c:Nat):Bool :=
 wIfT (r.f fr) (o.f (d.f (ih.f call K)) call fr H c) (d.f (ih.f call K) fr undef H c)
def rgF (d:DW) (o:OpW) (r:RdW) (ih:RW) (call:CX) (K:KF) (fr:Fr) (H:TrB) (c:Nat):Bool :=
 wIfF (r.f fr) (o.f (d.f (ih.f call K)) call fr H c) (d.f (ih.f call K) fr undef H c)
def rgG (d:DW) (o:OpW) (ih:RW) (t:Nat) (b:Bool):RW:=@Bool.rec (fun _=>RW) ⟨rgF d o (accR t) ih⟩ ⟨rgT d o (accR t) ih⟩ b
def rgOp (ih:RW) (dst:Option Nat) (op:IOp) (guard:Option (Nat × Bool)):RW :=
 @Option.rec (Nat × Bool) (fun _=>RW) ⟨rgN (dsW dst) (oneW op) ih⟩ (@Prod.rec Nat Bool (fun _=>RW) (rgG (dsW dst) (oneW op) ih)) guard
def rgNil (call:CX) (K:KF) (fr:Fr) (H:TrB) (c:Nat):Bool:=K fr H c
def regW (ops:List IOper):RW:=@List.rec IOper (fun _=>RW) ⟨rgNil⟩ (fun o _ ih=>@IOper.rec (fun _=>RW) (rgOp ih) o) ops
def gdP (fr:Fr) (t:Nat) (b:Bool):Bool:=wantV ((accR t).f fr) b
def gdX (g:Option (Nat × Bool)) (fr:Fr):Bool:=@Option.rec (Nat × Bool) (fun _=>Bool) true (@Prod.rec Nat Bool (fun _=>Bool) (gdP fr)) g
def frX (fr:Fr) (H:TrB) (id:Nat) (o:IOper):Option (Value × Option Blk) :=
 match gdX o.guard fr with
 | false=>some (undef,none)
 | true=>match o.op with
  | .pur f=>match fevX f fr H with
   | some v=>some (v,none)
   | none=>none
  | .new f=>match aevX f fr with
   | some (k,b)=>some (mkv id k,some b)
   | none=>none
  | _=>none
def hideX (H:TrB) (ks:List Nat):TrB:=ks.foldl (fun H k=>Tr.sx Blk H k none) H
def mergeX (H:TrB) (ks:List Nat) (H':TrB):TrB:=ks.foldl (fun H' k=>Tr.sx Blk H' k (Tr.gx Blk H k)) H'
def againX (io:List IOper) (c0:Nat) (fr:Fr) (H:TrB) (j:Nat):Bool :=
 match nthX IOper io j with
 | some o=>match frX fr H (c0+j) o with
  | some (v,ob)=>(match o.dst with
   | some d=>vEq2 ((accR d).f fr) v
   | none=>true) && bEq (Tr.gx Blk H (c0+j)) ob
  | none=>false
 | none=>false
def drwX (call:CX) (io:List IOper) (c0:Nat) (K:KF):List (Nat × Option (List Nat))→Fr→TrB→Nat→Bool
 | [],fr,H,c=>K fr H c
 | (i,none) :: r,fr,H,c=>match nthX IOper io i with
  | some o=>match frX fr H (c0+i) o with
   | some (v,some b)=>(dsW o.dst).f (drwX call io c0 K r) fr v (Tr.sx Blk H (c0+i) (some b)) c
   | some (v,none)=>(dsW o.dst).f (drwX call io c0 K r) fr v H c
   | none=>false
  | none=>false
 | (i,some pend) :: r,fr,H,c=>match nthX IOper io i with
  | some o =>
   let ks:=(pend.filter (isNew io)).map (c0 + ·)
   let K':Fr→Value→TrB→Nat→Bool:=fun fr v H' c'=>(dsW o.dst).f (fun fr' H1 c1=>match pend.all (againX io c0 fr' H1) with
    | true=>drwX call io c0 K r fr' H1 c1
    | false=>false) fr v (mergeX H ks H') c'
   match gdX o.guard fr with
   | true=>(oneW o.op).f K' call fr (hideX H ks) c
   | false=>K' fr undef (hideX H ks) c
  | none=>false
abbrev CodeX:=CX→KF→(Nat→KF)→KF→KF
structure CW where
 f:CodeX
def cSkip:CodeX:=fun _ kn _ _ fr H c=>kn fr H c
def cReg (r:RW):CodeX:=fun call kn _ _=>r.f call kn
def cDrwD (n:Nat) (ops:List IOper) (plan:List (Nat × Option (List Nat))):CodeX:=fun call kn _ _ fr H c=>drwX call ops c kn plan fr H (c+n)
def cDrw (n:Nat) (d:DReg):CW:=@DReg.rec (fun _=>CW) (fun ops _ plan=>⟨cDrwD n ops plan⟩) d
def cSeq (ix iy:CW):CodeX:=fun call kn ke kr=>ix.f call (iy.f call kn ke kr) ke kr
def vIf (v:Value) (t e:Bool):Bool:=@Value.rec.{1} (fun _=>Bool) (fun _=>PUnit) (fun _=>PUnit) (@Bool.rec (fun _=>Bool) e t) (fun _ _=>false) (fun _ _=>false) (fun _ _ _=>false) (fun _=>false) (fun _=>false) (fun _ _ _=>false) (fun _=>false) (fun _=>false) (fun _ _ _ _ _=>false) (false) (fun _ _ _=>false) (false) (fun _ _=>false) (fun _ _=>false) (fun _ _=>PUnit.unit) PUnit.unit (fun _ _ _ _=>PUnit.unit) v
def cCond (o:RdW) (ix iy:CW):CodeX:=fun call kn ke kr fr H c=>vIf (o.f fr) (ix.f call kn ke kr fr H c) (iy.f call kn ke kr fr H c)
def keB (id:Nat) (kn:KF) (ke:Nat→KF) (i:Nat):KF:=@Bool.rec (fun _=>KF) (ke i) kn (Nat.beq i id)
def cBlk (id:Nat) (ix:CW):CodeX:=fun call kn ke kr=>ix.f call kn (keB id kn ke) kr
def lp0 (_:CW) (_:CX) (_:Nat→KF) (_:KF) (_:Fr) (_:TrB) (_:Nat):Bool:=false
def lpS (_:Nat) (ih:CW→CX→(Nat→KF)→KF→KF) (ix:CW) (call:CX) (ke:Nat→KF) (kr:KF):KF:=ix.f call (ih ix call ke kr) ke kr
def lpX (k:Nat):CW→CX→(Nat→KF)→KF→KF:=@Nat.rec (fun _=>CW→CX→(Nat→KF)→KF→KF) lp0 lpS k
def cLoop (fuel:Nat) (ix:CW):CodeX:=fun call _ ke kr=>lpX fuel ix call ke kr
def cExit (id:Nat):CodeX:=fun _ _ ke _=>ke id
def cRet:CodeX:=fun _ _ _ kr=>kr
def codeW (fuel:Nat) (ic:IC):CW:=@IC.rec (fun _=>CW) ⟨cSkip⟩ (fun ops=>⟨cReg (regW ops)⟩) cDrw (fun _ _ ix iy=>⟨cSeq ix iy⟩) (fun o _ _ ix iy=>⟨cCond (opdW o) ix iy⟩) (fun id _ ix=>⟨cBlk id ix⟩) (fun _ ix=>⟨cLoop fuel ix⟩) (fun id=>⟨cExit id⟩) ⟨cRet⟩ ic
def arX (l:List Value):Nat→Fr→Fr:=@List.rec Value (fun _=>Nat→Fr→Fr) (fun _ fr=>fr) (fun v _ ih i fr=>@Option.rec WrW (fun _=>Fr) (ih (Nat.succ i) fr) (fun w=>ih (Nat.succ i) (w.f fr v)) (accW i)) l
def krX (res:List RV) (K:KV) (fr:Fr) (H:TrB) (c:Nat):Bool:=@Option.rec Value (fun _=>Bool) false (fun v=>K v H c) (resV ⟨tmX fr,hpOf H,c⟩ res)
def keF (_:Nat) (_:Fr) (_:TrB) (_:Nat):Bool:=false
def fnX (fuel:Nat) (call:CX) (args:List Value) (H:TrB) (c:Nat) (K:KV) (n:Nat) (body:IC) (res:List RV):Bool :=
 @Bool.rec (fun _=>Bool) false ((codeW fuel body).f call (krX res K) keF (krX res K) (arX args 0 fr0) H c) (Nat.ble args.length n && Nat.ble args.length 256)
def fn0 (_:Tr IFn) (_:Nat) (_:Nat) (_:List Value) (_:TrB) (_:Nat) (_:KV):Bool:=false
def fnS (_:Nat) (ih:Tr IFn→Nat→CX) (F:Tr IFn) (fuel:Nat) (f:Nat) (args:List Value) (H:TrB) (c:Nat) (K:KV):Bool :=
 @Option.rec IFn (fun _=>Bool) false (@IFn.rec (fun _=>Bool) (fnX fuel (ih F fuel) args H c K)) (Tr.gx IFn F f)
def fX (k:Nat):Tr IFn→Nat→CX:=@Nat.rec (fun _=>Tr IFn→Nat→CX) fn0 fnS k
section
variable {P:Program}
def OrX (P:Program) (call:CX):Prop :=
 ∀ f args H c K,call f args H c K=true→AC P f args (hpOf H) c fun v1 H1 c1 => ∃ H',H1=hpOf H'∧K v1 H' c1=true
def stX (fr:Fr) (H:TrB) (c:Nat):St:=⟨tmX fr,hpOf H,c⟩
theorem optT {α : Type} {o:Option α} {K : α → Bool} (h:@Option.rec α (fun _=>Bool) false K o=true):∃ v,o=some v∧K v=true:=by
 cases o with
 | none=>cases h
 | some v=>exact ⟨v,rfl,h⟩
theorem oneW_sound {call:CX} (ho:OrX P call) (op:IOp) {fr:Fr} {H:TrB} {c:Nat} {K:Fr→Value→TrB→Nat→Bool} {K':Value→Hp→Nat→Prop} (hK:∀ v H' c',K fr v H' c'=true→K' v (hpOf H') c') (h:(oneW op).f K call fr H c=true) :
  oneP P (stX fr H c) K' op:=by
 cases op with
 | pur f =>
  have gen:∀ f:FOp,opPur (fevW f) K call fr H c=true→oneP P (stX fr H c) K' (.pur f):=by
   intro f h
   obtain ⟨v,h1,h2⟩:=optT (show @Option.rec Value (fun _=>Bool) false (fun v=>K fr v H c) (fevX f fr H)=true from h)
   rw [fevX_eq] at h1
   simp only [oneP,stX,h1]
   exact hK _ _ _ h2
  cases f with
  | mv x =>
   have h1:K fr ((opdW x).f fr) H c=true:=h
   rw [rdO_eq] at h1
   simp only [oneP,stX,fev]
   exact hK _ _ _ h1
  | _=>exact gen _ h
 | new f =>
  obtain ⟨⟨k,b⟩,h1,h2⟩:=optT (show @Option.rec (Option Nat × Blk) (fun _=>Bool) false (@Prod.rec (Option Nat) Blk (fun _=>Bool) (opNewK H c (K fr))) (aevX f fr)=true from h)
  rw [aevX_eq] at h1
  have h2':K fr (mkv c k) (Tr.sx Blk H c (some b)) (Nat.succ c)=true:=h2
  rw [Tr.sx_eq] at h2'
  simp only [oneP,stX,h1]
  have:=hK _ _ _ h2'
  rw [hpOf_set] at this
  exact this
 | eff f =>
  obtain ⟨⟨v,H',c'⟩,h1,h2⟩:=optT (show @Option.rec (Value × TrB × Nat) (fun _=>Bool) false (@Prod.rec Value (TrB × Nat) (fun _=>Bool) (opEffK (K fr))) (eevX f fr H c)=true from h)
  rw [eevX_eq] at h1
  simp only [oneP,stX,gEff_sound h1]
  exact hK _ _ _ h2
 | call f args =>
  have h1:call f ((rdLW args).f fr) H c (K fr)=true:=h
  rw [rdL_eq] at h1
  exact (ho _ _ _ _ _ h1).mono fun v1 H1 c1 ⟨H',e,q⟩=>by subst e;exact hK _ _ _ q
 | callv x args =>
  have h1:opCallv (opdW x) (rdLW args) K call fr H c=true:=h
  unfold opCallv at h1
  simp only [oneP,stX]
  split at h1
  ·rename_i f a k he
   rw [rdO_eq] at he
   simp only [he]
   rw [rdL_eq] at h1
   exact (ho _ _ _ _ _ h1).mono fun v1 H1 c1 ⟨H',e,q⟩=>by subst e;exact hK _ _ _ q
  ·cases h1
theorem dsW_sound {dst:Option Nat} {K:KF} {fr:Fr} {v:Value} {H:TrB} {c:Nat} (h:(dsW dst).f K fr v H c=true):∃ fr',tmX fr'=updO (tmX fr) dst v∧K fr' H c=true:=by
 cases dst with
 | none=>exact ⟨fr,rfl,h⟩
 | some d =>
  have h1:(@Option.rec WrW (fun _=>DW) ⟨ds0⟩ (fun w=>⟨dsS w⟩) (accW d)).f K fr v H c=true:=h
  cases hw:accW d with
  | none=>rw [hw] at h1;cases h1
  | some w =>
   rw [hw] at h1
   exact ⟨w.f fr v,tmX_wr hw fr v,h1⟩
theorem gdX_eq (g:Option (Nat × Bool)) (fr:Fr):gdX g fr=wantG (tmX fr) g:=by
 cases g with
 | none=>rfl
 | some g=>rfl
theorem regW_cons (dst:Option Nat) (op:IOp) (guard:Option (Nat × Bool)) (os:List IOper) (call:CX) (K:KF) (fr:Fr) (H:TrB) (c:Nat) (h:(regW (⟨dst,op,guard⟩ :: os)).f call K fr H c=true) :
  (wantG (tmX fr) guard=true∧(oneW op).f ((dsW dst).f ((regW os).f call K)) call fr H c=true)∨(wantG (tmX fr) guard=false∧(dsW dst).f ((regW os).f call K) fr undef H c=true):=by
 cases guard with
 | none=>exact .inl ⟨rfl,h⟩
 | some p =>
  obtain ⟨t,b⟩:=p
  cases b with
  | true =>
   have h1:wIfT (tmX fr t) ((oneW op).f ((dsW dst).f ((regW os).f call K)) call fr H c) ((dsW dst).f ((regW os).f call K) fr undef H c)=true:=h
   simp only [wantG]
   cases hv:tmX fr t with
   | bool b =>
    rw [hv] at h1
    cases b with
    | true=>exact .inl ⟨rfl,h1⟩
    | false=>exact .inr ⟨rfl,h1⟩
   | _=>rw [hv] at h1;exact .inr ⟨rfl,h1⟩
  | false =>
   have h1:wIfF (tmX fr t) ((oneW op).f ((dsW dst).f ((regW os).f call K)) call fr H c) ((dsW dst).f ((regW os).f call K) fr undef H c)=true:=h
   simp only [wantG]
   cases hv:tmX fr t with
   | bool b =>
    rw [hv] at h1
    cases b with
    | true=>exact .inr ⟨rfl,h1⟩
    | false=>exact .inl ⟨rfl,h1⟩
   | _=>rw [hv] at h1;exact .inr ⟨rfl,h1⟩
theorem regX_sound {call:CX} (ho:OrX P call) {K:KF} {Q:St→Prop} (hQ:∀ fr H c,K fr H c=true→Q (stX fr H c)):∀ (ops:List IOper) (fr:Fr) (H:TrB) (c:Nat),(regW ops).f call K fr H c=true→rwp P Q ops (stX fr H c)
 | [],fr,H,c,h=>hQ fr H c h
 | ⟨dst,op,guard⟩ :: os,fr,H,c,h=>by
  simp only [rwp,stX]
  rcases regW_cons dst op guard os call K fr H c h with ⟨hw,h1⟩|⟨hw,h1⟩
  ·rw [hw]
   refine oneW_sound ho op (fun v H' c' hk=>?_) h1
   obtain ⟨fr',e,hk'⟩:=dsW_sound hk
   have:=regX_sound ho hQ os fr' H' c' hk'
   rw [stX,e] at this
   exact this
  ·rw [hw]
   obtain ⟨fr',e,hk'⟩:=dsW_sound h1
   have:=regX_sound ho hQ os fr' H c hk'
   rw [stX,e] at this
   exact this
theorem frX_eq (fr:Fr) (H:TrB) (c id:Nat) (o:IOper):frX fr H id o=freeV (stX fr H c) id o:=by
 unfold frX freeV
 rw [gdX_eq]
 simp only [stX,fevX_eq,aevX_eq]
 cases wantG (tmX fr) o.guard with
 | false=>rfl
 | true=>cases o.op with
  | pur f=>simp only [];cases fev (hpOf H) (Opd.ev (tmX fr)) f<;>rfl
  | new f=>simp only [];cases aev (Opd.ev (tmX fr)) f<;>rfl
  | _=>rfl
theorem hideX_eq:∀ (ks:List Nat) (H:TrB),hideX H ks=gHide H ks
 | [],H=>rfl
 | k :: r,H=>by
  show hideX (Tr.sx Blk H k none) r=_
  rw [hideX_eq r,Tr.sx_eq];rfl
theorem mergeX_eq (H:TrB):∀ (ks:List Nat) (H':TrB),mergeX H ks H'=gMerge H ks H'
 | [],H'=>rfl
 | k :: r,H'=>by
  show mergeX H r (Tr.sx Blk H' k (Tr.gx Blk H k))=_
  rw [mergeX_eq H r,Tr.sx_eq,Tr.gx_eq];rfl
theorem againX_sound {io:List IOper} {c0 c:Nat} {fr:Fr} {H:TrB} {j:Nat} (h:againX io c0 fr H j=true):Again io c0 (stX fr H c) j:=by
 unfold againX at h
 unfold Again
 rw [nthX_eq] at h
 split at h
 ·rename_i o ho
  simp only [ho]
  rw [frX_eq fr H c] at h
  split at h
  ·rename_i v ob hv
   simp only [hv]
   rw [Bool.and_eq_true] at h
   obtain ⟨h1,h2⟩:=h
   rw [Tr.gx_eq] at h2
   refine ⟨fun d hd=>?_,bEq_sound h2⟩
   rw [hd] at h1
   exact vEq2_sound _ _ h1
  ·cases h
 ·cases h
theorem drwX_sound {call:CX} (ho:OrX P call) {K:KF} {Q:St→Prop} (hQ:∀ fr H c,K fr H c=true→Q (stX fr H c)) {io:List IOper} {c0:Nat}:∀ (plan:List (Nat × Option (List Nat))) (fr:Fr) (H:TrB) (c:Nat),drwX call io c0 K plan fr H c=true→dwp P Q io c0 plan (stX fr H c)
 | [],fr,H,c,h=>hQ fr H c h
 | (i,none) :: r,fr,H,c,h=>by
  simp only [drwX,nthX_eq] at h
  simp only [dwp]
  split at h
  ·rename_i o hio
   simp only [hio]
   rw [frX_eq fr H c] at h
   split at h
   ·rename_i v b hv
    simp only [hv]
    obtain ⟨fr',e,hk'⟩:=dsW_sound h
    rw [Tr.sx_eq] at hk'
    have:=drwX_sound ho hQ r fr' _ c hk'
    rw [stX,e,hpOf_set] at this
    exact this
   ·rename_i v hv
    simp only [hv]
    obtain ⟨fr',e,hk'⟩:=dsW_sound h
    have:=drwX_sound ho hQ r fr' _ c hk'
    rw [stX,e] at this
    exact this
   ·cases h
  ·cases h
 | (i,some pend) :: r,fr,H,c,h=>by
  simp only [drwX,nthX_eq] at h
  simp only [dwp]
  split at h
  ·rename_i o hio
   simp only [hio]
   generalize hks:(pend.filter (isNew io)).map (c0 + ·)=ks at h
   have fin:∀ v H' c',(dsW o.dst).f (fun fr' H1 c1=>match pend.all (againX io c0 fr' H1) with
    | true=>drwX call io c0 K r fr' H1 c1
    | false=>false) fr v (mergeX H ks H') c'=true →
     AgainL io c0 ⟨updO (tmX fr) o.dst v,merge ks (hpOf H) (hpOf H'),c'⟩ pend∧dwp P Q io c0 r ⟨updO (tmX fr) o.dst v,merge ks (hpOf H) (hpOf H'),c'⟩:=by
    intro v H' c' hk
    obtain ⟨fr',e,hk'⟩:=dsW_sound hk
    split at hk'
    ·rename_i hall
     have est:stX fr' (mergeX H ks H') c'=⟨updO (tmX fr) o.dst v,merge ks (hpOf H) (hpOf H'),c'⟩:=by
      rw [stX,e,mergeX_eq,gMerge_eq]
     rw [← est]
     constructor
     ·have hl:∀ l:List Nat,(∀ j∈l,againX io c0 fr' (mergeX H ks H') j=true)→AgainL io c0 (stX fr' (mergeX H ks H') c') l:=by
       intro l
       induction l with
       | nil=>intro _;trivial
       | cons j l ih=>intro hj;exact ⟨againX_sound (hj j List.mem_cons_self),ih fun k hk=>hj k (List.mem_cons_of_mem _ hk)⟩
      exact hl pend (List.all_eq_true.1 hall)
     ·exact drwX_sound ho hQ r fr' _ c' hk'
    ·cases hk'
   rw [gdX_eq] at h
   simp only [stX,effP]
   split at h
   ·rename_i hw
    simp only [hw]
    have eh:(⟨tmX fr,hide (hpOf H) ks,c⟩:St)=stX fr (hideX H ks) c:=by rw [stX,hideX_eq,gHide_eq]
    rw [eh]
    exact oneW_sound ho o.op (fun v H' c' hk=>fin v H' c' hk) h
   ·rename_i hw
    simp only [hw]
    have:=fin undef (hideX H ks) c h
    rw [hideX_eq,gHide_eq] at this
    exact this
  ·cases h
theorem vIf_true {v:Value} {t e:Bool} (h:vIf v t e=true):(v=.bool true∧t=true)∨(v=.bool false∧e=true):=by
 cases v with
 | bool b=>cases b with
  | true=>exact .inl ⟨rfl,h⟩
  | false=>exact .inr ⟨rfl,h⟩
 | _=>cases h
theorem accW_some {i:Nat} (h:i<256):∃ w,accW i=some w:=by
 cases hw:accW i with
 | some w=>exact ⟨w,rfl⟩
 | none =>
  exfalso
  unfold accW at hw
  have hb:Nat.ble 256 i=false:=by
   cases hb:Nat.ble 256 i with
   | false=>rfl
   | true=>have:=Nat.le_of_ble_eq_true hb;omega
  rw [hb] at hw
  have hm:i % 64<64:=Nat.mod_lt _ (by omega)
  have key:∀ q,i / 64=q→q<4→nthX WrW (wT (dg q)) (i % 64)=some (gW (q * 64+i % 64)):=by
   intro q _ hq
   rw [nthX_eq]
   match q,hq with
   | 0,_=>exact lst_get wL0_eq hm
   | 1,_=>exact lst_get wL1_eq hm
   | 2,_=>exact lst_get wL2_eq hm
   | 3,_=>exact lst_get wL3_eq hm
  have h2:nthX WrW (wT (dg (i / 64))) (i % 64)=none:=hw
  rw [key (i / 64) rfl (by omega)] at h2
  cases h2
theorem arX_eq:∀ (l:List Value) (i:Nat) (fr:Fr),i+l.length≤256→∀ m,tmX (arX l i fr) m=if i≤m∧m<i+l.length then l.getD (m-i) undef else tmX fr m
 | [],i,fr,h,m=>by
  show tmX fr m=_
  rw [if_neg (by simp)]
 | v :: r,i,fr,h,m=>by
  simp only [List.length_cons] at h ⊢
  obtain ⟨w,hw⟩:=accW_some (i:=i) (by omega)
  have e:arX (v :: r) i fr=arX r (i+1) (w.f fr v):=by
   show @Option.rec WrW (fun _=>Fr) (arX r (i+1) fr) (fun w=>arX r (i+1) (w.f fr v)) (accW i)=_
   rw [hw]
  rw [e,arX_eq r (i+1) _ (by omega),tmX_wr hw]
  by_cases h1:i+1≤m∧m<i+1+r.length
  ·rw [if_pos h1,if_pos (by omega),show m-i=(m-(i+1))+1 by omega,List.getD_cons_succ]
  ·rw [if_neg h1]
   by_cases h2:m=i
   ·subst h2;rw [if_pos (by omega)];simp [Tm.upd]
   ·rw [if_neg (by omega)];simp [Tm.upd,h2]
theorem tmX_args (l:List Value) (h:l.length≤256):tmX (arX l 0 fr0)=argT l:=by
 funext m
 rw [arX_eq l 0 fr0 (by omega),tmX_fr0]
 simp only [argT,Nat.zero_le,true_and,Nat.zero_add,Nat.sub_zero]
 split
 ·rfl
 ·rw [List.getD_eq_getElem?_getD,List.getElem?_eq_none (by omega)];rfl
end
end Go.Eng
namespace Go.Eng
def FOp.mapO (s:Opd→Opd):FOp→FOp
 | .mv x=>.mv (s x)
 | .pick c a b=>.pick (s c) (s a) (s b)
 | .ld n g x=>.ld n g (s x)
 | .fad o x=>.fad o (s x)
 | .iad z x i=>.iad z (s x) (s i)
 | .iada l z x i=>.iada l z (s x) (s i)
 | .idx x i=>.idx (s x) (s i)
 | .fld o n g x=>.fld o n g (s x)
 | .ext x i=>.ext (s x) i
 | .nck x=>.nck (s x)
 | .bin op x y=>.bin op (s x) (s y)
 | .eqb n x y=>.eqb n (s x) (s y)
 | .eqn n k x y=>.eqn n k (s x) (s y)
 | .eqa n k x y=>.eqa n k (s x) (s y)
 | .un op x=>.un op (s x)
 | .cvi k x=>.cvi k (s x)
 | .cvs x=>.cvs (s x)
 | .cvbs x=>.cvbs (s x)
 | .slc z x l h=>.slc z (s x) (l.map s) (h.map s)
 | .sls x l h=>.sls (s x) (l.map s) (h.map s)
 | .mkf f a c=>.mkf f (a.map s) (c.map s)
 | .bld z p q=>.bld z p (q.map fun r=>(r.1,s r.2))
 | .len x=>.len (s x)
 | .lens x=>.lens (s x)
 | .mn x y=>.mn (s x) (s y)
 | .mx x y=>.mx (s x) (s y)
theorem fev_map (H:Hp) (e:Opd→Value) (s:Opd→Opd) (f:FOp):fev H e (f.mapO s)=fev H (fun x=>e (s x)) f:=by
 cases f with
 | slc z x l h=>simp only [FOp.mapO,fev,Option.map_map];rfl
 | sls x l h=>simp only [FOp.mapO,fev,Option.map_map];rfl
 | mkf f a c=>simp only [FOp.mapO,fev,List.map_map];rfl
 | bld z p q=>simp only [FOp.mapO,fev,List.map_map];rfl
 | _=>rfl
def AOp.mapO (s:Opd→Opd):AOp→AOp
 | .box x=>.box (s x)
 | .bsl z n y ps=>.bsl z n y (ps.map fun r=>(r.1,s r.2))
 | .msl z b y l c=>.msl z b y (s l) (s c)
theorem aev_map (e:Opd→Value) (s:Opd→Opd) (f:AOp):aev e (f.mapO s)=aev (fun x=>e (s x)) f:=by
 cases f with
 | bsl z n y ps=>simp only [AOp.mapO,aev,List.map_map];rfl
 | _=>rfl
def EOp.mapO (s:Opd→Opd):EOp→EOp
 | .st n x v=>.st n (s x) (s v)
 | .app z b x y=>.app z b (s x) (s y)
 | .apps x y=>.apps (s x) (s y)
theorem eev_map (H:Hp) (c:Nat) (e:Opd→Value) (s:Opd→Opd) (f:EOp):eev H c e (f.mapO s)=eev H c (fun x=>e (s x)) f:=by cases f<;>rfl
def IOp.mapO (s:Opd→Opd):IOp→IOp
 | .pur f=>.pur (f.mapO s)
 | .new f=>.new (f.mapO s)
 | .eff f=>.eff (f.mapO s)
 | .call f as0=>.call f (as0.map s)
 | .callv x as0=>.callv (s x) (as0.map s)
section
variable {P:Program}
theorem oneP_map {T T':Tm} {H:Hp} {c:Nat} {K:Value→Hp→Nat→Prop} {i:IOp} {s:Opd→Opd} (h:∀ x∈i.opds,x.ev T=(s x).ev T'):oneP P ⟨T',H,c⟩ K (i.mapO s)=oneP P ⟨T,H,c⟩ K i:=by
 cases i with
 | pur f =>
  simp only [IOp.mapO,oneP,fev_map]
  rw [fev_congr (H:=H) (H':=H) (f:=f) (e:=Opd.ev T) (e':=fun x=>(s x).ev T') h (fun _ _ _ _=>rfl)]
 | new f =>
  simp only [IOp.mapO,oneP,aev_map]
  rw [aev_congr (f:=f) (e:=Opd.ev T) (e':=fun x=>(s x).ev T') h]
 | eff f =>
  simp only [IOp.mapO,oneP,eev_map]
  rw [eev_congr (f:=f) (e:=Opd.ev T) (e':=fun x=>(s x).ev T') h]
 | call f as0 =>
  have h1:(as0.map s).map (Opd.ev T')=as0.map (Opd.ev T):=by rw [List.map_map];exact (List.map_congr_left fun x hx=>h x hx).symm
  simp only [IOp.mapO,oneP,h1]
 | callv x as0 =>
  have h1:(as0.map s).map (Opd.ev T')=as0.map (Opd.ev T):=by rw [List.map_map];exact (List.map_congr_left fun y hy=>h y (List.mem_cons_of_mem _ hy)).symm
  have h2:=h x List.mem_cons_self
  simp only [IOp.mapO,oneP,h1, ← h2]
theorem oneP_mono {s:St} {K K':Value→Hp→Nat→Prop} {i:IOp} (hk:∀ v H' c',K v H' c'→K' v H' c') (h:oneP P s K i):oneP P s K' i:=by
 cases i with
 | pur f =>
  simp only [oneP] at h ⊢
  split at h
  ·exact hk _ _ _ h
  ·exact h.elim
 | new f =>
  simp only [oneP] at h ⊢
  split at h
  ·exact hk _ _ _ h
  ·exact h.elim
 | eff f =>
  simp only [oneP] at h ⊢
  split at h
  ·exact hk _ _ _ h
  ·exact h.elim
 | call f as0=>exact AC.mono h hk
 | callv x as0 =>
  simp only [oneP] at h ⊢
  split at h
  ·exact AC.mono h hk
  ·exact h.elim
def okO (V:Nat):Opd→Bool
 | .t t => !Nat.testBit V t
 | _=>true
def lk:List (Nat × Opd)→Nat→Opd
 | [],t=>.t t
 | (d,x) :: r,t=>match Nat.beq d t with
  | true=>x
  | false=>lk r t
def sb (V:Nat) (σ : List (Nat × Opd)):Opd→Opd
 | .t t=>match Nat.testBit V t with
  | true=>lk σ t
  | false=>.t t
 | x=>x
def isT (d:Nat):Opd→Bool
 | .t t=>Nat.beq t d
 | _=>false
def killO:Option Nat→List (Nat × Opd)→List (Nat × Opd)
 | none, σ => σ
 | some d, σ => σ.filter fun p => !isT d p.2
def sbG (V:Nat) (σ : List (Nat × Opd)):Option (Nat × Bool)→Option (Option (Nat × Bool))
 | none=>some none
 | some (t,b)=>match sb V σ (.t t) with
  | .t t'=>match Nat.testBit V t' with
   | true=>none
   | false=>some (some (t',b))
  | _=>none
def okD (V:Nat):Option Nat→Bool
 | none=>true
 | some d => !Nat.testBit V d
def isMv (V:Nat):IOper→Option (Nat × Opd)
 | ⟨some d,.pur (.mv x),none⟩=>match Nat.testBit V d with
  | true=>some (d,x)
  | false=>none
 | _=>none
def optR (V:Nat):List IOper→List (Nat × Opd)→Option (List IOper)
 | [],_=>some []
 | o :: os, σ => match isMv V o with
  | some (d,x)=>match okO V (sb V σ x) with
   | true=>optR V os ((d,sb V σ x) :: σ.filter fun p => !Nat.beq p.1 d)
   | false=>none
  | none=>match o.op.opds.all (fun x=>okO V (sb V σ x)),okD V o.dst,sbG V σ o.guard with
   | true,true,some g=>match optR V os (killO o.dst σ) with
    | some r=>some (⟨o.dst,o.op.mapO (sb V σ),g⟩ :: r)
    | none=>none
   | _,_,_=>none
def okP (V:Nat) (o:IOper):Bool :=
 o.op.opds.all (okO V) && okD V o.dst && (match o.guard with
  | none=>true
  | some (t,_) => !Nat.testBit V t)
def optC (V:Nat):IC→Option IC
 | .skip=>some .skip
 | .reg ops=>match optR V ops [] with
  | some r=>some (.reg r)
  | none=>none
 | .drw n d=>match d.ops.all (okP V) with
  | true=>some (.drw n d)
  | false=>none
 | .seq x y=>match optC V x,optC V y with
  | some a,some b=>some (.seq a b)
  | _,_=>none
 | .cond c x y=>match okO V c,optC V x,optC V y with
  | true,some a,some b=>some (.cond c a b)
  | _,_,_=>none
 | .blk id x=>match optC V x with
  | some a=>some (.blk id a)
  | none=>none
 | .loop x=>match optC V x with
  | some a=>some (.loop a)
  | none=>none
 | .exit id=>some (.exit id)
 | .ret=>some .ret
def okRV (V:Nat):RV→Bool
 | .tmp t => !Nat.testBit V t
 | .cell a _ _ => !Nat.testBit V a
def optFn (V:Nat) (i:IFn):Option IFn :=
 match i.res.all (okRV V),optC V i.body with
 | true,some b=>some ⟨i.n,b,i.res⟩
 | _,_=>none
def Agree (V:Nat) (T T':Tm):Prop:=∀ t,Nat.testBit V t=false→T t=T' t
def InvS (V:Nat) (σ : List (Nat × Opd)) (T T':Tm):Prop:=∀ p ∈ σ,Nat.testBit V p.1=true∧okO V p.2=true∧T p.1=p.2.ev T'
theorem Agree.opd {V:Nat} {T T':Tm} (h:Agree V T T') {x:Opd} (hx:okO V x=true):x.ev T=x.ev T':=by
 cases x with
 | t t=>simp only [okO,Bool.not_eq_true'] at hx;exact h t hx
 | _=>rfl
theorem lk_ev {V:Nat} {T T':Tm}:∀ (σ : List (Nat × Opd)),InvS V σ T T'→∀ t,Nat.testBit V t=true→okO V (lk σ t)=true→T t=(lk σ t).ev T'
 | [],h,t,ht,ho=>by simp only [lk,okO,ht,Bool.not_true] at ho;cases ho
 | (d,x) :: r,h,t,ht,ho=>by
  simp only [lk] at ho ⊢
  cases hb:Nat.beq d t with
  | true =>
   rw [hb] at ho
   have:=Nat.eq_of_beq_eq_true hb
   subst this
   exact (h (d,x) List.mem_cons_self).2.2
  | false =>
   rw [hb] at ho
   exact lk_ev r (fun p hp=>h p (List.mem_cons_of_mem _ hp)) t ht ho
theorem sb_ev {V:Nat} {σ : List (Nat × Opd)} {T T':Tm} (hA:Agree V T T') (hI:InvS V σ T T') {x:Opd} (hx:okO V (sb V σ x)=true):x.ev T=(sb V σ x).ev T':=by
 cases x with
 | t t =>
  simp only [sb] at hx ⊢
  cases hv:Nat.testBit V t with
  | true=>rw [hv] at hx;exact lk_ev σ hI t hv hx
  | false=>exact hA t hv
 | _=>rfl
theorem Agree.updO {V:Nat} {T T':Tm} (hA:Agree V T T') {d:Option Nat} (v:Value):Agree V (updO T d v) (updO T' d v):=by
 cases d with
 | none=>exact hA
 | some d =>
  intro t ht
  simp only [Go.Eng.updO,Tm.upd]
  split
  ·rfl
  ·exact hA t ht
theorem Agree.virt {V:Nat} {T T':Tm} (hA:Agree V T T') {d:Nat} (hd:Nat.testBit V d=true) (v:Value):Agree V (T.upd d v) T':=by
 intro t ht
 simp only [Tm.upd]
 rw [if_neg (fun e=>by rw [e,hd] at ht;cases ht)]
 exact hA t ht
theorem InvS.kill {V:Nat} {σ : List (Nat × Opd)} {T T':Tm} (hI:InvS V σ T T') {d:Option Nat} (hd:okD V d=true) (v:Value):InvS V (killO d σ) (updO T d v) (updO T' d v):=by
 cases d with
 | none=>exact hI
 | some d =>
  simp only [okD,Bool.not_eq_true'] at hd
  intro p hp
  simp only [killO,List.mem_filter,Bool.not_eq_true'] at hp
  obtain ⟨h1,h2,h3⟩:=hI p hp.1
  refine ⟨h1,h2,?_⟩
  simp only [Go.Eng.updO,Tm.upd]
  rw [if_neg (fun e=>by rw [e,hd] at h1;cases h1),h3]
  obtain ⟨q,x⟩:=p
  cases x with
  | t t =>
   have:t≠d:=fun e=>by have h:=hp.2;simp only [isT,e,Nat.beq_refl] at h;cases h
   show T' t=T'.upd d v t
   simp only [Tm.upd,if_neg this]
  | _=>rfl
theorem isMv_inv {V:Nat} {o:IOper} {d:Nat} {x:Opd} (h:isMv V o=some (d,x)):o=⟨some d,.pur (.mv x),none⟩∧Nat.testBit V d=true:=by
 unfold isMv at h
 split at h
 ·split at h
  ·rename_i hv;cases h;exact ⟨rfl,hv⟩
  ·cases h
 ·cases h
theorem sbG_want {V:Nat} {σ : List (Nat × Opd)} {T T':Tm} (hA:Agree V T T') (hI:InvS V σ T T') {g g':Option (Nat × Bool)} (h:sbG V σ g=some g'):wantG T g=wantG T' g':=by
 cases g with
 | none=>cases h;rfl
 | some p =>
  obtain ⟨t,b⟩:=p
  simp only [sbG] at h
  split at h
  ·rename_i t' ht
   split at h
   ·cases h
   ·rename_i hv
    cases h
    have e:=sb_ev hA hI (x:=.t t) (by rw [ht];simp [okO,hv])
    rw [ht] at e
    simp only [Opd.ev] at e
    simp only [wantG,e]
  ·cases h
theorem optR_sound {V:Nat} {Q Q':St→Prop} (hQ:∀ T T' H c,Agree V T T'→Q' ⟨T',H,c⟩→Q ⟨T,H,c⟩):∀ (ops:List IOper) (σ : List (Nat × Opd)) (r:List IOper),optR V ops σ = some r →
  ∀ T T' H c,Agree V T T'→InvS V σ T T'→rwp P Q' r ⟨T',H,c⟩→rwp P Q ops ⟨T,H,c⟩
 | [], σ,r,h,T,T',H,c,hA,hI,hw=>by
  simp only [optR,Option.some.injEq] at h
  subst h
  exact hQ _ _ _ _ hA hw
 | o :: os, σ,r,h,T,T',H,c,hA,hI,hw=>by
  simp only [optR] at h
  split at h
  ·rename_i d x hm
   obtain ⟨rfl,hd⟩:=isMv_inv hm
   split at h
   ·rename_i hx
    simp only [rwp,wantG,oneP,fev,Go.Eng.updO]
    refine optR_sound hQ os _ r h _ T' H c (hA.virt hd _) (fun p hp=>?_) hw
    rcases List.mem_cons.1 hp with rfl|hp
    ·exact ⟨hd,hx,by simp only [Tm.upd,if_pos];exact sb_ev hA hI hx⟩
    ·rw [List.mem_filter] at hp
     obtain ⟨h1,h2,h3⟩:=hI p hp.1
     refine ⟨h1,h2,?_⟩
     have hne:p.1≠d:=fun e=>by have h:=hp.2;simp only [e,Nat.beq_refl] at h;cases h
     simp only [Tm.upd,if_neg hne]
     exact h3
   ·cases h
  ·split at h
   ·rename_i g hall hdst hg
    split at h
    ·rename_i r' hr
     cases h
     have hwant:=sbG_want hA hI hg
     simp only [rwp] at hw ⊢
     rw [hwant]
     have ih:=optR_sound hQ os (killO o.dst σ) r' hr
     split at hw
     ·rename_i hg1
      rw [oneP_map (T:=T) (T':=T') (fun x hx=>sb_ev hA hI (List.all_eq_true.1 hall x hx))] at hw
      exact oneP_mono (fun v H' c' h'=>ih _ _ H' c' (hA.updO v) (hI.kill hdst v) h') hw
     ·rename_i hg1
      exact ih _ _ H c (hA.updO undef) (hI.kill hdst undef) hw
    ·cases h
   ·cases h
theorem okP_sees {V:Nat} {o:IOper} (h:okP V o=true) {T T':Tm} (hA:Agree V T T'):True∧(∀ x∈o.op.opds,x.ev T=x.ev T')∧wantG T o.guard=wantG T' o.guard∧okD V o.dst=true:=by
 simp only [okP,Bool.and_eq_true,List.all_eq_true] at h
 obtain ⟨⟨h1,h2⟩,h3⟩:=h
 have hg:∀ t b,o.guard=some (t,b)→T t=T' t:=by
  intro t b e
  rw [e] at h3
  simp only [Bool.not_eq_true'] at h3
  exact hA t h3
 have ho:∀ x∈o.op.opds,x.ev T=x.ev T':=fun x hx=>hA.opd (h1 x hx)
 refine ⟨trivial,ho,?_,h2⟩
 ·cases hgd:o.guard with
  | none=>rfl
  | some p=>obtain ⟨t,b⟩:=p;simp only [wantG,hg t b hgd]
theorem freeV_agree {V:Nat} {o:IOper} (h:okP V o=true) {T T':Tm} (hA:Agree V T T') (H:Hp) (c id:Nat):freeV ⟨T,H,c⟩ id o=freeV ⟨T',H,c⟩ id o:=by
 obtain ⟨-,h1,h2, -⟩:=okP_sees h hA
 unfold freeV
 simp only [h2]
 cases hw:wantG T' o.guard with
 | false=>rfl
 | true =>
  cases ho:o.op with
  | pur f =>
   rw [ho] at h1
   simp only [fev_congr (H:=H) (H':=H) (f:=f) (e:=Opd.ev T') (e':=Opd.ev T) (fun x hx=>(h1 x hx).symm) (fun _ _ _ _=>rfl)]
  | new f =>
   rw [ho] at h1
   simp only [aev_congr (f:=f) (e:=Opd.ev T') (e':=Opd.ev T) (fun x hx=>(h1 x hx).symm)]
  | _=>rfl
theorem mem_of_get {α : Type} {l:List α} {i:Nat} {x : α} (h:l[i]? = some x):x∈l:=by
 obtain ⟨hi,e⟩:=List.getElem?_eq_some_iff.1 h
 rw [← e];exact List.getElem_mem hi
theorem again_agree {V:Nat} {io:List IOper} (hio:∀ o∈io,okP V o=true) {T T':Tm} (hA:Agree V T T') {H:Hp} {c c0 j:Nat} (h:Again io c0 ⟨T',H,c⟩ j):Again io c0 ⟨T,H,c⟩ j:=by
 unfold Again at h ⊢
 split at h
 ·rename_i o ho
  try simp only [ho]
  have hk:=hio o (mem_of_get ho)
  rw [freeV_agree hk hA]
  split at h
  ·rename_i v ob hv
   try simp only [hv]
   refine ⟨fun d hd=>?_,h.2⟩
   have h2:=(okP_sees hk hA).2.2.2
   rw [hd] at h2
   simp only [okD,Bool.not_eq_true'] at h2
   rw [show T d=T' d from hA d h2]
   exact h.1 d hd
  ·exact h.elim
 ·exact h.elim
theorem againL_agree {V:Nat} {io:List IOper} (hio:∀ o∈io,okP V o=true) {T T':Tm} (hA:Agree V T T') {H:Hp} {c c0:Nat}:∀ l,AgainL io c0 ⟨T',H,c⟩ l→AgainL io c0 ⟨T,H,c⟩ l
 | [],_=>trivial
 | j :: l,h=>⟨again_agree hio hA h.1,againL_agree hio hA l h.2⟩
theorem dwp_agree {V:Nat} {Q Q':St→Prop} (hQ:∀ T T' H c,Agree V T T'→Q' ⟨T',H,c⟩→Q ⟨T,H,c⟩) {io:List IOper} (hio:∀ o∈io,okP V o=true) {c0:Nat}:∀ (plan:List (Nat × Option (List Nat))) (T T':Tm) (H:Hp) (c:Nat),Agree V T T'→dwp P Q' io c0 plan ⟨T',H,c⟩→dwp P Q io c0 plan ⟨T,H,c⟩
 | [],T,T',H,c,hA,h=>hQ _ _ _ _ hA h
 | (i,none) :: r,T,T',H,c,hA,h=>by
  simp only [dwp] at h ⊢
  split at h
  ·rename_i o ho
   try simp only [ho]
   have hk:=hio o (mem_of_get ho)
   rw [freeV_agree hk hA]
   split at h
   ·rename_i v ob hv
    try simp only [hv]
    exact dwp_agree hQ hio r _ _ _ _ (hA.updO v) h
   ·exact h.elim
  ·exact h.elim
 | (i,some pend) :: r,T,T',H,c,hA,h=>by
  simp only [dwp] at h ⊢
  split at h
  ·rename_i o ho
   try simp only [ho]
   have hk:=hio o (mem_of_get ho)
   obtain ⟨-,h1,h2, -⟩:=okP_sees hk hA
   have fin:∀ v H' c',AgainL io c0 ⟨updO T' o.dst v,merge ((pend.filter (isNew io)).map (c0 + ·)) H H',c'⟩ pend∧dwp P Q' io c0 r ⟨updO T' o.dst v,merge ((pend.filter (isNew io)).map (c0 + ·)) H H',c'⟩ →
     AgainL io c0 ⟨updO T o.dst v,merge ((pend.filter (isNew io)).map (c0 + ·)) H H',c'⟩ pend∧dwp P Q io c0 r ⟨updO T o.dst v,merge ((pend.filter (isNew io)).map (c0 + ·)) H H',c'⟩ :=
    fun v H' c' ⟨a,b⟩=>⟨againL_agree hio (hA.updO v) pend a,dwp_agree hQ hio r _ _ _ _ (hA.updO v) b⟩
   simp only [effP] at h ⊢
   rw [h2]
   split at h
   ·rename_i hw
    rw [oneP_congr (T:=T) (T':=T') h1] at h
    exact oneP_mono fin h
   ·exact fin _ _ _ h
  ·exact h.elim
theorem cO_sound {V fuel N:Nat} {call:CX} (ho:OrX P call):∀ (ic ic':IC),optC V ic=some ic'→∀ (kn:KF) (ke:Nat→KF) (kr:KF) (Q:Exit→St→Prop),
  (∀ fr H c T,Agree V T (tmX fr)→kn fr H c=true→Q .normal ⟨T,hpOf H,c⟩)→(∀ i fr H c T,Agree V T (tmX fr)→ke i fr H c=true→Q (.exit i) ⟨T,hpOf H,c⟩)→(∀ fr H c T,Agree V T (tmX fr)→kr fr H c=true→Q .ret ⟨T,hpOf H,c⟩) →
  ∀ fr H c T,Agree V T (tmX fr)→(codeW fuel ic').f call kn ke kr fr H c=true→wpI P N ic ⟨T,hpOf H,c⟩ Q:=by
 intro ic
 induction ic with
 | skip=>intro ic' hc kn ke kr Q hn he hr fr H c T hA h;cases hc;exact hn fr H c T hA h
 | reg ops =>
  intro ic' hc kn ke kr Q hn he hr fr H c T hA h
  simp only [optC] at hc
  split at hc
  ·rename_i r hr
   cases hc
   have h1:=regX_sound (P:=P) ho (K:=kn) (Q:=fun s' => ∃ fr H c,s'=stX fr H c∧kn fr H c=true) (fun fr H c hk=>⟨fr,H,c,rfl,hk⟩) r fr H c h
   refine optR_sound (fun T T' H' c' hA' hq=>?_) ops [] r hr T (tmX fr) (hpOf H) c hA (fun p hp=>by cases hp) h1
   obtain ⟨fr1,H1,c1,e,hk⟩:=hq
   simp only [stX,St.mk.injEq] at e
   obtain ⟨e1,e2,e3⟩:=e
   subst e1 e2 e3
   exact hn fr1 H1 _ T hA' hk
  ·cases hc
 | drw n d =>
  intro ic' hc kn ke kr Q hn he hr fr H c T hA h
  simp only [optC] at hc
  split at hc
  ·rename_i hall
   cases hc
   obtain ⟨ops,bef,plan⟩:=d
   have h1:=drwX_sound (P:=P) ho (K:=kn) (Q:=fun s' => ∃ fr H c,s'=stX fr H c∧kn fr H c=true) (fun fr H c hk=>⟨fr,H,c,rfl,hk⟩) plan fr H (c+n) h
   refine dwp_agree (V:=V) (fun T T' H' c' hA' hq=>?_) (List.all_eq_true.1 hall) plan T (tmX fr) (hpOf H) (c+n) hA h1
   obtain ⟨fr1,H1,c1,e,hk⟩:=hq
   simp only [stX,St.mk.injEq] at e
   obtain ⟨e1,e2,e3⟩:=e
   subst e1 e2 e3
   exact hn fr1 H1 _ T hA' hk
  ·cases hc
 | seq a b iha ihb =>
  intro ic' hc kn ke kr Q hn he hr fr H c T hA h
  simp only [optC] at hc
  split at hc
  ·rename_i a' b' ha hb
   cases hc
   refine iha a' ha _ ke kr _ (fun fr1 H1 c1 T1 hA1 h1=>?_) (fun i fr1 H1 c1 T1 hA1 h1=>?_) (fun fr1 H1 c1 T1 hA1 h1=>?_) fr H c T hA h
   ·exact ihb b' hb kn ke kr Q hn he hr fr1 H1 c1 T1 hA1 h1
   ·exact he i fr1 H1 c1 T1 hA1 h1
   ·exact hr fr1 H1 c1 T1 hA1 h1
  ·cases hc
 | cond o a b iha ihb =>
  intro ic' hc kn ke kr Q hn he hr fr H c T hA h
  simp only [optC] at hc
  split at hc
  ·rename_i a' b' hok ha hb
   cases hc
   have h1:vIf ((opdW o).f fr) ((codeW fuel a').f call kn ke kr fr H c) ((codeW fuel b').f call kn ke kr fr H c)=true:=h
   rw [rdO_eq, ← hA.opd hok] at h1
   simp only [wpI]
   rcases vIf_true h1 with ⟨hv,h2⟩|⟨hv,h2⟩
   ·simp only [hv]
    exact iha a' ha kn ke kr Q hn he hr fr H c T hA h2
   ·simp only [hv]
    exact ihb b' hb kn ke kr Q hn he hr fr H c T hA h2
  ·cases hc
 | blk id a ih =>
  intro ic' hc kn ke kr Q hn he hr fr H c T hA h
  simp only [optC] at hc
  split at hc
  ·rename_i a' ha
   cases hc
   refine ih a' ha kn (keB id kn ke) kr (blkS id Q) (fun fr1 H1 c1 T1 hA1 h1=>hn fr1 H1 c1 T1 hA1 h1) (fun i fr1 H1 c1 T1 hA1 h1=>?_) (fun fr1 H1 c1 T1 hA1 h1=>hr fr1 H1 c1 T1 hA1 h1) fr H c T hA h
   unfold keB at h1
   simp only [blkS]
   cases hb:Nat.beq i id with
   | true=>rw [hb] at h1;rw [if_pos (Nat.eq_of_beq_eq_true hb)];exact hn fr1 H1 c1 T1 hA1 h1
   | false=>rw [hb] at h1;rw [if_neg (fun e=>by rw [e,Nat.beq_refl] at hb;cases hb)];exact he i fr1 H1 c1 T1 hA1 h1
  ·cases hc
 | loop a ih =>
  intro ic' hc kn ke kr Q hn he hr fr H c T hA h
  simp only [optC] at hc
  split at hc
  ·rename_i a' ha
   cases hc
   simp only [wpI]
   refine IW.loop (fun k s => ∃ fr H c T,Agree V T (tmX fr)∧s=⟨T,hpOf H,c⟩∧lpX k (codeW fuel a') call ke kr fr H c=true) fuel ⟨fr,H,c,T,hA,rfl,h⟩ ?_
   rintro k s ⟨fr1,H1,c1,T1,hA1,rfl,hk⟩
   cases k with
   | zero=>cases hk
   | succ k =>
    exact ih a' ha (lpX k (codeW fuel a') call ke kr) ke kr (thenS (fun s' => ∃ m,m<k+1∧∃ fr H c T,Agree V T (tmX fr)∧s'=⟨T,hpOf H,c⟩∧lpX m (codeW fuel a') call ke kr fr H c=true) Q)
     (fun fr2 H2 c2 T2 hA2 h2=>⟨k,Nat.lt_succ_self k,fr2,H2,c2,T2,hA2,rfl,h2⟩) (fun i fr2 H2 c2 T2 hA2 h2=>he i fr2 H2 c2 T2 hA2 h2) (fun fr2 H2 c2 T2 hA2 h2=>hr fr2 H2 c2 T2 hA2 h2) fr1 H1 c1 T1 hA1 hk
  ·cases hc
 | exit id=>intro ic' hc kn ke kr Q hn he hr fr H c T hA h;cases hc;exact he id fr H c T hA h
 | ret=>intro ic' hc kn ke kr Q hn he hr fr H c T hA h;cases hc;exact hr fr H c T hA h
theorem resL_agree {V:Nat} {T T':Tm} (hA:Agree V T T') (H:Hp) (c:Nat):∀ (rs:List RV),rs.all (okRV V)=true→resL ⟨T,H,c⟩ rs=resL ⟨T',H,c⟩ rs
 | [],_=>rfl
 | .tmp t :: r,h=>by
  simp only [List.all_cons,Bool.and_eq_true,okRV,Bool.not_eq_true'] at h
  simp only [resL,resL_agree hA H c r h.2,show T t=T' t from hA t h.1]
 | .cell a n g :: r,h=>by
  simp only [List.all_cons,Bool.and_eq_true,okRV,Bool.not_eq_true'] at h
  simp only [resL,resL_agree hA H c r h.2,show T a=T' a from hA a h.1]
theorem resV_agree {V:Nat} {T T':Tm} (hA:Agree V T T') (H:Hp) (c:Nat) (rs:List RV) (h:rs.all (okRV V)=true):resV ⟨T,H,c⟩ rs=resV ⟨T',H,c⟩ rs:=by
 unfold resV;rw [resL_agree hA H c rs h]
def IsFnO (P:Program) (f:Nat) (i:IFn):Prop:=∃ V i0,IsFn P f i0∧optFn V i0=some i
theorem IsFnO.of {f:Nat} {i:IFn} (V:Nat) (h:((P.funcs[f]?).bind (trFn P)).bind (optFn V)=some i):IsFnO P f i:=by
 cases h0:(P.funcs[f]?).bind (trFn P) with
 | none=>rw [h0] at h;cases h
 | some i0=>rw [h0] at h;exact ⟨V,i0,h0,h⟩
theorem fS_ok (hm:P.follows .mixedOrders=true) {F:Tr IFn} (hF:∀ f i,F.get f=some i→IsFnO P f i) (fuel:Nat):∀ k,OrX P (fX k F fuel):=by
 intro k
 induction k with
 | zero=>intro f args H c K h;cases h
 | succ k ih =>
  intro f args H c K h
  obtain ⟨⟨n,body,res⟩,h1,h2⟩:=optT (show @Option.rec IFn (fun _=>Bool) false (@IFn.rec (fun _=>Bool) (fnX fuel (fX k F fuel) args H c K)) (Tr.gx IFn F f)=true from h)
  rw [Tr.gx_eq] at h1
  obtain ⟨V,i0,hf,hopt⟩:=hF f _ h1
  unfold optFn at hopt
  split at hopt
  ·rename_i b hres hbody
   cases hopt
   have h3:fnX fuel (fX k F fuel) args H c K i0.n body i0.res=true:=h2
   unfold fnX at h3
   cases hb:(Nat.ble args.length i0.n && Nat.ble args.length 256) with
   | false=>rw [hb] at h3;cases h3
   | true =>
    rw [hb] at h3
    rw [Bool.and_eq_true] at hb
    have hn:=Nat.le_of_ble_eq_true hb.1
    have h256:=Nat.le_of_ble_eq_true hb.2
    refine AC.of hm hf hn ?_
    have hk:∀ fr H' c' T,Agree V T (tmX fr)→krX i0.res K fr H' c'=true→(match resV ⟨T,hpOf H',c'⟩ i0.res with
      | some v => ∃ H1,hpOf H'=hpOf H1∧K v H1 c'=true
      | none=>False):=by
     intro fr H' c' T hA hkr
     obtain ⟨v,g1,g2⟩:=optT (show @Option.rec Value (fun _=>Bool) false (fun v=>K v H' c') (resV ⟨tmX fr,hpOf H',c'⟩ i0.res)=true from hkr)
     rw [← resV_agree hA _ _ _ hres] at g1
     simp only [g1]
     exact ⟨H',rfl,g2⟩
    exact cO_sound (V:=V) (N:=i0.n) ih i0.body body hbody (krX i0.res K) keF (krX i0.res K) (retQ i0.res fun v1 H1 c1 => ∃ H',H1=hpOf H'∧K v1 H' c1=true) hk (fun i fr H c T hA h=>by cases h) hk (arX args 0 fr0) H c (argT args) (by rw [tmX_args args h256];exact fun _ _=>rfl) h3
  ·cases hopt
theorem AC.runS (hm:P.follows .mixedOrders=true) {F:Tr IFn} (hF:∀ f i,F.get f=some i→IsFnO P f i) {fuel k f c:Nat} {args:List Value} {H:TrB} {K:KV} (h:fX k F fuel f args H c K=true) :
  AC P f args (hpOf H) c fun v1 H1 c1 => ∃ H',H1=hpOf H'∧K v1 H' c1=true:=fS_ok hm hF fuel k f args H c K h
theorem tableO_ok {F:Tr IFn} {L:List (Nat × IFn)} (hF:F=Tr.ofL L) (hL:∀ p∈L,IsFnO P p.1 p.2):∀ f i,F.get f=some i→IsFnO P f i:=by
 intro f i h
 rw [hF] at h
 exact hL _ (Tr.ofL_mem L f i h)
end
end Go.Eng
namespace Go.Sym
open Go.Eng (IOper IC)
abbrev sr (r:List IOper) (y:IC):IC:=.seq (.reg r) y
abbrev cd (t:Nat) (x y:IC):IC:=.cond (.t t) x y
abbrev zi:Value:=.int .i64 0
abbrev zs:Value:=.slice none 0 0
abbrev zt:Value:=.string ⟨#[]⟩
end Go.Sym
set_option maxRecDepth 100000
namespace Go.Proofs.YtcallbfckjlagaaGreat
open Go.Eng Go.Sym
def ir10:IFn:=⟨71,sr [oX 4 0,oX 6 2,oV 8 zs,oV 9 zs,oI 10 0,oI 11 0] (sr [oD 16 4 7,oD 18 6 6,oC 20 23 [.t 16,.t 1,.t 18,.t 3],oE 21 20 0,oE 22 20 1,oM 12 21,oM 13 22] (.seq (sr [oK 24 13 .neq 0] (cd 24 (sr [oV 8 zs,oV 9 zs,oI 10 0,oM 11 13] .ret) .skip)) (sr [oI 14 0] (.seq (.blk 0 (.loop (.seq (sr [oN 27 12,oF 28 27 14,oL 29 28,oY 30 29,gM 32 14 30,gM 33 3 30,oG 34 (.bin .lss (.t 32) (.t 33)) 30,oJ 35 30 34,gM 37 12 35,gN 38 37 35,gF 39 38 16 35,gL 40 39 35,oG 41 (.len (.t 40)) 35,gK 42 41 35 .leq 256,oJ 43 35 42] (cd 43 .skip (.exit 0))) (.seq (.blk 1 (.reg [oC 47 24 [.t 12]])) (.reg [oK 45 14 .add 1,oM 14 45]))))) (.seq (sr [oN 49 12,oF 50 49 14,oL 51 50,oY 52 51,hM 54 12 52,hN 55 54 52,hF 56 55 16 52,hL 57 56 52,oR 58 (.len (.t 57)) 52,hK 59 58 52 .gtr 256,oO 60 52 59] (cd 60 (sr [oV 8 zs,oV 9 zs,oI 10 0,oI 11 52] .ret) .skip)) (.seq (.drw 14 ⟨[oM 61 12,oN 62 61,oF 63 62 7,oF 64 63 0,oL 65 64,oM 66 12,oN 67 66,oF 68 67 16,oL 69 68,oM 70 14,oM 8 65,oM 9 69,oM 10 70,oI 11 0],[],[(0,none),(1,none),(2,none),(3,none),(4,none),(5,none),(6,none),(7,none),(8,none),(9,none),(10,some [5,6,7,8,9]),(11,some [9]),(12,some []),(13,some [])]⟩) .ret)))))),[.tmp 8,.tmp 9,.tmp 10,.tmp 11]⟩
theorem is10:IsFnO Tryz.prog 10 ir10:=.of 9376706138374304 (by kernel_rfl)
def ir12:IFn:=⟨26,sr [oV 4 (.bool false)] (.seq (sr [oH 7 0,oH 9 1,oB 10 7 9 .neq] (cd 10 (sr [oV 4 (.bool false)] .ret) .skip)) (.seq (sr [oI 5 0] (.blk 0 (.loop (.seq (sr [oH 13 0,oB 14 5 13 .lss] (cd 14 .skip (.exit 0))) (.seq (.blk 1 (.seq (.drw 9 (dQ [oM 17 0,oM 18 5,oA 19 17 18 5,oD 20 19 5,oM 21 1,oM 22 5,oA 23 21 22 5,oD 24 23 5,oP 25 (.eqa true [0,0,0,0,2] (.t 20) (.t 24))] 0)) (cd 25 (sr [oV 4 (.bool false)] .ret) .skip))) (.reg [oK 16 5 .add 1,oM 5 16])))))) (sr [oV 4 (.bool true)] .ret))),[.tmp 4]⟩
theorem is12:IsFnO Tryz.prog 12 ir12:=.of 39244 (by kernel_rfl)
def ir13:IFn:=⟨62,sr [oV 0 (.bool false)] (sr [oC 15 25 [.k (.string ⟨#[109,111,100,101,32,109,32,49,32,123,32,111,110,32,115,116,97,114,116,32,123,32,115,99,111,114,101,32,55,32,47,32,50,59,32,115,99,111,114,101,32,45,55,32,37,32,50,59,32,125,32,111,110,32,115,116,111,112,32,123,32,114,101,112,101,97,116,32,49,48,48,48,32,123,32,125,32,125,32,125]⟩)],oE 16 15 0,oE 17 15 1,oE 18 15 2,oW 1 (.agg #[zs,zs,zs,zs,zs,zi,zi]),oS 1 16 7] (sr [oD 20 1 7,oP 21 (.bld #[zs,zs,.int .u64 0,.int .u32 0,zi,zi] [(0,1),(1,1),(2,1),(3,1),(4,1),(5,1)] []),oC 22 10 [.t 20,.k zi,.t 21,.k (.int .i64 100)],oE 23 22 0,oE 24 22 1,oE 25 22 2,oE 26 22 3,oM 5 24,oM 6 25,oM 7 26] (sr [oD 28 1 7,oC 29 26 [.t 28,.k zi,.k (.int .i64 2),.k zi],oE 30 29 0,oE 31 29 1,oM 8 30] (sr [oD 33 1 7,oP 35 (.bld #[zs,zs,.int .u64 0,.int .u32 0,zi,zi] [(0,1),(1,1),(2,1),(3,1),(4,1),(5,1)] []),oC 36 10 [.t 33,.t 8,.t 35,.k (.int .i64 1000)],oE 37 36 0,oE 38 36 1,oE 39 36 2,oE 40 36 3,oM 13 40] (sr [oK 42 7 .eql 0,gM 44 6 42,gK 45 44 42 .eql 10,oJ 46 42 45,gM 48 5 46,oG 49 (.bld #[zi,zi,zi,zi,zt] [(0,1),(1,1),(2,1),(3,1),(4,1)] [(0,.k (.int .i64 15)),(2,.k (.int .i64 3))]) 46,oG 50 (.bld #[zi,zi,zi,zi,zt] [(0,1),(1,1),(2,1),(3,1),(4,1)] [(0,.k (.int .i64 15)),(2,.k (.int .i64 (-1)))]) 46,⟨some 51,.new (.bsl 5 2 #[zi,zi,zi,zi,zt] [(0,.t 49),(1,.t 50)]),some (46,true)⟩,⟨some 52,.call 12 [.t 48,.t 51],some (46,true)⟩,oJ 53 46 52,gM 55 13 53,gK 56 55 53 .eql 52,oJ 57 53 56,⟨some 59,.call 27 [.k (.int .i64 1099511627776)],some (57,true)⟩,gK 60 59 57 .eql 2147483647,oJ 61 57 60,oM 0 61] .ret))))),[.tmp 0]⟩
theorem is13:IsFnO Tryz.prog 13 ir13:=.of 306396528875429404 (by kernel_rfl)
def ir16:IFn:=⟨67,sr [oX 2 0,oX 3 1,oV 4 (.bool false)] (sr [oP 5 (.mv (.f 30))] (.seq (.drw 62 ⟨[oD 6 2 7,oC 7 32 [.t 6],oK 8 7 .eql 0,oM 9 8,gF 10 3 0 9,gL 11 10 9,oG 12 (.len (.t 11)) 9,gF 13 2 4 9,gL 14 13 9,oG 15 (.len (.t 14)) 9,oG 16 (.bin .eql (.t 12) (.t 15)) 9,oJ 17 9 16,oM 18 17,gF 19 3 1 18,gL 20 19 18,oG 21 (.len (.t 20)) 18,gF 22 2 5 18,gL 23 22 18,oG 24 (.bin .eql (.t 21) (.t 23)) 18,oJ 25 18 24,oM 26 25,gF 27 3 0 26,gL 28 27 26,gM 29 5 26,⟨some 30,.callv (.t 29) [.k (.int .i64 (-2147483647))],some (26,true)⟩,⟨some 31,.call 33 [.t 28,.t 30],some (26,true)⟩,oG 32 (.un .not (.t 31)) 26,oJ 33 26 32,oM 34 33,gF 35 3 1 34,gL 36 35 34,gM 37 5 34,⟨some 38,.callv (.t 37) [.k zi],some (34,true)⟩,⟨some 39,.call 33 [.t 36,.t 38],some (34,true)⟩,oG 40 (.un .not (.t 39)) 34,oJ 41 34 40,oM 42 41,gF 43 3 3 42,gL 44 43 42,gF 45 2 3 42,gL 46 45 42,oG 47 (.len (.t 46)) 42,oG 48 (.bin .shr (.t 44) (.t 47)) 42,oG 49 (.bin .eql (.t 48) (.k (.int .u32 0))) 42,oJ 50 42 49,oM 51 50,gM 52 5 51,⟨some 53,.callv (.t 52) [.k zi],some (51,true)⟩,gF 54 3 4 51,gL 55 54 51,⟨some 56,.callv (.t 53) [.t 55],some (51,true)⟩,oG 57 (.un .not (.t 56)) 51,oJ 58 51 57,oM 59 58,gM 60 5 59,⟨some 61,.callv (.t 60) [.k zi],some (59,true)⟩,gF 62 3 5 59,gL 63 62 59,⟨some 64,.callv (.t 61) [.t 63],some (59,true)⟩,oG 65 (.un .not (.t 64)) 59,oJ 66 59 65,oM 4 66],[],[(0,none),(1,some []),(2,none),(3,none),(4,none),(5,none),(6,none),(7,none),(8,none),(9,none),(10,none),(11,none),(12,none),(13,none),(14,none),(15,none),(16,none),(17,none),(18,none),(19,none),(20,none),(21,none),(22,none),(23,none),(24,some [21,22]),(25,some []),(26,none),(27,none),(28,none),(29,none),(30,none),(31,none),(32,some [29,30]),(33,some []),(34,none),(35,none),(36,none),(37,none),(38,none),(39,none),(40,none),(41,none),(42,none),(43,none),(44,none),(45,none),(46,none),(48,none),(49,none),(47,some [48,49]),(50,some []),(51,none),(52,none),(53,none),(54,none),(56,none),(57,none),(55,some [56,57]),(58,some []),(59,none),(60,none),(61,some [])]⟩) .ret)),[.tmp 4]⟩
theorem is16:IsFnO Tryz.prog 16 ir16:=.of 0 (by kernel_rfl)
def ir23:IFn:=⟨37,sr [oX 4 0,oX 5 1,oX 6 2,oV 8 (.pointer none),oI 9 0] (.seq (.blk 0 (sr [oD 11 4 7,oD 12 6 6,oC 13 16 [.t 11,.t 12],oY 14 13,oM 10 14] (cd 10 (sr [oV 8 (.pointer none),oI 9 1] .ret) (sr [oF 16 4 2,oL 17 16,oP 18 (.mkf 37 [] [.t 5]),oC 19 36 [.t 17,.t 18],oY 20 19,oM 15 20] (cd 15 (sr [oV 8 (.pointer none),oI 9 54] .ret) (sr [oK 23 3 .lss 0,hM 25 3 23,hK 26 25 23 .gtr 1000,oO 27 23 26,oM 21 27] (cd 21 (sr [oV 8 (.pointer none),oI 9 5] .ret) .skip))))))) (sr [oF 28 6 0,oL 29 28,oC 30 38 [.t 29],oF 31 6 0,oS 31 30 1] (sr [oD 32 4 7,oD 33 6 6,oL 34 5,oP 35 (.bld #[zs,zs,zs,zs,zs,zi,zi,zs,zs,.int .u64 0,.int .u32 0,zi,zi,zi,.bool false,zs,zs] [(0,7),(7,6),(13,1),(14,1),(15,1),(16,1)] [(0,.t 32),(1,.t 33),(2,.t 34)]),oX 36 35,oM 8 36,oI 9 0] .ret))),[.tmp 8,.tmp 9]⟩
theorem is23:IsFnO Tryz.prog 23 ir23:=.of 20971648 (by kernel_rfl)
def ir24:IFn:=⟨226,.seq (.drw 13 ⟨[oM 6 0,oN 7 6,oF 8 7 0,oF 9 8 0,oL 10 9,oM 11 0,oN 12 11,oF 13 12 13,oL 14 13,oA 15 10 14 2,oD 16 15 2,oW 2 (.agg #[zi,zi]),oS 2 16 2],[],[(0,none),(1,none),(2,none),(3,none),(4,none),(5,none),(6,none),(7,none),(8,none),(9,none),(10,none),(11,none),(12,some [])]⟩) (sr [oN 18 0,oF 19 18 13,oL 20 19,oK 21 20 .add 1,oN 22 0,oF 23 22 13,oS 23 21 1] (sr [oF 24 2 0,oL 25 24] (.blk 0 (sr [oK 30 25 .eql 1,oM 29 30] (cd 29 (.reg [oF 32 2 1,oL 33 32,oC 34 39 [.t 0,.t 33]]) (sr [oK 36 25 .eql 2,oM 35 36] (cd 35 (.drw 11 (dQ [oM 37 0,oM 38 0,oN 39 38,oF 40 39 7,oF 41 40 0,oL 42 41,oF 43 2 1,oL 44 43,oA 45 42 44 1,oL 46 45,oC 47 39 [.t 37,.t 46]] 0)) (sr [oK 49 25 .eql 3,oM 48 49] (cd 48 (.drw 11 ⟨[oM 50 0,oN 51 50,oF 52 51 7,oF 53 52 0,oL 54 53,oF 55 2 1,oL 56 55,oM 57 0,oC 58 40 [.t 57],oA 59 54 56 1,oS 59 58 1],[],[(0,none),(1,none),(2,none),(3,none),(4,none),(5,none),(6,none),(7,none),(8,some [0,1,2,3,4,5,6]),(9,none),(10,some [])]⟩) (sr [oK 61 25 .eql 4,oM 60 61] (cd 60 (.drw 12 (dQ [oM 62 0,oM 63 0,oN 64 63,oF 65 64 7,oF 66 65 2,oL 67 66,oF 68 2 1,oL 69 68,oB 70 67 69 .shr,oP 71 (.bin .and (.t 70) (.k (.int .u64 1))),oP 72 (.cvi .i64 (.t 71)),oC 73 39 [.t 62,.t 72]] 0)) (sr [oK 75 25 .eql 5,oM 74 75] (cd 74 (.drw 12 (dQ [oM 76 0,oM 77 0,oN 78 77,oF 79 78 7,oF 80 79 3,oL 81 80,oF 82 2 1,oL 83 82,oB 84 81 83 .shr,oP 85 (.bin .and (.t 84) (.k (.int .u32 1))),oP 86 (.cvi .i64 (.t 85)),oC 87 39 [.t 76,.t 86]] 0)) (sr [oK 89 25 .eql 6,oM 88 89] (cd 88 (.drw 11 (dQ [oM 90 0,oM 91 0,oN 92 91,oF 93 92 7,oF 94 93 1,oL 95 94,oF 96 2 1,oL 97 96,oA 98 95 97 1,oL 99 98,oC 100 39 [.t 90,.t 99]] 0)) (sr [oK 102 25 .eql 7,oM 101 102] (cd 101 (.reg [oN 105 0,oF 106 105 7,oF 107 106 4,oL 108 107,oC 109 39 [.t 0,.t 108]]) (sr [oK 111 25 .eql 8,oM 110 111] (cd 110 (.reg [oN 114 0,oF 115 114 7,oF 116 115 5,oL 117 116,oC 118 39 [.t 0,.t 117]]) (sr [oK 120 25 .eql 9,oM 119 120] (cd 119 (.reg [oC 123 40 [.t 0],oC 124 41 [.k (.int .i64 10),.t 123],oC 125 39 [.t 0,.t 124]]) (sr [oK 127 25 .eql 10,oM 126 127] (cd 126 (.reg [oC 130 40 [.t 0],oC 131 41 [.k (.int .i64 11),.t 130],oC 132 39 [.t 0,.t 131]]) (sr [oK 134 25 .eql 11,oM 133 134] (cd 133 (sr [oC 136 40 [.t 0],oM 3 136] (.drw 8 ⟨[oM 137 0,oF 138 2 1,oL 139 138,oM 140 0,oC 141 40 [.t 140],oM 142 3,oC 143 42 [.t 139,.t 141,.t 142],oC 144 39 [.t 137,.t 143]],[],[(0,none),(1,none),(2,none),(3,none),(5,none),(4,some [0,1,2,5]),(6,some [0]),(7,some [])]⟩)) (sr [oK 146 25 .eql 12,oM 145 146] (cd 145 (.reg [oF 148 2 1,oL 149 148,oN 150 0,oF 151 150 13,oS 151 149 1]) (sr [oK 153 25 .eql 13,oM 152 153] (cd 152 (sr [oC 155 40 [.t 0],oK 156 155 .eql 0] (cd 156 (.reg [oF 158 2 1,oL 159 158,oN 160 0,oF 161 160 13,oS 161 159 1]) .skip)) (sr [oK 163 25 .eql 14,oM 162 163] (cd 162 (sr [oC 165 40 [.t 0],oM 4 165] (sr [oK 167 4 .leq 0] (cd 167 (.reg [oF 169 2 1,oL 170 169,oN 171 0,oF 172 171 13,oS 172 170 1]) (.reg [oK 175 4 .sub 1,oC 176 39 [.t 0,.t 175]])))) (.seq (sr [oK 178 25 .eql 15,oM 177 178] (cd 177 .skip (sr [oK 179 25 .eql 19,oM 177 179] (cd 177 .skip (.reg [oK 180 25 .eql 21,oM 177 180]))))) (cd 177 (.drw 5 ⟨[oM 181 0,oD 182 2 2,oM 183 0,oC 184 40 [.t 183],oC 185 43 [.t 181,.t 182,.t 184,.k zi]],[],[(0,none),(1,none),(2,none),(3,some [0,1]),(4,some [])]⟩) (sr [oK 187 25 .eql 20,oM 186 187] (cd 186 (sr [oC 189 40 [.t 0],oM 5 189] (.drw 6 ⟨[oM 190 0,oD 191 2 2,oM 192 0,oC 193 40 [.t 192],oM 194 5,oC 195 43 [.t 190,.t 191,.t 193,.t 194]],[],[(0,none),(1,none),(2,none),(4,none),(3,some [0,1,4]),(5,some [])]⟩)) (sr [oK 197 25 .eql 29,oM 196 197] (cd 196 (.drw 24 ⟨[oM 198 0,oM 199 0,oN 200 199,oF 201 200 16,oL 202 201,oF 203 2 0,oL 204 203,oM 205 0,oC 206 40 [.t 205],oM 207 0,oN 208 207,oF 209 208 0,oF 210 209 1,oL 211 210,oF 212 2 1,oL 213 212,oA 214 211 213 1,oL 215 214,oP 216 (.bld #[zi,zi,zi,zi,zt] [(0,1),(1,1),(2,1),(3,1),(4,1)] [(0,.t 204),(2,.t 206),(4,.t 215)]),⟨some 217,.new (.bsl 5 1 #[zi,zi,zi,zi,zt] [(0,.t 216)]),none⟩,oT 218 202 217 5 48,oN 219 198,oF 220 219 16,oS 220 218 1],[],[(0,none),(1,none),(2,none),(3,none),(4,none),(5,none),(6,none),(7,none),(9,none),(10,none),(11,none),(12,none),(13,none),(14,none),(15,none),(16,none),(17,none),(8,some [0,1,2,3,4,5,6,9,10,11,12,13,14,15,16,17]),(18,none),(19,none),(20,some [0]),(21,none),(22,none),(23,some [])]⟩) (sr [oK 222 25 .eql 31,oM 221 222] (cd 221 (.reg [oN 224 0,oF 225 224 14,⟨none,.eff (.st 1 (.t 225) (.k (.bool true))),none⟩]) (.reg [oD 27 2 2,oC 28 43 [.t 0,.t 27,.k zi,.k zi]])))))))))))))))))))))))))))))))))))))))),[]⟩
theorem is24:IsFnO Tryz.prog 24 ir24:=.of 13479973333967675164929666396999277975754967674566065254288878338050 (by kernel_rfl)
def ir25:IFn:=⟨24,sr [oW 2 (.agg #[zs,zs,zs,zs,zs,zi,zi]),oI 3 0,oI 4 0] (sr [oC 10 44 [.t 0],oE 11 10 0,oE 12 10 1,oE 13 10 2,oW 5 (.agg #[zs,zs]),oS 5 11 2,oM 6 12,oM 7 13] (.seq (sr [oK 15 7 .neq 0] (cd 15 (sr [oP 16 (.bld #[zs,zs,zs,zs,zs,zi,zi] [(0,1),(1,1),(2,1),(3,1),(4,1),(5,1),(6,1)] []),oS 2 16 7,oM 3 6,oM 4 7] .ret) .skip)) (sr [oD 19 5 2,oC 20 45 [.t 19],oE 21 20 0,oE 22 20 1,oE 23 20 2,oS 2 21 7,oM 3 22,oM 4 23] .ret))),[.cell 2 7 true,.tmp 3,.tmp 4]⟩
theorem is25:IsFnO Tryz.prog 25 ir25:=.of 410370 (by kernel_rfl)
def ir26:IFn:=⟨42,sr [oX 4 0,oI 8 0,oV 9 (.bool false)] (.seq (sr [oI 10 0] (.blk 0 (.loop (.seq (sr [oF 13 4 2,oL 14 13,oH 15 14,oB 16 10 15 .lss] (cd 16 .skip (.exit 0))) (.seq (.blk 1 (sr [oF 19 4 2,oL 20 19,oA 22 20 10 4,oD 23 22 4,oW 11 (.agg #[zi,zi,zi,zi]),oS 11 23 4] (sr [oF 24 11 0,oL 25 24,oB 27 25 1 .eql,gF 29 11 1 27,gL 30 29 27,gM 31 2 27,oG 32 (.bin .eql (.t 30) (.t 31)) 27,oJ 33 27 32,gF 35 11 2 33,gL 36 35 33,gM 37 3 33,oG 38 (.bin .eql (.t 36) (.t 37)) 33,oJ 39 33 38] (cd 39 (sr [oF 40 11 3,oL 41 40,oM 8 41,oV 9 (.bool true)] .ret) .skip)))) (.reg [oK 18 10 .add 1,oM 10 18])))))) (sr [oI 8 0,oV 9 (.bool false)] .ret)),[.tmp 8,.tmp 9]⟩
theorem is26:IsFnO Tryz.prog 26 ir26:=.of 17517646048 (by kernel_rfl)
def ir27:IFn:=⟨6,sr [oI 2 0] (sr [oP 4 (.mx (.t 0) (.k (.int .i64 (-2147483647)))),oP 5 (.mn (.t 4) (.k (.int .i64 2147483647))),oM 2 5] .ret),[.tmp 2]⟩
theorem is27:IsFnO Tryz.prog 27 ir27:=.of 10 (by kernel_rfl)
def ir30:IFn:=⟨4,sr [oX 1 0,oV 2 .nilFunc] (sr [oP 3 (.mkf 31 [] [.t 1]),oM 2 3] .ret),[.tmp 2]⟩
theorem is30:IsFnO Tryz.prog 30 ir30:=.of 0 (by kernel_rfl)
def ir31:IFn:=⟨11,sr [oV 3 (.bool false)] (sr [oL 5 1,oB 6 0 5 .lss,hM 8 0 6,hK 9 8 6 .gtr 2147483647,oO 10 6 9,oM 3 10] .ret),[.tmp 3]⟩
theorem is31:IsFnO Tryz.prog 31 ir31:=.of 148 (by kernel_rfl)
def ir32:IFn:=⟨11,sr [oX 1 0,oI 2 0] (sr [oD 6 1 7,oC 7 48 [.t 6],oE 8 7 0,oE 9 7 1,oM 4 9] (sr [oM 2 4] .ret)),[.tmp 2]⟩
theorem is32:IsFnO Tryz.prog 32 ir32:=.of 1064 (by kernel_rfl)
def ir33:IFn:=⟨9,sr [oV 4 (.bool false)] (sr [oC 7 49 [.t 0,.t 1],oK 8 7 .geq 0,oM 4 8] .ret),[.tmp 4]⟩
theorem is33:IsFnO Tryz.prog 33 ir33:=.of 108 (by kernel_rfl)
def ir36:IFn:=⟨9,sr [oV 4 (.bool false)] (sr [oC 7 55 [.t 0,.t 1],oK 8 7 .geq 0,oM 4 8] .ret),[.tmp 4]⟩
theorem is36:IsFnO Tryz.prog 36 ir36:=.of 108 (by kernel_rfl)
def ir37:IFn:=⟨8,sr [oX 2 0,oV 3 (.bool false)] (sr [oF 4 2 3,oL 5 4,oL 6 1,oB 7 5 6 .eql,oM 3 7] .ret),[.tmp 3]⟩
theorem is37:IsFnO Tryz.prog 37 ir37:=.of 0 (by kernel_rfl)
def ir38:IFn:=⟨8,sr [oV 2 zs] (.seq (sr [oP 4 (.eqn false 1 (.t 0) (.k zs))] (cd 4 (sr [oV 2 zs] .ret) .skip)) (sr [⟨some 5,.new (.bsl 1 0 #[zi] []),none⟩,oT 7 5 0 1 8,oM 2 7] .ret)),[.tmp 2]⟩
theorem is38:IsFnO Tryz.prog 38 ir38:=.of 74 (by kernel_rfl)
def ir39:IFn:=⟨14,.reg [oN 6 0,oF 7 6 15,oL 8 7,⟨some 10,.new (.bsl 1 1 #[zi] [(0,.t 1)]),none⟩,oT 11 8 10 1 8,oN 12 0,oF 13 12 15,oS 13 11 1],[]⟩
theorem is39:IsFnO Tryz.prog 39 ir39:=.of 572 (by kernel_rfl)
def ir40:IFn:=⟨31,sr [oI 2 0] (.seq (.drw 13 (dQ [oM 4 0,oN 5 4,oF 6 5 15,oL 7 6,oM 8 0,oN 9 8,oF 10 9 15,oL 11 10,oH 12 11,oK 13 12 .sub 1,oA 14 7 13 1,oL 15 14,oM 3 15] 4096)) (.seq (.drw 15 (dQ [oM 16 0,oM 17 0,oN 18 17,oF 19 18 15,oL 20 19,oM 21 0,oN 22 21,oF 23 22 15,oL 24 23,oH 25 24,oK 26 25 .sub 1,oP 27 (.slc 1 (.t 20) none (some (.t 26))),oN 28 16,oF 29 28 15,oS 29 27 1] 0)) (sr [oM 2 3] .ret))),[.tmp 2]⟩
theorem is40:IsFnO Tryz.prog 40 ir40:=.of 1073741826 (by kernel_rfl)
def ir41:IFn:=⟨17,sr [oI 4 0] (sr [oC 6 27 [.t 1],oM 1 6] (.seq (sr [oM 7 0] (.blk 0 (sr [oK 9 7 .eql 10,oM 8 9] (cd 8 (sr [oP 11 (.un .neg (.t 1)),oM 4 11] .ret) (sr [oK 13 7 .eql 11,oM 12 13] (cd 12 (sr [oK 15 1 .eql 0,oC 16 56 [.t 15],oM 4 16] .ret) .skip)))))) (sr [oI 4 0] .ret))),[.tmp 4]⟩
theorem is41:IsFnO Tryz.prog 41 ir41:=.of 17452 (by kernel_rfl)
def ir42:IFn:=⟨98,sr [oI 6 0] (sr [oC 8 27 [.t 1],oC 10 27 [.t 2],oM 1 8,oM 2 10] (.seq (sr [oM 11 0] (.blk 0 (sr [oK 13 11 .eql 12,oM 12 13] (cd 12 (sr [oB 16 1 2 .mul,oC 17 27 [.t 16],oM 6 17] .ret) (sr [oK 19 11 .eql 13,oM 18 19] (cd 18 (sr [oK 21 2 .neq 0] (cd 21 (sr [oB 24 1 2 .quo,oM 6 24] .ret) .skip)) (sr [oK 26 11 .eql 14,oM 25 26] (cd 25 (sr [oK 28 2 .neq 0] (cd 28 (sr [oB 31 1 2 .rem,oM 6 31] .ret) .skip)) (sr [oK 33 11 .eql 15,oM 32 33] (cd 32 (sr [oB 36 1 2 .add,oC 37 27 [.t 36],oM 6 37] .ret) (sr [oK 39 11 .eql 16,oM 38 39] (cd 38 (sr [oB 42 1 2 .sub,oC 43 27 [.t 42],oM 6 43] .ret) (sr [oK 45 11 .eql 17,oM 44 45] (cd 44 (sr [oB 48 1 2 .lss,oC 49 56 [.t 48],oM 6 49] .ret) (sr [oK 51 11 .eql 18,oM 50 51] (cd 50 (sr [oB 54 1 2 .leq,oC 55 56 [.t 54],oM 6 55] .ret) (sr [oK 57 11 .eql 19,oM 56 57] (cd 56 (sr [oB 60 1 2 .gtr,oC 61 56 [.t 60],oM 6 61] .ret) (sr [oK 63 11 .eql 20,oM 62 63] (cd 62 (sr [oB 66 1 2 .geq,oC 67 56 [.t 66],oM 6 67] .ret) (sr [oK 69 11 .eql 21,oM 68 69] (cd 68 (sr [oB 72 1 2 .eql,oC 73 56 [.t 72],oM 6 73] .ret) (sr [oK 75 11 .eql 22,oM 74 75] (cd 74 (sr [oB 78 1 2 .neq,oC 79 56 [.t 78],oM 6 79] .ret) (sr [oK 81 11 .eql 23,oM 80 81] (cd 80 (sr [oK 83 1 .neq 0,gM 85 2 83,gK 86 85 83 .neq 0,oJ 87 83 86,oC 88 56 [.t 87],oM 6 88] .ret) (sr [oK 90 11 .eql 24,oM 89 90] (cd 89 (sr [oK 92 1 .neq 0,hM 94 2 92,hK 95 94 92 .neq 0,oO 96 92 95,oC 97 56 [.t 96],oM 6 97] .ret) .skip)))))))))))))))))))))))))))) (sr [oI 6 0] .ret))),[.tmp 6]⟩
theorem is42:IsFnO Tryz.prog 42 ir42:=.of 12403809180830783834220970680 (by kernel_rfl)
def ir43:IFn:=⟨24,sr [oX 5 1] (.drw 17 ⟨[oM 8 0,oM 9 0,oN 10 9,oF 11 10 16,oL 12 11,oF 13 5 0,oL 14 13,oF 15 5 1,oL 16 15,oM 17 2,oM 18 3,oP 19 (.bld #[zi,zi,zi,zi,zt] [(0,1),(1,1),(2,1),(3,1),(4,1)] [(0,.t 14),(1,.t 16),(2,.t 17),(3,.t 18)]),⟨some 20,.new (.bsl 5 1 #[zi,zi,zi,zi,zt] [(0,.t 19)]),none⟩,oT 21 12 20 5 48,oN 22 8,oF 23 22 16,oS 23 21 1],[],[(0,none),(1,none),(2,none),(3,none),(4,none),(5,none),(6,none),(7,none),(8,none),(9,none),(10,none),(11,none),(12,none),(13,some [0]),(14,none),(15,none),(16,some [])]⟩),[]⟩
theorem is43:IsFnO Tryz.prog 43 ir43:=.of 208 (by kernel_rfl)
def ir44:IFn:=⟨41,sr [oW 2 (.agg #[zs,zs]),oI 3 0,oI 4 0] (sr [oC 12 57 [.t 0],oE 13 12 0,oE 14 12 1,oE 15 12 2,oM 5 13,oM 6 14,oM 7 15] (.seq (sr [oK 17 7 .neq 0] (cd 17 (sr [oP 18 (.bld #[zs,zs] [(0,1),(1,1)] []),oS 2 18 2,oM 3 6,oM 4 7] .ret) .skip)) (sr [oP 23 (.lens (.t 0)),oP 24 (.bld #[zs,zi,zi,zi,zi,zi,zi] [(0,1),(1,1),(2,1),(3,1),(4,1),(5,1),(6,1)] [(0,.t 5),(1,.t 23)]),oX 25 24,oM 8 25] (sr [oC 27 58 [.t 8],oW 9 (.agg #[zs,zs]),oS 9 27 2] (.seq (sr [oC 29 59 [.t 8],oY 30 29] (cd 30 (.seq (.drw 12 ⟨[oP 31 (.bld #[zs,zs] [(0,1),(1,1)] []),oM 32 8,oN 33 32,oF 34 33 4,oL 35 34,oM 36 8,oN 37 36,oF 38 37 3,oL 39 38,oS 2 31 2,oM 3 35,oM 4 39],[],[(0,none),(1,none),(2,none),(3,none),(4,none),(5,none),(6,none),(7,none),(8,none),(9,some [1,2,3,4,5,6,7,8]),(10,some [5,6,7,8]),(11,some [])]⟩) .ret) .skip)) (sr [oD 40 9 2,oS 2 40 2,oI 3 0,oI 4 0] .ret)))))),[.cell 2 2 true,.tmp 3,.tmp 4]⟩
theorem is44:IsFnO Tryz.prog 44 ir44:=.of 343477250 (by kernel_rfl)
def ir45:IFn:=⟨184,sr [oX 1 0,oW 2 (.agg #[zs,zs,zs,zs,zs,zi,zi]),oI 3 0,oI 4 0] (.seq (sr [oD 20 1 2,oC 21 60 [.t 20],oE 22 21 0,oE 23 21 1,oM 5 22,oM 6 23] (sr [oK 25 6 .neq 0] (cd 25 (sr [oP 26 (.bld #[zs,zs,zs,zs,zs,zi,zi] [(0,1),(1,1),(2,1),(3,1),(4,1),(5,1),(6,1)] []),oS 2 26 7,oM 3 5,oM 4 6] .ret) .skip))) (sr [oD 29 1 2,oP 30 (.bld #[zs,zs,zs,zs] [(0,2),(2,1),(3,1)] [(0,.t 29)]),oX 31 30,oM 7 31] (.seq (.drw 7 ⟨[oD 32 1 2,oC 33 61 [.t 32,.k (.int .i64 7)],oD 34 1 2,oC 35 61 [.t 34,.k (.int .i64 8)],oP 36 (.bld #[zs,zs,zs,zs,zs,zi,zi] [(0,1),(1,1),(2,1),(3,1),(4,1),(5,1),(6,1)] [(5,.t 33),(6,.t 35)]),oW 8 (.agg #[zs,zs,zs,zs,zs,zi,zi]),oS 8 36 7],[],[(0,none),(2,none),(5,none),(1,some [2,5]),(3,some [5]),(4,none),(6,some [])]⟩) (.seq (sr [oI 9 0] (.blk 0 (.loop (.seq (sr [oF 38 1 0,oL 39 38,oH 40 39,oB 41 9 40 .lss] (cd 41 .skip (.exit 0))) (.seq (.blk 1 (sr [oF 44 1 0,oL 45 44,oA 47 45 9 4,oF 48 47 0,oL 49 48,oK 50 49 .eql 6] (cd 50 (.drw 12 ⟨[oF 51 8 4,oL 52 51,oF 53 1 0,oL 54 53,oM 55 9,oA 56 54 55 4,oF 57 56 2,oL 58 57,⟨some 59,.new (.bsl 1 1 #[zi] [(0,.t 58)]),none⟩,oT 60 52 59 1 8,oF 61 8 4,oS 61 60 1],[],[(0,none),(1,none),(2,none),(3,none),(4,none),(5,none),(6,none),(7,none),(8,none),(9,some []),(10,none),(11,some [])]⟩) .skip))) (.reg [oK 43 9 .add 1,oM 9 43])))))) (.seq (sr [oI 10 0] (.blk 2 (.loop (.seq (sr [oF 63 1 1,oL 64 63,oH 65 64,oB 66 10 65 .lss] (cd 66 .skip (.exit 2))) (.seq (.blk 3 (.seq (.drw 12 ⟨[oF 69 8 3,oL 70 69,oF 71 1 1,oL 72 71,oM 73 10,oA 74 72 73 4,oF 75 74 1,oL 76 75,⟨some 77,.new (.bsl 1 1 #[zi] [(0,.t 76)]),none⟩,oT 78 70 77 1 8,oF 79 8 3,oS 79 78 1],[],[(0,none),(1,none),(2,none),(3,none),(4,none),(5,none),(6,none),(7,none),(8,none),(9,some []),(10,none),(11,some [])]⟩) (sr [oF 80 1 1,oL 81 80,oA 83 81 10 4,oF 84 83 2,oL 85 84,oM 11 85] (sr [oH 87 11,⟨some 88,.new (.msl 1 8 #[zi] (.t 87) (.t 87)),none⟩,oM 12 88] (.seq (sr [oI 13 0] (.blk 4 (.loop (.seq (sr [oH 91 11,oB 92 13 91 .lss] (cd 92 .skip (.exit 4))) (.seq (.blk 5 (.reg [oA 100 11 13 4,oD 101 100 4,oC 102 62 [.t 7,.t 101],oA 103 12 13 1,oS 103 102 1])) (.reg [oK 94 13 .add 1,oM 13 94])))))) (sr [oI 14 1] (.blk 6 (.loop (.seq (sr [oK 105 14 .leq 6] (cd 105 .skip (.exit 6))) (.seq (.blk 7 (sr [oI 15 0] (.blk 8 (.loop (.seq (sr [oK 109 15 .lss 128] (cd 109 .skip (.exit 8))) (.seq (.blk 9 (sr [oN 113 7,oF 114 113 2,oL 115 114,oH 116 115,oM 16 116,oV 17 (.bool false)] (.seq (sr [oI 18 0] (.blk 10 (.loop (.seq (sr [oH 119 11,oB 120 18 119 .lss] (cd 120 .skip (.exit 10))) (.seq (.blk 11 (sr [oA 125 11 18 4,oF 126 125 0,oL 127 126,oB 129 127 14 .eql,gM 131 12 129,gM 132 18 129,oG 133 (.iad 1 (.t 131) (.t 132)) 129,gL 134 133 129,gM 135 15 129,oG 136 (.bin .eql (.t 134) (.t 135)) 129,oJ 137 129 136] (cd 137 (sr [oA 141 11 18 4,oF 142 141 2,oL 143 142,oC 144 63 [.t 7,.t 143]] (.reg [oV 17 (.bool true)])) .skip))) (.reg [oK 122 18 .add 1,oM 18 122])))))) (sr [oM 145 17] (cd 145 (sr [oC 147 64 [.t 7,.k (.int .i64 31),.k zi]] (.reg [oF 148 8 2,oL 149 148,oP 154 (.bld #[zi,zi,zi,zi] [(0,1),(1,1),(2,1),(3,1)] [(0,.t 10),(1,.t 14),(2,.t 15),(3,.t 16)]),⟨some 155,.new (.bsl 4 1 #[zi,zi,zi,zi] [(0,.t 154)]),none⟩,oT 156 149 155 4 32,oF 157 8 2,oS 157 156 1])) .skip))))) (.reg [oK 111 15 .add 1,oM 15 111]))))))) (.reg [oK 107 14 .add 1,oM 14 107]))))))))))) (.reg [oK 68 10 .add 1,oM 10 68])))))) (.seq (sr [oN 159 7,oF 160 159 2,oL 161 160,oH 162 161,oK 163 162 .gtr 4000,hM 165 7 163,hN 166 165 163,hF 167 166 3 163,hL 168 167 163,oR 169 (.len (.t 168)) 163,hK 170 169 163 .gtr 200,oO 171 163 170] (cd 171 (sr [oP 172 (.bld #[zs,zs,zs,zs,zs,zi,zi] [(0,1),(1,1),(2,1),(3,1),(4,1),(5,1),(6,1)] []),oS 2 172 7,oI 3 0,oI 4 9] .ret) .skip)) (.seq (.drw 12 ⟨[oM 173 7,oN 174 173,oF 175 174 2,oL 176 175,oM 177 7,oN 178 177,oF 179 178 3,oL 180 179,oF 181 8 0,oS 181 176 1,oF 182 8 1,oS 182 180 1],[],[(0,none),(1,none),(2,none),(3,none),(4,none),(5,none),(6,none),(7,none),(8,none),(9,some [4,5,6,7]),(10,none),(11,some [])]⟩) (sr [oD 183 8 7,oS 2 183 7,oI 3 0,oI 4 0] .ret)))))))),[.cell 2 7 true,.tmp 3,.tmp 4]⟩
theorem is45:IsFnO Tryz.prog 45 ir45:=.of 23770901965879039171340298544660171528809738665984 (by kernel_rfl)
def ir48:IFn:=⟨47,sr [oX 1 0,oV 2 zs,oI 3 0] (.seq (.blk 0 (sr [oD 8 1 7,oC 9 70 [.t 8],oY 10 9,oM 7 10] (cd 7 (sr [oV 2 zs,oI 3 9] .ret) (sr [oD 12 1 7,oC 13 71 [.t 12],oY 14 13,oM 11 14] (cd 11 (sr [oV 2 zs,oI 3 51] .ret) (sr [oD 16 1 7,oC 17 72 [.t 16],oY 18 17,oM 15 18] (cd 15 (sr [oV 2 zs,oI 3 54] .ret) .skip))))))) (.seq (sr [oI 4 1] (.blk 1 (.loop (.seq (sr [oF 20 1 2,oL 21 20,oH 22 21,oB 23 4 22 .lss] (cd 23 .skip (.exit 1))) (.seq (.blk 2 (.seq (.drw 13 (dQ [oF 26 1 2,oL 27 26,oM 28 4,oK 29 28 .sub 1,oA 30 27 29 4,oD 31 30 4,oF 32 1 2,oL 33 32,oM 34 4,oA 35 33 34 4,oD 36 35 4,oC 37 73 [.t 31,.t 36],oY 38 37] 0)) (cd 38 (sr [oV 2 zs,oI 3 66] .ret) .skip))) (.reg [oK 25 4 .add 1,oM 4 25])))))) (sr [oD 40 1 7,oC 41 74 [.t 40],oE 42 41 0,oE 43 41 1,oM 5 42,oM 6 43] (.seq (sr [oY 45 6] (cd 45 (sr [oV 2 zs,oI 3 53] .ret) .skip)) (sr [oM 2 5,oI 3 0] .ret))))),[.tmp 2,.tmp 3]⟩
theorem is48:IsFnO Tryz.prog 48 ir48:=.of 88510703337472 (by kernel_rfl)
def ir49:IFn:=⟨19,sr [oI 4 0] (.seq (sr [oH 7 0,oI 8 0] (.blk 0 (.loop (sr [oB 9 8 7 .lss] (.seq (cd 9 .skip (.exit 0)) (.seq (.blk 1 (sr [oM 5 8] (sr [oA 14 0 5 1,oL 15 14,⟨some 16,.callv (.t 1) [.t 15],none⟩] (cd 16 (sr [oM 4 5] .ret) .skip)))) (.reg [oK 18 8 .add 1,oM 8 18]))))))) (sr [oI 4 (-1)] .ret)),[.tmp 4]⟩
theorem is49:IsFnO Tryz.prog 49 ir49:=.of 146508 (by kernel_rfl)
def ir55:IFn:=⟨19,sr [oI 4 0] (.seq (sr [oH 7 0,oI 8 0] (.blk 0 (.loop (sr [oB 9 8 7 .lss] (.seq (cd 9 .skip (.exit 0)) (.seq (.blk 1 (sr [oM 5 8] (sr [oA 14 0 5 4,oD 15 14 4,⟨some 16,.callv (.t 1) [.t 15],none⟩] (cd 16 (sr [oM 4 5] .ret) .skip)))) (.reg [oK 18 8 .add 1,oM 8 18]))))))) (sr [oI 4 (-1)] .ret)),[.tmp 4]⟩
theorem is55:IsFnO Tryz.prog 55 ir55:=.of 146508 (by kernel_rfl)
def ir56:IFn:=⟨4,sr [oI 2 0] (.seq (sr [oM 3 0] (cd 3 (sr [oI 2 1] .ret) .skip)) (sr [oI 2 0] .ret)),[.tmp 2]⟩
theorem is56:IsFnO Tryz.prog 56 ir56:=.of 2 (by kernel_rfl)
def ir57:IFn:=⟨39,sr [oV 2 zs,oI 3 0,oI 4 0] (.seq (sr [oP 11 (.lens (.t 0)),oK 12 11 .gtr 20000] (cd 12 (sr [oV 2 zs,oI 3 0,oI 4 9] .ret) .skip)) (sr [oV 5 zs] (.seq (sr [oC 14 80 [.t 0,.k zi],oM 6 14] (.blk 0 (.loop (.seq (sr [oP 17 (.lens (.t 0)),oB 18 6 17 .lss] (cd 18 .skip (.exit 0))) (.seq (.blk 1 (sr [oC 25 81 [.t 0,.t 6],oE 26 25 0,oE 27 25 1,oE 28 25 2,oW 7 (.agg #[zi,zt,zi,zi]),oS 7 26 4,oM 8 27,oM 9 28] (.seq (sr [oK 30 9 .neq 0] (cd 30 (sr [oV 2 zs,oM 3 6,oM 4 9] .ret) .skip)) (sr [oD 34 7 4,⟨some 35,.new (.bsl 4 1 #[zi,zt,zi,zi] [(0,.t 34)]),none⟩,oT 36 5 35 4 40,oM 5 36] (.reg [oM 6 8]))))) (.reg [oC 21 80 [.t 0,.t 6],oM 6 21])))))) (sr [oM 2 5,oI 3 0,oI 4 0] .ret)))),[.tmp 2,.tmp 3,.tmp 4]⟩
theorem is57:IsFnO Tryz.prog 57 ir57:=.of 427917157378 (by kernel_rfl)
def ir58:IFn:=⟨65,sr [oW 2 (.agg #[zs,zs])] (sr [oW 3 (.agg #[zs,zs])] (.seq (sr [oC 6 83 [],oC 7 82 [.t 0,.t 6],oM 4 7] (.blk 0 (.loop (.seq (sr [oK 9 4 .geq 0] (cd 9 .skip (.exit 0))) (.seq (.blk 1 (sr [oF 14 3 0,oL 15 14,oH 16 15,oK 17 16 .add 1,oC 18 84 [.t 0,.t 17,.k (.int .i64 128),.k (.int .i64 9)]] (sr [oC 20 59 [.t 0]] (cd 20 (.drw 9 ⟨[oF 21 3 0,oL 22 21,oM 23 0,oM 24 4,oC 25 85 [.t 23,.t 24],⟨some 26,.new (.bsl 4 1 #[zi,zt,zi,zi] [(0,.t 25)]),none⟩,oT 27 22 26 4 40,oF 28 3 0,oS 28 27 1],[],[(0,none),(1,none),(2,none),(3,none),(4,some [0,1]),(5,none),(6,some []),(7,none),(8,some [])]⟩) .skip)))) (.reg [oC 11 83 [],oC 12 82 [.t 0,.t 11],oM 4 12])))))) (.seq (.blk 2 (.loop (.seq (.seq (.drw 14 (dQ [oM 29 0,oC 30 59 [.t 29],oM 31 30,gM 32 0 31,gN 33 32 31,gF 34 33 2 31,gL 35 34 31,gM 36 0 31,gN 37 36 31,gF 38 37 0 31,gL 39 38 31,oG 40 (.len (.t 39)) 31,oG 41 (.bin .lss (.t 35) (.t 40)) 31,oJ 42 31 41] 0)) (cd 42 .skip (.exit 2))) (.blk 3 (.seq (sr [oC 44 86 [.t 0,.k (.string ⟨#[109,111,100,101]⟩)],oY 45 44] (cd 45 (sr [oC 47 87 [.t 0]] (sr [oD 48 3 2,oS 2 48 2] .ret)) .skip)) (sr [oF 50 3 1,oL 51 50,oH 52 51,oK 53 52 .add 1,oC 54 84 [.t 0,.t 53,.k (.int .i64 16),.k (.int .i64 9)]] (sr [oC 56 59 [.t 0]] (cd 56 (.drw 8 ⟨[oF 57 3 1,oL 58 57,oM 59 0,oC 60 88 [.t 59],⟨some 61,.new (.bsl 4 1 #[zt,zi,zs,zi] [(0,.t 60)]),none⟩,oT 62 58 61 4 56,oF 63 3 1,oS 63 62 1],[],[(0,none),(1,none),(2,none),(3,some [0,1]),(4,none),(5,some []),(6,none),(7,some [])]⟩) .skip)))))))) (sr [oD 64 3 2,oS 2 64 2] .ret)))),[.cell 2 2 true]⟩
theorem is58:IsFnO Tryz.prog 58 ir58:=.of 36670911810118946 (by kernel_rfl)
def ir59:IFn:=⟨8,sr [oV 2 (.bool false)] (sr [oN 4 0,oF 5 4 3,oL 6 5,oK 7 6 .eql 0,oM 2 7] .ret),[.tmp 2]⟩
theorem is59:IsFnO Tryz.prog 59 ir59:=.of 10 (by kernel_rfl)
def ir60:IFn:=⟨113,sr [oX 1 0,oI 2 0,oI 3 0] (.seq (sr [oD 13 1 2,oC 14 89 [.t 13],oY 15 14] (cd 15 (sr [oI 2 0,oI 3 1] .ret) .skip)) (.seq (sr [oD 17 1 2,oC 18 90 [.t 17],oE 19 18 0,oE 20 18 1,oM 4 19,oM 5 20] (sr [oK 22 5 .neq 0] (cd 22 (sr [oM 2 4,oM 3 5] .ret) .skip))) (.seq (sr [oI 6 0] (.blk 0 (.loop (.seq (sr [oF 26 1 1,oL 27 26,oH 28 27,oB 29 6 28 .lss] (cd 29 .skip (.exit 0))) (.seq (.blk 1 (sr [oF 32 1 1,oL 33 32,oA 35 33 6 4,oF 36 35 2,oL 37 36,oM 7 37] (sr [oI 8 0] (.blk 2 (.loop (.seq (sr [oH 40 7,oB 41 8 40 .lss] (cd 41 .skip (.exit 2))) (.seq (.blk 3 (.seq (.seq (.drw 14 ⟨[oD 44 1 2,oM 45 7,oM 46 8,oA 47 45 46 4,oF 48 47 1,oL 49 48,oM 50 7,oM 51 8,oA 52 50 51 4,oF 53 52 0,oL 54 53,oC 55 92 [.t 54],oC 56 91 [.t 44,.t 49,.t 55],oM 9 56],[],[(0,none),(1,none),(2,none),(3,none),(4,none),(5,none),(6,none),(7,none),(8,none),(9,none),(10,none),(11,some [0,1,2,3,4,5]),(12,some []),(13,some [])]⟩) (sr [oK 58 9 .neq 0] (cd 58 (sr [oA 61 7 8 4,oF 62 61 3,oL 63 62,oM 2 63,oM 3 9] .ret) .skip))) (.seq (sr [oI 10 0] (.blk 4 (.loop (.seq (sr [oB 67 10 8 .lss] (cd 67 .skip (.exit 4))) (.seq (.blk 5 (.seq (.drw 24 (dQ [oM 70 7,oM 71 10,oA 72 70 71 4,oF 73 72 0,oL 74 73,oM 75 7,oM 76 8,oA 77 75 76 4,oF 78 77 0,oL 79 78,oB 80 74 79 .eql,oM 81 80,gM 82 7 81,gM 83 10 81,oG 84 (.iad 4 (.t 82) (.t 83)) 81,gF 85 84 1 81,gL 86 85 81,gM 87 7 81,gM 88 8 81,oG 89 (.iad 4 (.t 87) (.t 88)) 81,gF 90 89 1 81,gL 91 90 81,oG 92 (.bin .eql (.t 86) (.t 91)) 81,oJ 93 81 92] 0)) (cd 93 (sr [oA 96 7 8 4,oF 97 96 3,oL 98 97,oM 2 98,oI 3 7] .ret) .skip))) (.reg [oK 69 10 .add 1,oM 10 69])))))) (.seq (.drw 12 ⟨[oD 100 1 2,oM 101 7,oM 102 8,oA 103 101 102 4,oF 104 103 2,oL 105 104,oC 106 93 [.t 100,.t 105],oM 99 106,oE 107 99 0,oE 108 99 1,oM 11 107,oM 12 108],[],[(0,none),(1,none),(2,none),(3,none),(4,none),(5,none),(6,some []),(7,none),(8,none),(9,none),(10,some [9]),(11,some [])]⟩) (sr [oK 110 12 .neq 0] (cd 110 (sr [oM 2 11,oM 3 12] .ret) .skip)))))) (.reg [oK 43 8 .add 1,oM 8 43])))))))) (.reg [oK 31 6 .add 1,oM 6 31])))))) (sr [oI 2 0,oI 3 0] .ret)))),[.tmp 2,.tmp 3]⟩
theorem is60:IsFnO Tryz.prog 60 ir60:=.of 8437541816241406743231632993484800 (by kernel_rfl)
def ir61:IFn:=⟨11,sr [oX 2 0,oI 4 0] (.seq (sr [oD 5 2 2,oC 6 89 [.t 5],oY 7 6] (cd 7 (sr [oI 4 0] .ret) .skip)) (sr [oD 8 2 2,oC 10 94 [.t 8,.t 1],oM 4 10] .ret)),[.tmp 4]⟩
theorem is61:IsFnO Tryz.prog 61 ir61:=.of 520 (by kernel_rfl)
def ir62:IFn:=⟨17,sr [oX 3 1,oI 4 0] (.seq (sr [oF 5 3 0,oL 6 5,oK 7 6 .eql 1,hF 9 3 0 7,hL 10 9 7,hK 11 10 7 .eql 2,oO 12 7 11] (cd 12 (sr [oI 4 0] .ret) .skip)) (sr [oF 14 3 1,oL 15 14,oC 16 95 [.t 0,.t 15],oM 4 16] .ret)),[.tmp 4]⟩
theorem is62:IsFnO Tryz.prog 62 ir62:=.of 8452 (by kernel_rfl)
def ir63:IFn:=⟨17,sr [oI 4 0] (.blk 0 (.loop (.seq (sr [oH 7 1,oB 8 4 7 .lss] (cd 8 .skip (.exit 0))) (.seq (.blk 1 (.reg [oA 14 1 4 7,oD 15 14 7,oC 16 96 [.t 0,.t 15]])) (.reg [oK 10 4 .add 1,oM 4 10]))))),[]⟩
theorem is63:IsFnO Tryz.prog 63 ir63:=.of 14956 (by kernel_rfl)
def ir64:IFn:=⟨25,sr [oI 6 0] (sr [oN 9 0,oF 10 9 2,oL 11 10,oP 14 (.bld #[zi,zi] [(0,1),(1,1)] [(0,.t 1),(1,.t 2)]),⟨some 15,.new (.bsl 2 1 #[zi,zi] [(0,.t 14)]),none⟩,oT 16 11 15 2 16,oN 17 0,oF 18 17 2,oS 18 16 1] (sr [oN 20 0,oF 21 20 2,oL 22 21,oH 23 22,oK 24 23 .sub 1,oM 6 24] .ret)),[.tmp 6]⟩
theorem is64:IsFnO Tryz.prog 64 ir64:=.of 537016 (by kernel_rfl)
def ir70:IFn:=⟨41,sr [oX 1 0,oV 2 (.bool false)] (sr [oF 3 1 0,oL 4 3,oH 5 4,oK 6 5 .leq 4000,gF 8 1 1 6,gL 9 8 6,oG 10 (.len (.t 9)) 6,gK 11 10 6 .leq 200,oJ 12 6 11,gF 14 1 2 12,gL 15 14 12,oG 16 (.len (.t 15)) 12,gK 17 16 12 .leq 512,oJ 18 12 17,gF 20 1 3 18,gL 21 20 18,oG 22 (.len (.t 21)) 18,gK 23 22 18 .leq 16,oJ 24 18 23,gF 26 1 4 24,gL 27 26 24,oG 28 (.len (.t 27)) 24,gK 29 28 24 .leq 128,oJ 30 24 29,gF 32 1 5 30,gL 33 32 30,⟨some 34,.call 98 [.t 33,.k zi,.k (.int .i64 128)],some (30,true)⟩,oJ 35 30 34,gF 37 1 6 35,gL 38 37 35,⟨some 39,.call 98 [.t 38,.k zi,.k (.int .i64 128)],some (35,true)⟩,oJ 40 35 39,oM 2 40] .ret),[.tmp 2]⟩
theorem is70:IsFnO Tryz.prog 70 ir70:=.of 70901047424 (by kernel_rfl)
def ir71:IFn:=⟨59,sr [oX 1 0,oV 2 (.bool false)] (sr [oF 8 1 1,oL 9 8,oC 10 99 [.t 9,.f 100],hF 12 1 3 10,hL 13 12 10,⟨some 14,.call 33 [.t 13,.f 102],some (10,false)⟩,oO 15 10 14,hF 17 1 4 15,hL 18 17 15,⟨some 19,.call 33 [.t 18,.f 103],some (15,false)⟩,oO 20 15 19,hF 22 1 2 20,hL 23 22 20,oR 24 (.mkf 104 [] [.t 1]) 20,⟨some 25,.call 36 [.t 23,.t 24],some (20,false)⟩,oO 26 20 25,oM 3 26] (.seq (sr [oF 27 1 0,oL 28 27,oH 29 28,oI 30 0] (.blk 0 (.loop (sr [oB 31 30 29 .lss] (.seq (cd 31 .skip (.exit 0)) (.seq (.blk 1 (sr [oA 32 28 30 2,oD 33 32 2,oW 5 (.agg #[zi,zi]),oS 5 33 2] (sr [oD 35 1 7,oF 36 5 0,oL 37 36,oC 38 106 [.t 35,.t 37],oE 39 38 0,oE 40 38 1,oM 6 39,oM 7 40] (.reg [hF 43 5 0 3,hL 44 43 3,⟨some 45,.call 107 [.t 44],some (3,false)⟩,oR 46 (.un .not (.t 45)) 3,hM 47 46 3,gF 48 5 1 47,gL 49 48 47,gM 50 6 47,gM 51 7 47,⟨some 52,.call 98 [.t 49,.t 50,.t 51],some (47,true)⟩,oG 53 (.un .not (.t 52)) 47,oR 54 (.pick (.t 47) (.t 53) (.k (.bool false))) 3,oO 55 3 54,oM 3 55])))) (.reg [oK 56 30 .add 1,oM 30 56]))))))) (sr [oY 58 3,oM 2 58] .ret))),[.tmp 2]⟩
theorem is71:IsFnO Tryz.prog 71 ir71:=.of 144121802327656464 (by kernel_rfl)
def ir72:IFn:=⟨31,sr [oX 1 0,oV 2 (.bool false)] (.seq (sr [oF 5 1 0,oL 6 5,oH 7 6,oI 8 0] (.blk 0 (.loop (sr [oB 9 8 7 .lss] (.seq (cd 9 .skip (.exit 0)) (.seq (.blk 1 (sr [oA 10 6 8 2,oD 11 10 2,oW 4 (.agg #[zi,zi]),oS 4 11 2] (sr [oF 12 4 0,oL 13 12,oC 14 107 [.t 13],gF 16 4 1 14,gL 17 16 14,gF 18 1 0 14,gL 19 18 14,oG 20 (.len (.t 19)) 14,gK 21 20 14 .sub 1,⟨some 22,.call 98 [.t 17,.k zi,.t 21],some (14,true)⟩,oG 23 (.un .not (.t 22)) 14,oJ 24 14 23] (cd 24 (sr [oV 2 (.bool false)] .ret) .skip)))) (.reg [oK 25 8 .add 1,oM 8 25]))))))) (sr [oF 26 1 2,oL 27 26,oP 28 (.mkf 108 [] [.t 1]),oC 29 36 [.t 27,.t 28],oY 30 29,oM 2 30] .ret)),[.tmp 2]⟩
theorem is72:IsFnO Tryz.prog 72 ir72:=.of 32776 (by kernel_rfl)
def ir73:IFn:=⟨30,sr [oX 2 0,oX 3 1,oV 4 (.bool false)] (.seq (sr [oF 5 2 0,oL 6 5,oF 7 3 0,oL 8 7,oB 9 6 8 .neq] (cd 9 (sr [oF 10 2 0,oL 11 10,oF 12 3 0,oL 13 12,oB 14 11 13 .lss,oM 4 14] .ret) .skip)) (.seq (sr [oF 15 2 1,oL 16 15,oF 17 3 1,oL 18 17,oB 19 16 18 .neq] (cd 19 (sr [oF 20 2 1,oL 21 20,oF 22 3 1,oL 23 22,oB 24 21 23 .lss,oM 4 24] .ret) .skip)) (sr [oF 25 2 2,oL 26 25,oF 27 3 2,oL 28 27,oB 29 26 28 .lss,oM 4 29] .ret))),[.tmp 4]⟩
theorem is73:IsFnO Tryz.prog 73 ir73:=.of 0 (by kernel_rfl)
def ir74:IFn:=⟨150,sr [oX 1 0,oV 2 zs,oV 3 (.bool false)] (sr [oF 16 1 0,oL 17 16,oH 18 17,⟨some 19,.new (.msl 1 8 #[zi] (.t 18) (.t 18)),none⟩,oW 4 zs,oS 4 19 1] (.seq (sr [oL 20 4,oH 21 20,oI 22 0] (.blk 0 (.loop (sr [oB 23 22 21 .lss] (.seq (cd 23 .skip (.exit 0)) (.seq (.blk 1 (sr [oM 5 22] (.reg [oL 25 4,oA 27 25 5 1,⟨none,.eff (.st 1 (.t 27) (.k (.int .i64 (-1)))),none⟩]))) (.reg [oK 28 22 .add 1,oM 22 28]))))))) (sr [oW 6 zs] (sr [oP 29 (.mkf 109 [] [.t 4,.t 6]),oM 7 29] (.seq (sr [oF 30 1 2,oL 31 30,oH 32 31,oI 33 0] (.blk 2 (.loop (sr [oB 34 33 32 .lss] (.seq (cd 34 .skip (.exit 2)) (.seq (.blk 3 (sr [oA 35 31 33 4,oD 36 35 4,oW 9 (.agg #[zi,zi,zi,zi]),oS 9 36 4] (sr [oF 38 9 3,oL 39 38,⟨some 40,.callv (.t 7) [.t 39,.k zi],none⟩,oY 41 40] (cd 41 (sr [oV 2 zs,oV 3 (.bool false)] .ret) .skip)))) (.reg [oK 42 33 .add 1,oM 33 42]))))))) (.seq (.blk 4 (.loop (.seq (sr [oL 43 6,oH 44 43,oK 45 44 .gtr 0] (cd 45 .skip (.exit 4))) (.blk 5 (sr [oL 46 6,oL 47 6,oH 48 47,oK 49 48 .sub 1,oA 50 46 49 1,oL 51 50,oM 10 51] (sr [oL 52 6,oL 53 6,oH 54 53,oK 55 54 .sub 1,oP 56 (.slc 1 (.t 52) none (some (.t 55))),oS 6 56 1] (sr [oF 57 1 0,oL 58 57,oA 60 58 10 2,oD 61 60 2,oW 11 (.agg #[zi,zi]),oS 11 61 2] (sr [oF 63 11 0,oL 64 63,oC 65 110 [.t 64],oE 66 65 0,oE 67 65 1,oM 12 66,oM 13 67] (sr [oL 68 4,oA 70 68 10 1,oL 71 70,oB 73 71 12 .sub,oB 75 73 13 .add,oM 14 75] (sr [oL 76 4,oA 78 76 10 1,oL 79 78,oB 81 79 12 .geq,oM 15 81] (.seq (sr [oF 82 11 0,oL 83 82] (.blk 6 (sr [oK 93 83 .eql 31,oM 92 93] (cd 92 (.reg [gL 96 4 15,gM 97 10 15,oG 98 (.iad 1 (.t 96) (.t 97)) 15,gL 99 98 15,gK 100 99 15 .eql 0,oJ 101 15 100,oM 15 101]) (sr [oK 103 83 .eql 12,oM 102 103] (cd 102 (.reg [gM 106 7 15,gF 107 11 1 15,gL 108 107 15,gM 109 14 15,⟨some 110,.callv (.t 106) [.t 108,.t 109],some (15,true)⟩,oJ 111 15 110,oM 15 111]) (sr [oK 113 83 .eql 13,oM 112 113] (cd 112 (.reg [gM 116 7 15,gM 117 10 15,gK 118 117 15 .add 1,gM 119 14 15,⟨some 120,.callv (.t 116) [.t 118,.t 119],some (15,true)⟩,oJ 121 15 120,gM 123 7 121,gF 124 11 1 121,gL 125 124 121,gM 126 14 121,⟨some 127,.callv (.t 123) [.t 125,.t 126],some (121,true)⟩,oJ 128 121 127,oM 15 128]) (sr [oK 130 83 .eql 14,oM 129 130] (cd 129 (.reg [gM 133 7 15,gM 134 10 15,gK 135 134 15 .add 1,gM 136 14 15,⟨some 137,.callv (.t 133) [.t 135,.t 136],some (15,true)⟩,oJ 138 15 137,gM 140 7 138,gF 141 11 1 138,gL 142 141 138,gM 143 14 138,gK 144 143 138 .sub 1,⟨some 145,.callv (.t 140) [.t 142,.t 144],some (138,true)⟩,oJ 146 138 145,oM 15 146]) (.reg [gM 86 7 15,gM 87 10 15,gK 88 87 15 .add 1,gM 89 14 15,⟨some 90,.callv (.t 86) [.t 88,.t 89],some (15,true)⟩,oJ 91 15 90,oM 15 91]))))))))))) (sr [oY 148 15] (cd 148 (sr [oV 2 zs,oV 3 (.bool false)] .ret) .skip))))))))))))) (sr [oL 149 4,oM 2 149,oV 3 (.bool true)] .ret))))))),[.tmp 2,.tmp 3]⟩
theorem is74:IsFnO Tryz.prog 74 ir74:=.of 179111032031785621780008810439845023158632704 (by kernel_rfl)
def ir80:IFn:=⟨45,sr [oI 4 0] (.seq (.blk 0 (.loop (.seq (sr [oP 8 (.lens (.t 0)),oB 9 1 8 .lss] (cd 9 .skip (.exit 0))) (.blk 1 (sr [oP 12 (.idx (.t 0) (.t 1)),oM 5 12] (sr [oP 14 (.bin .eql (.t 5) (.k (.int .u8 35)))] (cd 14 (.blk 2 (.loop (.seq (sr [oP 17 (.lens (.t 0)),oB 18 1 17 .lss,gM 20 0 18,gM 21 1 18,oG 22 (.idx (.t 20) (.t 21)) 18,oG 23 (.bin .neq (.t 22) (.k (.int .u8 10))) 18,oJ 24 18 23] (cd 24 .skip (.exit 2))) (.blk 3 (.reg [oK 26 1 .add 1,oM 1 26]))))) (sr [oP 28 (.bin .eql (.t 5) (.k (.int .u8 9))),hM 30 5 28,oR 31 (.bin .eql (.t 30) (.k (.int .u8 10))) 28,oO 32 28 31,hM 34 5 32,oR 35 (.bin .eql (.t 34) (.k (.int .u8 13))) 32,oO 36 32 35,hM 38 5 36,oR 39 (.bin .eql (.t 38) (.k (.int .u8 32))) 36,oO 40 36 39] (cd 40 (.reg [oK 42 1 .add 1,oM 1 42]) (sr [oM 4 1] .ret)))))))))) (sr [oM 4 1] .ret)),[.tmp 4]⟩
theorem is80:IsFnO Tryz.prog 80 ir80:=.of 28734036487372 (by kernel_rfl)
def ir81:IFn:=⟨83,sr [oW 4 (.agg #[zi,zt,zi,zi]),oI 5 0,oI 6 0] (.seq (sr [oP 13 (.idx (.t 0) (.t 1)),oM 7 13] (.blk 0 (sr [oC 16 111 [.t 7],oM 14 16] (cd 14 (sr [oC 19 112 [.t 0,.t 1],oE 20 19 0,oE 21 19 1,oE 22 19 2,oS 4 20 4,oM 5 21,oM 6 22] .ret) (sr [oC 25 113 [.t 7],oM 23 25] (cd 23 (sr [oC 28 114 [.t 0,.t 1],oE 29 28 0,oE 30 28 1,oE 31 28 2,oS 4 29 4,oM 5 30,oM 6 31] .ret) (sr [oP 34 (.bin .eql (.t 7) (.k (.int .u8 34))),oM 32 34] (cd 32 (sr [oC 37 115 [.t 0,.t 1],oE 38 37 0,oE 39 37 1,oE 40 37 2,oS 4 38 4,oM 5 39,oM 6 40] .ret) .skip)))))))) (sr [oC 41 116 [],oM 8 41] (.seq (sr [oI 9 0] (.blk 1 (.loop (.seq (sr [oH 44 8,oB 45 9 44 .lss] (cd 45 .skip (.exit 1))) (.seq (.blk 2 (sr [oA 50 8 9 1,oL 51 50,oP 52 (.lens (.t 51)),oM 10 52] (.seq (.drw 19 (dQ [oM 53 0,oP 54 (.lens (.t 53)),oM 55 1,oB 56 54 55 .sub,oM 57 10,oB 58 56 57 .geq,oM 59 58,gM 60 0 59,gM 61 1 59,gM 62 1 59,gM 63 10 59,oG 64 (.bin .add (.t 62) (.t 63)) 59,oG 65 (.sls (.t 60) (some (.t 61)) (some (.t 64))) 59,gM 66 8 59,gM 67 9 59,oG 68 (.iad 1 (.t 66) (.t 67)) 59,gL 69 68 59,oG 70 (.bin .eql (.t 65) (.t 69)) 59,oJ 71 59 70] 0)) (cd 71 (sr [oA 74 8 9 1,oL 75 74,oP 77 (.bld #[zi,zt,zi,zi] [(0,1),(1,1),(2,1),(3,1)] [(0,.k (.int .i64 5)),(1,.t 75),(3,.t 1)]),oB 80 1 10 .add,oS 4 77 4,oM 5 80,oI 6 0] .ret) .skip)))) (.reg [oK 47 9 .add 1,oM 9 47])))))) (sr [oP 81 (.bld #[zi,zt,zi,zi] [(0,1),(1,1),(2,1),(3,1)] []),oS 4 81 4,oM 5 1,oI 6 47] .ret)))),[.cell 4 4 true,.tmp 5,.tmp 6]⟩
theorem is81:IsFnO Tryz.prog 81 ir81:=.of 5832122607272111540443148 (by kernel_rfl)
def ir82:IFn:=⟨19,sr [oI 4 0] (.seq (sr [oI 5 0] (.blk 0 (.loop (.seq (sr [oH 8 1,oB 9 5 8 .lss] (cd 9 .skip (.exit 0))) (.seq (.blk 1 (sr [oA 15 1 5 1,oL 16 15,oC 17 86 [.t 0,.t 16]] (cd 17 (sr [oM 4 5] .ret) .skip))) (.reg [oK 11 5 .add 1,oM 5 11])))))) (sr [oI 4 (-1)] .ret)),[.tmp 4]⟩
theorem is82:IsFnO Tryz.prog 82 ir82:=.of 292044 (by kernel_rfl)
def ir83:IFn:=⟨2,sr [oV 0 zs] (sr [⟨some 1,.new (.bsl 1 8 #[zt] [(0,.k (.string ⟨#[115,119,105,116,99,104]⟩)),(1,.k (.string ⟨#[99,111,105,108]⟩)),(2,.k (.string ⟨#[108,97,109,112]⟩)),(3,.k (.string ⟨#[115,111,117,110,100]⟩)),(4,.k (.string ⟨#[115,104,111,119]⟩)),(5,.k (.string ⟨#[118,97,114]⟩)),(6,.k (.string ⟨#[116,105,109,101,114]⟩)),(7,.k (.string ⟨#[101,118,101,110,116]⟩))]),none⟩,oM 0 1] .ret),[.tmp 0]⟩
theorem is83:IsFnO Tryz.prog 83 ir83:=.of 0 (by kernel_rfl)
def ir84:IFn:=⟨17,sr [oB 10 1 2 .gtr] (cd 10 (.reg [oC 13 118 [.t 0],oP 14 (.fld 3 1 false (.t 13)),oC 16 117 [.t 0,.t 14,.t 3]]) .skip),[]⟩
theorem is84:IsFnO Tryz.prog 84 ir84:=.of 39920 (by kernel_rfl)
def ir85:IFn:=⟨53,sr [oW 4 (.agg #[zi,zt,zi,zi])] (sr [oP 8 (.bin .add (.k (.int .i64 1)) (.t 1)),oC 10 118 [.t 0],oP 11 (.fld 3 1 false (.t 10)),oP 12 (.bld #[zi,zt,zi,zi] [(0,1),(1,1),(2,1),(3,1)] [(0,.t 8),(3,.t 11)]),oW 5 (.agg #[zi,zt,zi,zi]),oS 5 12 4] (sr [oN 14 0,oF 15 14 2,oL 16 15,oK 17 16 .add 1,oN 18 0,oF 19 18 2,oS 19 17 1] (sr [oC 21 119 [.t 0],oF 22 5 1,oS 22 21 1] (.seq (sr [oF 23 5 0,oL 24 23,oK 25 24 .leq 6] (cd 25 (sr [oF 26 5 0,oL 27 26,oK 28 27 .eql 6,gM 30 0 28,⟨some 31,.call 86 [.t 30,.k (.string ⟨#[45]⟩)],some (28,true)⟩,oJ 32 28 31,oM 6 32] (.seq (sr [oM 33 6] (cd 33 (.reg [oN 35 0,oF 36 35 2,oL 37 36,oK 38 37 .add 1,oN 39 0,oF 40 39 2,oS 40 38 1]) .skip)) (sr [oC 42 120 [.t 0,.k (.int .i64 3)],oP 43 (.fld 2 1 false (.t 42)),oF 44 5 2,oS 44 43 1] (sr [oM 45 6] (cd 45 (.reg [oF 46 5 2,oL 47 46,oP 48 (.un .neg (.t 47)),oF 49 5 2,oS 49 48 1]) .skip))))) .skip)) (sr [oC 51 121 [.t 0,.k (.string ⟨#[59]⟩)]] (sr [oD 52 5 4,oS 4 52 4] .ret)))))),[.cell 4 4 true]⟩
theorem is85:IsFnO Tryz.prog 85 ir85:=.of 1128116647895692 (by kernel_rfl)
def ir86:IFn:=⟨26,sr [oV 4 (.bool false)] (sr [oC 7 118 [.t 0],oW 5 (.agg #[zi,zt,zi,zi]),oS 5 7 4] (sr [oC 9 59 [.t 0],gF 11 5 0 9,gL 12 11 9,gK 13 12 9 .eql 5,gM 14 13 9,hF 15 5 0 14,hL 16 15 14,hK 17 16 14 .eql 2,oG 18 (.pick (.t 14) (.k (.bool true)) (.t 17)) 9,oJ 19 9 18,gF 21 5 1 19,gL 22 21 19,gM 23 1 19,oG 24 (.bin .eql (.t 22) (.t 23)) 19,oJ 25 19 24,oM 4 25] .ret)),[.tmp 4]⟩
theorem is86:IsFnO Tryz.prog 86 ir86:=.of 1049932 (by kernel_rfl)
def ir87:IFn:=⟨7,.reg [oC 4 118 [.t 0],oP 5 (.fld 3 1 false (.t 4)),oC 6 117 [.t 0,.t 5,.k (.int .i64 4)]],[]⟩
theorem is87:IsFnO Tryz.prog 87 ir87:=.of 14 (by kernel_rfl)
def ir88:IFn:=⟨81,sr [oW 2 (.agg #[zt,zi,zs,zi])] (sr [oC 7 118 [.t 0],oP 8 (.fld 3 1 false (.t 7)),oP 9 (.bld #[zt,zi,zs,zi] [(0,1),(1,1),(2,1),(3,1)] [(3,.t 8)]),oW 3 (.agg #[zt,zi,zs,zi]),oS 3 9 4] (sr [oC 11 121 [.t 0,.k (.string ⟨#[109,111,100,101]⟩)]] (sr [oC 13 119 [.t 0],oF 14 3 0,oS 14 13 1] (sr [oC 16 120 [.t 0,.k (.int .i64 3)],oP 17 (.fld 2 1 false (.t 16)),oF 18 3 1,oS 18 17 1] (sr [oC 20 121 [.t 0,.k (.string ⟨#[123]⟩)]] (.seq (.blk 0 (.loop (.seq (sr [oC 22 59 [.t 0],gM 24 0 22,⟨some 25,.call 86 [.t 24,.k (.string ⟨#[125]⟩)],some (22,true)⟩,oG 26 (.un .not (.t 25)) 22,oJ 27 22 26] (cd 27 .skip (.exit 0))) (.blk 1 (.seq (sr [oC 29 86 [.t 0,.k (.string ⟨#[111,110]⟩)],oY 30 29] (cd 30 (sr [oC 32 87 [.t 0]] (sr [oD 33 3 4,oS 2 33 4] .ret)) .skip)) (sr [oF 35 3 2,oL 36 35,oH 37 36,oK 38 37 .add 1,oC 39 84 [.t 0,.t 38,.k (.int .i64 32),.k (.int .i64 9)]] (sr [oC 41 118 [.t 0],oP 42 (.fld 3 1 false (.t 41)),oP 43 (.bld #[zi,zt,zs,zi] [(0,1),(1,1),(2,1),(3,1)] [(3,.t 42)]),oW 4 (.agg #[zi,zt,zs,zi]),oS 4 43 4] (sr [oC 45 121 [.t 0,.k (.string ⟨#[111,110]⟩)]] (sr [oC 47 122 [],oC 48 82 [.t 0,.t 47],oM 5 48] (.seq (sr [oK 50 5 .lss 0] (cd 50 (sr [oC 52 87 [.t 0]] (sr [oD 53 3 4,oS 2 53 4] .ret)) .skip)) (sr [oN 55 0,oF 56 55 2,oL 57 56,oK 58 57 .add 1,oN 59 0,oF 60 59 2,oS 60 58 1] (sr [oP 62 (.bin .add (.k (.int .i64 1)) (.t 5)),oF 63 4 0,oS 63 62 1] (.seq (sr [oK 65 5 .geq 2] (cd 65 (.reg [oC 67 119 [.t 0],oF 68 4 1,oS 68 67 1]) .skip)) (sr [oC 70 123 [.t 0,.k (.int .i64 1)],oF 71 4 2,oS 71 70 1] (.reg [oF 72 3 2,oL 73 72,oD 74 4 4,⟨some 75,.new (.bsl 4 1 #[zi,zt,zs,zi] [(0,.t 74)]),none⟩,oT 76 73 75 4 56,oF 77 3 2,oS 77 76 1]))))))))))))))) (sr [oC 79 121 [.t 0,.k (.string ⟨#[125]⟩)]] (sr [oD 80 3 4,oS 2 80 4] .ret)))))))),[.cell 2 4 true]⟩
theorem is88:IsFnO Tryz.prog 88 ir88:=.of 302916311195622086054978 (by kernel_rfl)
def ir89:IFn:=⟨20,sr [oX 1 0,oV 2 (.bool false)] (sr [oD 5 1 2,oC 6 124 [.t 5],oP 7 (.bld #[zs,zi,zi,zi,zi,zi,zi] [(0,1),(1,1),(2,1),(3,1),(4,1),(5,1),(6,1)] [(0,.t 6)]),oX 8 7,oM 3 8] (sr [oC 10 58 [.t 3],oW 4 (.agg #[zs,zs]),oS 4 10 2] (.seq (.drw 10 ⟨[oM 11 3,oC 12 59 [.t 11],oM 13 12,oG 14 (.ld 2 true (.t 4)) 13,⟨some 15,.call 126 [.t 14],some (13,true)⟩,oG 16 (.ld 2 true (.t 1)) 13,⟨some 17,.call 126 [.t 16],some (13,true)⟩,⟨some 18,.call 125 [.t 15,.t 17],some (13,true)⟩,oJ 19 13 18,oM 2 19],[],[(0,none),(1,some []),(2,none),(3,none),(5,none),(4,some [5]),(6,some []),(7,some []),(8,none),(9,some [])]⟩) .ret))),[.tmp 2]⟩
theorem is89:IsFnO Tryz.prog 89 ir89:=.of 512 (by kernel_rfl)
def ir90:IFn:=⟨81,sr [oX 1 0,oI 2 0,oI 3 0] (.seq (sr [oI 4 0] (.blk 0 (.loop (.seq (sr [oF 13 1 0,oL 14 13,oH 15 14,oB 16 4 15 .lss] (cd 16 .skip (.exit 0))) (.seq (.blk 1 (sr [oF 19 1 0,oL 20 19,oA 22 20 4 4,oD 23 22 4,oW 5 (.agg #[zi,zt,zi,zi]),oS 5 23 4] (.seq (.seq (.drw 6 ⟨[oF 24 5 2,oL 25 24,oF 26 5 0,oL 27 26,oC 28 127 [.t 27],oB 29 25 28 .gtr],[],[(0,none),(1,none),(2,none),(3,none),(4,some [0,1]),(5,none)]⟩) (cd 29 (sr [oF 30 5 3,oL 31 30,oM 2 31,oI 3 5] .ret) .skip)) (.seq (.drw 13 ⟨[oF 33 1 0,oL 34 33,oM 35 4,oP 36 (.slc 4 (.t 34) none (some (.t 35))),oP 37 (.bld #[zs,zs] [(0,1),(1,1)] [(0,.t 36)]),oF 38 5 1,oL 39 38,oC 40 128 [.t 37,.t 39],oM 32 40,oE 41 32 0,oE 42 32 1,oM 6 41,oM 7 42],[],[(0,none),(1,none),(2,none),(3,none),(4,none),(5,none),(6,none),(7,some []),(8,none),(9,none),(10,none),(11,some [10]),(12,some [])]⟩) (sr [oK 44 6 .neq 0] (cd 44 (sr [oF 45 5 3,oL 46 45,oM 2 46,oI 3 7] .ret) .skip)))))) (.reg [oK 18 4 .add 1,oM 4 18])))))) (.seq (sr [oI 8 0] (.blk 2 (.loop (.seq (sr [oF 48 1 1,oL 49 48,oH 50 49,oB 51 8 50 .lss] (cd 51 .skip (.exit 2))) (.seq (.blk 3 (sr [oF 54 1 1,oL 55 54,oA 57 55 8 4,oD 58 57 4,oW 9 (.agg #[zt,zi,zs,zi]),oS 9 58 4] (.seq (sr [oF 59 9 1,oL 60 59,oK 61 60 .gtr 99] (cd 61 (sr [oF 62 9 3,oL 63 62,oM 2 63,oI 3 5] .ret) .skip)) (.seq (.drw 15 ⟨[oF 65 1 0,oL 66 65,oF 67 1 1,oL 68 67,oM 69 8,oP 70 (.slc 4 (.t 68) none (some (.t 69))),oP 71 (.bld #[zs,zs] [(0,1),(1,1)] [(0,.t 66),(1,.t 70)]),oF 72 9 0,oL 73 72,oC 74 128 [.t 71,.t 73],oM 64 74,oE 75 64 0,oE 76 64 1,oM 10 75,oM 11 76],[],[(0,none),(1,none),(2,none),(3,none),(4,none),(5,none),(6,none),(7,none),(8,none),(9,some []),(10,none),(11,none),(12,none),(13,some [12]),(14,some [])]⟩) (sr [oK 78 10 .neq 0] (cd 78 (sr [oF 79 9 3,oL 80 79,oM 2 80,oI 3 7] .ret) .skip)))))) (.reg [oK 53 8 .add 1,oM 8 53])))))) (sr [oI 2 0,oI 3 0] .ret))),[.tmp 2,.tmp 3]⟩
theorem is90:IsFnO Tryz.prog 90 ir90:=.of 151115804162555895746560 (by kernel_rfl)
def ir91:IFn:=⟨26,sr [oX 3 0,oI 6 0] (sr [oD 10 3 2,oC 12 128 [.t 10,.t 1],oE 13 12 0,oE 14 12 1,oM 7 13] (.seq (.blk 0 (sr [oK 17 2 .eql 0,hM 19 7 17,hM 20 2 17,oR 21 (.bin .eql (.t 19) (.t 20)) 17,oO 22 17 21,oM 15 22] (cd 15 (sr [oI 6 0] .ret) (sr [oK 25 7 .eql 0,oM 23 25] (cd 23 (sr [oI 6 8] .ret) .skip))))) (sr [oI 6 44] .ret))),[.tmp 6]⟩
theorem is91:IsFnO Tryz.prog 91 ir91:=.of 17107760 (by kernel_rfl)
def ir92:IFn:=⟨11,sr [oI 2 0] (.seq (sr [oM 3 0] (.blk 0 (.seq (sr [oK 5 3 .eql 3,oM 4 5] (cd 4 .skip (.reg [oK 6 3 .eql 4,oM 4 6]))) (cd 4 (sr [oI 2 1] .ret) (sr [oK 8 3 .eql 5,oM 7 8] (cd 7 (sr [oI 2 7] .ret) (sr [oK 10 3 .eql 6,oM 9 10] (cd 9 (sr [oI 2 8] .ret) .skip)))))))) (sr [oI 2 0] .ret)),[.tmp 2]⟩
theorem is92:IsFnO Tryz.prog 92 ir92:=.of 2 (by kernel_rfl)
def ir93:IFn:=⟨95,sr [oX 2 0,oI 4 0,oI 5 0] (.seq (sr [oI 6 0] (.blk 0 (.loop (.seq (sr [oH 19 1,oB 20 6 19 .lss] (cd 20 .skip (.exit 0))) (.seq (.blk 1 (sr [oA 25 1 6 7,oD 26 25 7,oW 7 (.agg #[zi,zt,zt,zs,zs,zs,zi]),oS 7 26 7] (.seq (.seq (.drw 8 ⟨[oD 27 2 2,oF 28 7 1,oL 29 28,oF 30 7 0,oL 31 30,oC 32 129 [.t 31],oC 33 91 [.t 27,.t 29,.t 32],oM 8 33],[],[(0,none),(1,none),(2,none),(3,none),(4,none),(5,some [0,1,2]),(6,some []),(7,some [])]⟩) (sr [oK 35 8 .neq 0] (cd 35 (sr [oF 36 7 6,oL 37 36,oM 4 37,oM 5 8] .ret) .skip))) (.seq (sr [oI 9 0] (.blk 2 (.loop (.seq (sr [oF 40 7 3,oL 41 40,oH 42 41,oB 43 9 42 .lss] (cd 43 .skip (.exit 2))) (.seq (.blk 3 (.seq (.drw 14 ⟨[oD 47 2 2,oF 48 7 3,oL 49 48,oM 50 9,oA 51 49 50 5,oD 52 51 5,oC 53 130 [.t 47,.t 52],oM 46 53,oE 54 46 0,oE 55 46 1,oE 56 46 2,oM 10 54,oM 11 55,oM 12 56],[],[(0,none),(1,none),(2,none),(3,none),(4,none),(5,none),(6,some []),(7,none),(8,none),(9,none),(10,none),(11,some [9,10]),(12,some [10]),(13,some [])]⟩) (.seq (sr [oK 58 12 .neq 0] (cd 58 (sr [oM 4 11,oM 5 12] .ret) .skip)) (sr [oK 62 10 .eql 2,oF 63 7 0,oL 64 63,oK 65 64 .eql 2,oP 66 (.eqb true (.t 62) (.t 65))] (cd 66 (sr [oF 67 7 3,oL 68 67,oA 70 68 9 5,oF 71 70 4,oL 72 71,oM 4 72,oI 5 49] .ret) .skip))))) (.reg [oK 45 9 .add 1,oM 9 45])))))) (.seq (sr [oD 74 2 2,oF 75 7 4,oL 76 75,oC 77 93 [.t 74,.t 76],oE 78 77 0,oE 79 77 1,oM 13 78,oM 14 79] (sr [oK 81 14 .neq 0] (cd 81 (sr [oM 4 13,oM 5 14] .ret) .skip))) (sr [oD 85 2 2,oF 86 7 5,oL 87 86,oC 88 93 [.t 85,.t 87],oE 89 88 0,oE 90 88 1,oM 15 89,oM 16 90] (sr [oK 92 16 .neq 0] (cd 92 (sr [oM 4 15,oM 5 16] .ret) .skip)))))))) (.reg [oK 22 6 .add 1,oM 6 22])))))) (sr [oI 4 0,oI 5 0] .ret)),[.tmp 4,.tmp 5]⟩
theorem is93:IsFnO Tryz.prog 93 ir93:=.of 32221509909396846379666898952 (by kernel_rfl)
def ir94:IFn:=⟨30,sr [oX 2 0,oI 4 0] (.seq (sr [oK 8 1 .eql 9] (cd 8 (sr [oF 9 2 1,oL 10 9,oH 11 10,oM 4 11] .ret) .skip)) (sr [oI 5 0] (.seq (sr [oI 6 0] (.blk 0 (.loop (.seq (sr [oF 13 2 0,oL 14 13,oH 15 14,oB 16 6 15 .lss] (cd 16 .skip (.exit 0))) (.seq (.blk 1 (sr [oF 19 2 0,oL 20 19,oA 22 20 6 4,oF 23 22 0,oL 24 23,oB 26 24 1 .eql] (cd 26 (.reg [oK 28 5 .add 1,oM 5 28]) .skip))) (.reg [oK 18 6 .add 1,oM 6 18])))))) (sr [oM 4 5] .ret)))),[.tmp 4]⟩
theorem is94:IsFnO Tryz.prog 94 ir94:=.of 706875528 (by kernel_rfl)
def ir95:IFn:=⟨17,sr [oI 4 0] (sr [oN 9 0,oF 10 9 0,oD 11 10 2,oC 13 131 [.t 11,.t 1],oE 14 13 0,oE 15 13 1,oM 6 15] (sr [oM 4 6] .ret)),[.tmp 4]⟩
theorem is95:IsFnO Tryz.prog 95 ir95:=.of 70060 (by kernel_rfl)
def ir96:IFn:=⟨126,sr [oX 3 1] (.seq (sr [oI 4 0] (.blk 0 (.loop (.seq (sr [oF 9 3 3,oL 10 9,oH 11 10,oB 12 4 11 .lss] (cd 12 .skip (.exit 0))) (.seq (.blk 1 (.reg [oF 16 3 3,oL 17 16,oA 19 17 4 5,oD 20 19 5,oC 21 132 [.t 0,.t 20]])) (.reg [oK 14 4 .add 1,oM 4 14])))))) (sr [oF 22 3 0,oL 23 22] (.blk 2 (sr [oK 34 23 .eql 2,oM 33 34] (cd 33 (sr [oC 36 64 [.t 0,.k (.int .i64 13),.k zi],oM 5 36] (sr [oF 38 3 4,oL 39 38,oC 40 63 [.t 0,.t 39]] (.seq (sr [oF 41 3 5,oL 42 41,oH 43 42,oK 44 43 .gtr 0] (cd 44 (sr [oC 46 64 [.t 0,.k (.int .i64 12),.k zi],oM 6 46] (.seq (.drw 13 (dQ [oM 47 0,oN 48 47,oF 49 48 2,oL 50 49,oM 51 5,oM 52 0,oN 53 52,oF 54 53 2,oL 55 54,oH 56 55,oA 57 50 51 2,oF 58 57 1,oS 58 56 1] 0)) (sr [oF 60 3 5,oL 61 60,oC 62 63 [.t 0,.t 61]] (.seq (.drw 13 (dQ [oM 63 0,oN 64 63,oF 65 64 2,oL 66 65,oM 67 6,oM 68 0,oN 69 68,oF 70 69 2,oL 71 70,oH 72 71,oA 73 66 67 2,oF 74 73 1,oS 74 72 1] 0)) .ret)))) .skip)) (.drw 13 (dQ [oM 75 0,oN 76 75,oF 77 76 2,oL 78 77,oM 79 5,oM 80 0,oN 81 80,oF 82 81 2,oL 83 82,oH 84 83,oA 85 78 79 2,oF 86 85 1,oS 86 84 1] 0))))) (sr [oK 88 23 .eql 3,oM 87 88] (cd 87 (sr [oC 90 64 [.t 0,.k (.int .i64 14),.k zi],oM 7 90] (sr [oF 92 3 4,oL 93 92,oC 94 63 [.t 0,.t 93]] (sr [oC 97 64 [.t 0,.k (.int .i64 12),.t 7]] (.drw 13 (dQ [oM 98 0,oN 99 98,oF 100 99 2,oL 101 100,oM 102 7,oM 103 0,oN 104 103,oF 105 104 2,oL 106 105,oH 107 106,oA 108 101 102 2,oF 109 108 1,oS 109 107 1] 0))))) (sr [oK 111 23 .eql 18,oM 110 111] (cd 110 (.reg [oF 114 3 2,oL 115 114,oC 116 133 [.t 0,.t 115],oC 117 64 [.t 0,.k (.int .i64 29),.t 116]]) (.seq (sr [oK 119 23 .eql 4,oM 118 119] (cd 118 .skip (.reg [oK 120 23 .eql 19,oM 118 120]))) (cd 118 (.reg [oF 122 3 0,oL 123 122,oC 124 134 [.t 123],oC 125 64 [.t 0,.t 124,.k zi]]) (.drw 9 ⟨[oM 24 0,oF 25 3 0,oL 26 25,oC 27 134 [.t 26],oM 28 0,oF 29 3 1,oL 30 29,oC 31 95 [.t 28,.t 30],oC 32 64 [.t 24,.t 27,.t 31]],[],[(0,none),(1,none),(2,none),(4,none),(5,none),(6,none),(3,some [0,4,5,6]),(7,some [0]),(8,some [])]⟩)))))))))))),[]⟩
theorem is96:IsFnO Tryz.prog 96 ir96:=.of 2674033004082530098879658795586593028 (by kernel_rfl)
def ir98:IFn:=⟨15,sr [oV 6 (.bool false)] (sr [oB 9 0 1 .geq,gM 11 0 9,gM 12 2 9,oG 13 (.bin .leq (.t 11) (.t 12)) 9,oJ 14 9 13,oM 6 14] .ret),[.tmp 6]⟩
theorem is98:IsFnO Tryz.prog 98 ir98:=.of 1464 (by kernel_rfl)
def ir99:IFn:=⟨9,sr [oV 4 (.bool false)] (sr [oC 7 135 [.t 0,.t 1],oK 8 7 .geq 0,oM 4 8] .ret),[.tmp 4]⟩
theorem is99:IsFnO Tryz.prog 99 ir99:=.of 108 (by kernel_rfl)
def ir100:IFn:=⟨6,sr [oV 2 (.bool false)] (sr [oC 4 101 [.t 0],oY 5 4,oM 2 5] .ret),[.tmp 2]⟩
theorem is100:IsFnO Tryz.prog 100 ir100:=.of 10 (by kernel_rfl)
def ir101:IFn:=⟨23,sr [oV 2 (.bool false)] (.seq (sr [oI 3 0] (.blk 0 (.loop (.seq (sr [oP 6 (.lens (.t 0)),oB 7 3 6 .lss] (cd 7 .skip (.exit 0))) (.seq (.blk 1 (sr [oP 12 (.idx (.t 0) (.t 3)),oP 13 (.bin .lss (.t 12) (.k (.int .u8 32))),hM 15 0 13,hM 16 3 13,oR 17 (.idx (.t 15) (.t 16)) 13,oR 18 (.bin .gtr (.t 17) (.k (.int .u8 126))) 13,oO 19 13 18] (cd 19 (sr [oV 2 (.bool false)] .ret) .skip))) (.reg [oK 9 3 .add 1,oM 3 9])))))) (sr [oP 21 (.lens (.t 0)),oK 22 21 .leq 32,oM 2 22] .ret)),[.tmp 2]⟩
theorem is101:IsFnO Tryz.prog 101 ir101:=.of 1068338 (by kernel_rfl)
def ir102:IFn:=⟨6,sr [oV 2 (.bool false)] (sr [oC 4 98 [.t 0,.k zi,.k (.int .i64 99)],oY 5 4,oM 2 5] .ret),[.tmp 2]⟩
theorem is102:IsFnO Tryz.prog 102 ir102:=.of 10 (by kernel_rfl)
def ir103:IFn:=⟨6,sr [oV 2 (.bool false)] (sr [oC 4 98 [.t 0,.k (.int .i64 (-2147483647)),.k (.int .i64 2147483647)],oY 5 4,oM 2 5] .ret),[.tmp 2]⟩
theorem is103:IsFnO Tryz.prog 103 ir103:=.of 10 (by kernel_rfl)
def ir104:IFn:=⟨8,sr [oX 2 0,oV 3 (.bool false)] (sr [oD 4 1 7,oD 5 2 4,oC 6 105 [.t 4,.t 5],oY 7 6,oM 3 7] .ret),[.tmp 3]⟩
theorem is104:IsFnO Tryz.prog 104 ir104:=.of 0 (by kernel_rfl)
def ir105:IFn:=⟨43,sr [oX 2 0,oX 3 1,oV 4 (.bool false)] (.seq (sr [oF 5 3 0,oL 6 5,oF 7 2 3,oL 8 7,oH 9 8,oK 10 9 .sub 1,oC 11 98 [.t 6,.k zi,.t 10],oY 12 11] (cd 12 (sr [oV 4 (.bool false)] .ret) .skip)) (.seq (sr [oF 13 3 1,oL 14 13] (.blk 0 (.seq (sr [oK 16 14 .eql 1,oM 15 16] (cd 15 .skip (.reg [oK 17 14 .eql 2,oM 15 17]))) (cd 15 (sr [oF 18 3 2,oL 19 18,oK 20 19 .eql 0,oM 4 20] .ret) (.seq (sr [oK 22 14 .eql 3,oM 21 22] (cd 21 .skip (.reg [oK 23 14 .eql 4,oM 21 23]))) (cd 21 (sr [oF 24 3 2,oL 25 24,oC 26 98 [.t 25,.k zi,.k (.int .i64 63)],oM 4 26] .ret) (sr [oK 28 14 .eql 5,oM 27 28] (cd 27 (sr [oF 29 3 2,oL 30 29,oF 31 2 5,oL 32 31,oK 33 32 .sub 1,oC 34 98 [.t 30,.k zi,.t 33],oM 4 34] .ret) (sr [oK 36 14 .eql 6,oM 35 36] (cd 35 (sr [oF 37 3 2,oL 38 37,oF 39 2 6,oL 40 39,oK 41 40 .sub 1,oC 42 98 [.t 38,.k zi,.t 41],oM 4 42] .ret) .skip)))))))))) (sr [oV 4 (.bool false)] .ret))),[.tmp 4]⟩
theorem is105:IsFnO Tryz.prog 105 ir105:=.of 0 (by kernel_rfl)
def ir106:IFn:=⟨64,sr [oX 2 0,oI 4 0,oI 5 0] (.seq (sr [oM 6 1] (.blk 0 (sr [oK 8 6 .eql 1,oM 7 8] (cd 7 (sr [oI 4 (-2147483647),oI 5 2147483647] .ret) (.seq (sr [oK 10 6 .eql 2,oM 9 10] (cd 9 .skip (.reg [oK 11 6 .eql 3,oM 9 11]))) (cd 9 (.seq (.drw 6 ⟨[oF 12 2 4,oL 13 12,oH 14 13,oK 15 14 .sub 1,oI 4 0,oM 5 15],[],[(0,none),(1,none),(2,none),(3,none),(4,some [0,1,2,3]),(5,some [])]⟩) .ret) (sr [oK 17 6 .eql 4,oM 16 17] (cd 16 (sr [oI 4 0,oI 5 63] .ret) (.seq (sr [oK 19 6 .eql 5,oM 18 19] (cd 18 .skip (sr [oK 20 6 .eql 23,oM 18 20] (cd 18 .skip (.reg [oK 21 6 .eql 24,oM 18 21]))))) (cd 18 (.seq (.drw 6 ⟨[oF 22 2 3,oL 23 22,oH 24 23,oK 25 24 .sub 1,oI 4 0,oM 5 25],[],[(0,none),(1,none),(2,none),(3,none),(4,some [0,1,2,3]),(5,some [])]⟩) .ret) (.seq (sr [oK 27 6 .eql 6,oM 26 27] (cd 26 .skip (sr [oK 28 6 .eql 21,oM 26 28] (cd 26 .skip (.reg [oK 29 6 .eql 22,oM 26 29]))))) (cd 26 (.seq (.drw 5 ⟨[oF 30 2 5,oL 31 30,oK 32 31 .sub 1,oI 4 0,oM 5 32],[],[(0,none),(1,none),(2,none),(3,some [0,1,2]),(4,some [])]⟩) .ret) (sr [oK 34 6 .eql 11,oM 33 34] (cd 33 (sr [oI 4 12,oI 5 24] .ret) (.seq (sr [oK 36 6 .eql 16,oM 35 36] (cd 35 .skip (sr [oK 37 6 .eql 17,oM 35 37] (cd 35 .skip (.reg [oK 38 6 .eql 18,oM 35 38]))))) (cd 35 (sr [oI 4 0,oI 5 31] .ret) (.seq (sr [oK 40 6 .eql 19,oM 39 40] (cd 39 .skip (sr [oK 41 6 .eql 20,oM 39 41] (cd 39 .skip (sr [oK 42 6 .eql 26,oM 39 42] (cd 39 .skip (sr [oK 43 6 .eql 27,oM 39 43] (cd 39 .skip (.reg [oK 44 6 .eql 28,oM 39 44]))))))))) (cd 39 (sr [oI 4 0,oI 5 63] .ret) (sr [oK 46 6 .eql 25,oM 45 46] (cd 45 (.seq (.drw 5 ⟨[oF 47 2 6,oL 48 47,oK 49 48 .sub 1,oI 4 0,oM 5 49],[],[(0,none),(1,none),(2,none),(3,some [0,1,2]),(4,some [])]⟩) .ret) (sr [oK 51 6 .eql 29,oM 50 51] (cd 50 (.seq (.drw 6 ⟨[oF 52 2 1,oL 53 52,oH 54 53,oK 55 54 .sub 1,oI 4 0,oM 5 55],[],[(0,none),(1,none),(2,none),(3,none),(4,some [0,1,2,3]),(5,some [])]⟩) .ret) (.seq (sr [oK 57 6 .eql 7,oM 56 57] (cd 56 .skip (sr [oK 58 6 .eql 8,oM 56 58] (cd 56 .skip (sr [oK 59 6 .eql 9,oM 56 59] (cd 56 .skip (sr [oK 60 6 .eql 10,oM 56 60] (cd 56 .skip (sr [oK 61 6 .eql 15,oM 56 61] (cd 56 .skip (sr [oK 62 6 .eql 30,oM 56 62] (cd 56 .skip (.reg [oK 63 6 .eql 31,oM 56 63]))))))))))))) (cd 56 (sr [oI 4 0,oI 5 0] .ret) .skip)))))))))))))))))))))))) (sr [oI 4 1,oI 5 0] .ret)),[.tmp 4,.tmp 5]⟩
theorem is106:IsFnO Tryz.prog 106 ir106:=.of 8 (by kernel_rfl)
def ir107:IFn:=⟨13,sr [oV 2 (.bool false)] (sr [oK 4 0 .eql 12,hM 6 0 4,hK 7 6 4 .eql 13,oO 8 4 7,hM 10 0 8,hK 11 10 8 .eql 14,oO 12 8 11,oM 2 12] .ret),[.tmp 2]⟩
theorem is107:IsFnO Tryz.prog 107 ir107:=.of 554 (by kernel_rfl)
def ir108:IFn:=⟨12,sr [oX 2 0,oV 3 (.bool false)] (sr [oF 4 2 3,oL 5 4,oF 6 1 0,oL 7 6,oH 8 7,oK 9 8 .sub 1,oC 10 98 [.t 5,.k zi,.t 9],oY 11 10,oM 3 11] .ret),[.tmp 3]⟩
theorem is108:IsFnO Tryz.prog 108 ir108:=.of 0 (by kernel_rfl)
def ir109:IFn:=⟨43,sr [oV 6 (.bool false)] (.seq (sr [oL 8 2,oH 9 8,oB 10 0 9 .geq,hM 12 1 10,hK 13 12 10 .gtr 48,oO 14 10 13,hL 16 2 14,hM 17 0 14,oR 18 (.iad 1 (.t 16) (.t 17)) 14,hL 19 18 14,hK 20 19 14 .geq 0,hM 21 20 14,gL 22 2 21,gM 23 0 21,oG 24 (.iad 1 (.t 22) (.t 23)) 21,gL 25 24 21,gM 26 1 21,oG 27 (.bin .neq (.t 25) (.t 26)) 21,oR 28 (.pick (.t 21) (.t 27) (.k (.bool false))) 14,oO 29 14 28] (cd 29 (sr [oV 6 (.bool false)] .ret) .skip)) (.seq (sr [oL 30 2,oA 32 30 0 1,oL 33 32,oK 34 33 .lss 0] (cd 34 (sr [oL 35 2,oA 38 35 0 1,oS 38 1 1] (.reg [oL 39 3,⟨some 41,.new (.bsl 1 1 #[zi] [(0,.t 0)]),none⟩,oT 42 39 41 1 8,oS 3 42 1])) .skip)) (sr [oV 6 (.bool true)] .ret))),[.tmp 6]⟩
theorem is109:IsFnO Tryz.prog 109 ir109:=.of 1307817576624 (by kernel_rfl)
def ir110:IFn:=⟨28,sr [oI 2 0,oI 3 0] (.seq (sr [oM 4 0] (.blk 0 (.seq (sr [oK 6 4 .eql 1,oM 5 6] (cd 5 .skip (sr [oK 7 4 .eql 2,oM 5 7] (cd 5 .skip (sr [oK 8 4 .eql 4,oM 5 8] (cd 5 .skip (sr [oK 9 4 .eql 5,oM 5 9] (cd 5 .skip (sr [oK 10 4 .eql 6,oM 5 10] (cd 5 .skip (sr [oK 11 4 .eql 7,oM 5 11] (cd 5 .skip (.reg [oK 12 4 .eql 8,oM 5 12]))))))))))))) (cd 5 (sr [oI 2 0,oI 3 1] .ret) (.seq (sr [oK 14 4 .eql 9,oM 13 14] (cd 13 .skip (sr [oK 15 4 .eql 10,oM 13 15] (cd 13 .skip (.reg [oK 16 4 .eql 14,oM 13 16]))))) (cd 13 (sr [oI 2 1,oI 3 1] .ret) (sr [oK 18 4 .eql 11,oM 17 18] (cd 17 (sr [oI 2 2,oI 3 1] .ret) (sr [oK 20 4 .eql 20,oM 19 20] (cd 19 (sr [oI 2 2,oI 3 0] .ret) (.seq (sr [oK 22 4 .eql 3,oM 21 22] (cd 21 .skip (sr [oK 23 4 .eql 13,oM 21 23] (cd 21 .skip (sr [oK 24 4 .eql 15,oM 21 24] (cd 21 .skip (sr [oK 25 4 .eql 19,oM 21 25] (cd 21 .skip (sr [oK 26 4 .eql 21,oM 21 26] (cd 21 .skip (.reg [oK 27 4 .eql 29,oM 21 27]))))))))))) (cd 21 (sr [oI 2 1,oI 3 0] .ret) .skip)))))))))))) (sr [oI 2 0,oI 3 0] .ret)),[.tmp 2,.tmp 3]⟩
theorem is110:IsFnO Tryz.prog 110 ir110:=.of 2 (by kernel_rfl)
def ir111:IFn:=⟨17,sr [oV 2 (.bool false)] (sr [oP 4 (.bin .geq (.t 0) (.k (.int .u8 97))),gM 6 0 4,oG 7 (.bin .leq (.t 6) (.k (.int .u8 122))) 4,oJ 8 4 7,hM 10 0 8,oR 11 (.bin .geq (.t 10) (.k (.int .u8 65))) 8,hM 12 11 8,gM 13 0 12,oG 14 (.bin .leq (.t 13) (.k (.int .u8 90))) 12,oR 15 (.pick (.t 12) (.t 14) (.k (.bool false))) 8,oO 16 8 15,oM 2 16] .ret),[.tmp 2]⟩
theorem is111:IsFnO Tryz.prog 111 ir111:=.of 554 (by kernel_rfl)
def ir112:IFn:=⟨52,sr [oW 4 (.agg #[zi,zt,zi,zi]),oI 5 0,oI 6 0] (sr [oM 7 1] (.seq (.blk 0 (.loop (.seq (sr [oP 12 (.lens (.t 0)),oB 13 7 12 .lss,gM 15 0 13,gM 16 7 13,oG 17 (.idx (.t 15) (.t 16)) 13,⟨some 18,.call 111 [.t 17],some (13,true)⟩,gM 19 18 13,hM 20 0 19,hM 21 7 19,oR 22 (.idx (.t 20) (.t 21)) 19,⟨some 23,.call 113 [.t 22],some (19,false)⟩,oG 24 (.pick (.t 19) (.k (.bool true)) (.t 23)) 13,gM 25 24 13,hM 26 0 25,hM 27 7 25,oR 28 (.idx (.t 26) (.t 27)) 25,oR 29 (.bin .eql (.t 28) (.k (.int .u8 95))) 25,oG 30 (.pick (.t 25) (.k (.bool true)) (.t 29)) 13,oJ 31 13 30] (cd 31 .skip (.exit 0))) (.blk 1 (.reg [oK 33 7 .add 1,oM 7 33]))))) (.seq (sr [oB 36 7 1 .sub,oK 37 36 .gtr 12] (cd 37 (sr [oP 38 (.bld #[zi,zt,zi,zi] [(0,1),(1,1),(2,1),(3,1)] []),oS 4 38 4,oM 5 1,oI 6 9] .ret) .skip)) (sr [oP 43 (.sls (.t 0) (some (.t 1)) (some (.t 7))),oP 45 (.bld #[zi,zt,zi,zi] [(0,1),(1,1),(2,1),(3,1)] [(0,.k (.int .i64 1)),(1,.t 43),(3,.t 1)]),oW 8 (.agg #[zi,zt,zi,zi]),oS 8 45 4] (.seq (sr [oF 46 8 1,oL 47 46,oC 48 136 [.t 47]] (cd 48 (.reg [oF 49 8 0,⟨none,.eff (.st 1 (.t 49) (.k (.int .i64 2))),none⟩]) .skip)) (sr [oD 50 8 4,oS 4 50 4,oM 5 7,oI 6 0] .ret)))))),[.cell 4 4 true,.tmp 5,.tmp 6]⟩
theorem is112:IsFnO Tryz.prog 112 ir112:=.of 2277694171532812 (by kernel_rfl)
def ir113:IFn:=⟨9,sr [oV 2 (.bool false)] (sr [oP 4 (.bin .geq (.t 0) (.k (.int .u8 48))),gM 6 0 4,oG 7 (.bin .leq (.t 6) (.k (.int .u8 57))) 4,oJ 8 4 7,oM 2 8] .ret),[.tmp 2]⟩
theorem is113:IsFnO Tryz.prog 113 ir113:=.of 42 (by kernel_rfl)
def ir114:IFn:=⟨58,sr [oW 4 (.agg #[zi,zt,zi,zi]),oI 5 0,oI 6 0] (sr [oM 7 1,oI 8 0,oV 9 (.bool false)] (.seq (.blk 0 (.loop (.seq (sr [oP 13 (.lens (.t 0)),oB 14 7 13 .lss,gM 16 0 14,gM 17 7 14,oG 18 (.idx (.t 16) (.t 17)) 14,⟨some 19,.call 113 [.t 18],some (14,true)⟩,oJ 20 14 19] (cd 20 .skip (.exit 0))) (.blk 1 (sr [oP 22 (.bin .mul (.k (.int .i64 10)) (.t 8)),oP 25 (.idx (.t 0) (.t 7)),oP 26 (.bin .sub (.t 25) (.k (.int .u8 48))),oP 27 (.cvi .i64 (.t 26)),oB 28 22 27 .add,oM 8 28] (sr [hM 31 8 9,hK 32 31 9 .gtr 2147483647,oO 33 9 32,oM 9 33] (.seq (sr [oM 34 9] (cd 34 (.reg [oI 8 0]) .skip)) (.reg [oK 36 7 .add 1,oM 7 36])))))))) (.seq (.blk 2 (sr [oP 40 (.idx (.t 0) (.t 1)),oP 41 (.bin .eql (.t 40) (.k (.int .u8 48))),gM 43 7 41,gM 44 1 41,oG 45 (.bin .sub (.t 43) (.t 44)) 41,gK 46 45 41 .gtr 1,oJ 47 41 46,oM 37 47] (cd 37 (sr [oP 48 (.bld #[zi,zt,zi,zi] [(0,1),(1,1),(2,1),(3,1)] []),oS 4 48 4,oM 5 1,oI 6 47] .ret) (sr [oM 50 9] (cd 50 (sr [oP 52 (.bld #[zi,zt,zi,zi] [(0,1),(1,1),(2,1),(3,1)] []),oS 4 52 4,oM 5 1,oI 6 5] .ret) .skip))))) (sr [oP 56 (.bld #[zi,zt,zi,zi] [(0,1),(1,1),(2,1),(3,1)] [(0,.k (.int .i64 3)),(2,.t 8),(3,.t 1)]),oS 4 56 4,oM 5 7,oI 6 0] .ret)))),[.cell 4 4 true,.tmp 5,.tmp 6]⟩
theorem is114:IsFnO Tryz.prog 114 ir114:=.of 209985591304035340 (by kernel_rfl)
def ir115:IFn:=⟨76,sr [oW 4 (.agg #[zi,zt,zi,zi]),oI 5 0,oI 6 0] (sr [oV 7 zs] (.seq (sr [oK 11 1 .add 1,oM 8 11] (.blk 0 (.loop (.seq (sr [oP 14 (.lens (.t 0)),oB 15 8 14 .lss] (cd 15 .skip (.exit 0))) (.seq (.blk 1 (sr [oP 20 (.idx (.t 0) (.t 8)),oM 9 20] (.seq (.blk 2 (sr [oP 23 (.bin .eql (.t 9) (.k (.int .u8 34))),oM 21 23] (cd 21 (.seq (sr [oH 25 7,oK 26 25 .gtr 32] (cd 26 (sr [oP 27 (.bld #[zi,zt,zi,zi] [(0,1),(1,1),(2,1),(3,1)] []),oS 4 27 4,oM 5 1,oI 6 9] .ret) .skip)) (sr [oP 30 (.cvbs (.t 7)),oP 32 (.bld #[zi,zt,zi,zi] [(0,1),(1,1),(2,1),(3,1)] [(0,.k (.int .i64 4)),(1,.t 30),(3,.t 1)]),oK 34 8 .add 1,oS 4 32 4,oM 5 34,oI 6 0] .ret)) (sr [oP 37 (.bin .lss (.t 9) (.k (.int .u8 32))),hM 39 9 37,oR 40 (.bin .gtr (.t 39) (.k (.int .u8 126))) 37,oO 41 37 40,oM 35 41] (cd 35 (sr [oP 42 (.bld #[zi,zt,zi,zi] [(0,1),(1,1),(2,1),(3,1)] []),oS 4 42 4,oM 5 1,oI 6 48] .ret) (sr [oP 46 (.bin .eql (.t 9) (.k (.int .u8 92))),oM 44 46] (cd 44 (sr [oK 48 8 .add 1,oM 8 48] (.seq (sr [oP 51 (.lens (.t 0)),oB 52 8 51 .geq,hM 54 0 52,hM 55 8 52,oR 56 (.idx (.t 54) (.t 55)) 52,oR 57 (.bin .neq (.t 56) (.k (.int .u8 34))) 52,hM 58 57 52,gM 59 0 58,gM 60 8 58,oG 61 (.idx (.t 59) (.t 60)) 58,oG 62 (.bin .neq (.t 61) (.k (.int .u8 92))) 58,oR 63 (.pick (.t 58) (.t 62) (.k (.bool false))) 52,oO 64 52 63] (cd 64 (sr [oP 65 (.bld #[zi,zt,zi,zi] [(0,1),(1,1),(2,1),(3,1)] []),oS 4 65 4,oM 5 1,oI 6 48] .ret) .skip)) (.reg [oP 69 (.idx (.t 0) (.t 8)),oM 9 69]))) .skip))))))) (.reg [⟨some 72,.new (.bsl 1 1 #[.int .u8 0] [(0,.t 9)]),none⟩,oT 73 7 72 1 1,oM 7 73])))) (.reg [oK 17 8 .add 1,oM 8 17])))))) (sr [oP 74 (.bld #[zi,zt,zi,zi] [(0,1),(1,1),(2,1),(3,1)] []),oS 4 74 4,oM 5 1,oI 6 48] .ret))),[.cell 4 4 true,.tmp 5,.tmp 6]⟩
theorem is115:IsFnO Tryz.prog 115 ir115:=.of 41837226440295493481484 (by kernel_rfl)
def ir116:IFn:=⟨2,sr [oV 0 zs] (sr [⟨some 1,.new (.bsl 1 21 #[zt] [(0,.k (.string ⟨#[60,61]⟩)),(1,.k (.string ⟨#[62,61]⟩)),(2,.k (.string ⟨#[61,61]⟩)),(3,.k (.string ⟨#[33,61]⟩)),(4,.k (.string ⟨#[38,38]⟩)),(5,.k (.string ⟨#[124,124]⟩)),(6,.k (.string ⟨#[123]⟩)),(7,.k (.string ⟨#[125]⟩)),(8,.k (.string ⟨#[40]⟩)),(9,.k (.string ⟨#[41]⟩)),(10,.k (.string ⟨#[59]⟩)),(11,.k (.string ⟨#[44]⟩)),(12,.k (.string ⟨#[61]⟩)),(13,.k (.string ⟨#[43]⟩)),(14,.k (.string ⟨#[45]⟩)),(15,.k (.string ⟨#[42]⟩)),(16,.k (.string ⟨#[47]⟩)),(17,.k (.string ⟨#[37]⟩)),(18,.k (.string ⟨#[33]⟩)),(19,.k (.string ⟨#[60]⟩)),(20,.k (.string ⟨#[62]⟩))]),none⟩,oM 0 1] .ret),[.tmp 0]⟩
theorem is116:IsFnO Tryz.prog 116 ir116:=.of 0 (by kernel_rfl)
def ir117:IFn:=⟨19,sr [oN 7 0,oF 8 7 3,oL 9 8,oK 10 9 .eql 0] (cd 10 (.reg [oN 15 0,oF 16 15 3,oS 16 2 1,oN 17 0,oF 18 17 4,oS 18 1 1]) .skip),[]⟩
theorem is117:IsFnO Tryz.prog 117 ir117:=.of 30840 (by kernel_rfl)
def ir118:IFn:=⟨28,sr [oW 2 (.agg #[zi,zt,zi,zi])] (.seq (.seq (.drw 10 (dQ [oM 3 0,oN 4 3,oF 5 4 2,oL 6 5,oM 7 0,oN 8 7,oF 9 8 0,oL 10 9,oH 11 10,oB 12 6 11 .lss] 0)) (cd 12 (.seq (.drw 11 (dQ [oM 13 0,oN 14 13,oF 15 14 0,oL 16 15,oM 17 0,oN 18 17,oF 19 18 2,oL 20 19,oA 21 16 20 4,oD 22 21 4,oS 2 22 4] 0)) .ret) .skip)) (sr [oN 24 0,oF 25 24 1,oL 26 25,oP 27 (.bld #[zi,zt,zi,zi] [(0,1),(1,1),(2,1),(3,1)] [(3,.t 26)]),oS 2 27 4] .ret)),[.cell 2 4 true]⟩
theorem is118:IsFnO Tryz.prog 118 ir118:=.of 8388610 (by kernel_rfl)
def ir119:IFn:=⟨6,sr [oV 2 zt] (sr [oC 4 120 [.t 0,.k (.int .i64 1)],oP 5 (.fld 1 1 false (.t 4)),oM 2 5] .ret),[.tmp 2]⟩
theorem is119:IsFnO Tryz.prog 119 ir119:=.of 10 (by kernel_rfl)
def ir120:IFn:=⟨23,sr [oW 4 (.agg #[zi,zt,zi,zi])] (sr [oC 7 118 [.t 0],oW 5 (.agg #[zi,zt,zi,zi]),oS 5 7 4] (.seq (sr [oC 10 137 [.t 0,.t 1],oY 11 10] (cd 11 (sr [oC 13 87 [.t 0]] (sr [oP 14 (.bld #[zi,zt,zi,zi] [(0,1),(1,1),(2,1),(3,1)] []),oS 4 14 4] .ret)) .skip)) (sr [oN 16 0,oF 17 16 2,oL 18 17,oK 19 18 .add 1,oN 20 0,oF 21 20 2,oS 21 19 1] (sr [oD 22 5 4,oS 4 22 4] .ret)))),[.cell 4 4 true]⟩
theorem is120:IsFnO Tryz.prog 120 ir120:=.of 37708 (by kernel_rfl)
def ir121:IFn:=⟨17,.seq (sr [oC 6 86 [.t 0,.t 1],oY 7 6] (cd 7 (sr [oC 9 87 [.t 0]] .ret) .skip)) (.reg [oN 11 0,oF 12 11 2,oL 13 12,oK 14 13 .add 1,oN 15 0,oF 16 15 2,oS 16 14 1]),[]⟩
theorem is121:IsFnO Tryz.prog 121 ir121:=.of 1340 (by kernel_rfl)
def ir122:IFn:=⟨2,sr [oV 0 zs] (sr [⟨some 1,.new (.bsl 1 6 #[zt] [(0,.k (.string ⟨#[115,116,97,114,116]⟩)),(1,.k (.string ⟨#[115,116,111,112]⟩)),(2,.k (.string ⟨#[99,108,111,115,101]⟩)),(3,.k (.string ⟨#[111,112,101,110]⟩)),(4,.k (.string ⟨#[116,105,109,101,114]⟩)),(5,.k (.string ⟨#[101,118,101,110,116]⟩))]),none⟩,oM 0 1] .ret),[.tmp 0]⟩
theorem is122:IsFnO Tryz.prog 122 ir122:=.of 0 (by kernel_rfl)
def ir123:IFn:=⟨40,sr [oV 4 zs] (sr [oV 5 zs] (sr [oC 7 121 [.t 0,.k (.string ⟨#[123]⟩)]] (.seq (.blk 0 (.loop (.seq (sr [oC 9 59 [.t 0],gM 11 0 9,⟨some 12,.call 86 [.t 11,.k (.string ⟨#[125]⟩)],some (9,true)⟩,oG 13 (.un .not (.t 12)) 9,oJ 14 9 13] (cd 14 .skip (.exit 0))) (.blk 1 (.seq (sr [oC 16 138 [],oC 17 82 [.t 0,.t 16],oK 18 17 .lss 0,gM 20 0 18,⟨some 21,.call 137 [.t 20,.k (.int .i64 1)],some (18,true)⟩,oG 22 (.un .not (.t 21)) 18,oJ 23 18 22] (cd 23 (sr [oC 25 87 [.t 0]] (sr [oV 4 zs] .ret)) .skip)) (sr [oH 28 5,oK 29 28 .add 1,oC 30 84 [.t 0,.t 29,.k (.int .i64 64),.k (.int .i64 9)]] (.reg [oC 34 139 [.t 0,.t 1],⟨some 35,.new (.bsl 7 1 #[zi,zt,zt,zs,zs,zs,zi] [(0,.t 34)]),none⟩,oT 36 5 35 7 120,oM 5 36]))))))) (sr [oC 38 121 [.t 0,.k (.string ⟨#[125]⟩)]] (sr [oM 4 5] .ret))))),[.tmp 4]⟩
theorem is123:IsFnO Tryz.prog 123 ir123:=.of 702445815116 (by kernel_rfl)
def ir124:IFn:=⟨100,sr [oX 1 0,oV 2 zs] (sr [oV 3 zs] (.seq (sr [oI 4 0] (.blk 0 (.loop (.seq (sr [oF 10 1 0,oL 11 10,oH 12 11,oB 13 4 12 .lss] (cd 13 .skip (.exit 0))) (.seq (.blk 1 (.reg [oF 17 1 0,oL 18 17,oA 20 18 4 4,oD 21 20 4,oC 22 140 [.t 21],oT 23 3 22 4 40,oM 3 23])) (.reg [oK 15 4 .add 1,oM 4 15])))))) (.seq (sr [oI 5 0] (.blk 2 (.loop (.seq (sr [oF 25 1 1,oL 26 25,oH 27 26,oB 28 5 27 .lss] (cd 28 .skip (.exit 2))) (.seq (.blk 3 (sr [oF 31 1 1,oL 32 31,oA 34 32 5 4,oD 35 34 4,oW 6 (.agg #[zt,zi,zs,zi]),oS 6 35 4] (.seq (.drw 15 ⟨[oM 36 3,⟨some 37,.new (.bsl 1 1 #[zt] [(0,.k (.string ⟨#[109,111,100,101]⟩))]),none⟩,oC 38 142 [.t 37],oF 39 6 0,oL 40 39,oC 41 143 [.t 40],oF 42 6 1,oL 43 42,oC 44 144 [.t 43],⟨some 45,.new (.bsl 1 1 #[zt] [(0,.k (.string ⟨#[123]⟩))]),none⟩,oC 46 142 [.t 45],⟨some 47,.new (.bsl 1 4 #[zs] [(0,.t 38),(1,.t 41),(2,.t 44),(3,.t 46)]),none⟩,oC 48 141 [.t 47],oT 49 36 48 4 40,oM 3 49],[],[(0,none),(1,none),(3,none),(4,none),(6,none),(7,none),(9,none),(2,some [0,3,4,6,7,9]),(5,some [0,6,7,9]),(8,some [0,9]),(10,some [0]),(11,none),(12,some [0]),(13,some []),(14,some [])]⟩) (.seq (sr [oI 7 0] (.blk 4 (.loop (.seq (sr [oF 51 6 2,oL 52 51,oH 53 52,oB 54 7 53 .lss] (cd 54 .skip (.exit 4))) (.seq (.blk 5 (sr [oF 57 6 2,oL 58 57,oA 60 58 7 4,oD 61 60 4,oW 8 (.agg #[zi,zt,zs,zi]),oS 8 61 4] (.seq (sr [oF 62 8 0,oL 63 62,oK 64 63 .lss 1,hF 66 8 0 64,hL 67 66 64,hK 68 67 64 .gtr 6,oO 69 64 68] (cd 69 (sr [oP 70 (.bld #[zi,zt,zi,zi] [(0,1),(1,1),(2,1),(3,1)] []),⟨some 71,.new (.bsl 4 1 #[zi,zt,zi,zi] [(0,.t 70)]),none⟩,oM 2 71] .ret) .skip)) (.seq (.drw 11 ⟨[oM 72 3,oC 73 122 [],oF 74 8 0,oL 75 74,oK 76 75 .sub 1,oA 77 73 76 1,oL 78 77,⟨some 79,.new (.bsl 1 2 #[zt] [(0,.k (.string ⟨#[111,110]⟩)),(1,.t 78)]),none⟩,oC 80 142 [.t 79],oT 81 72 80 4 40,oM 3 81],[],[(0,none),(2,none),(3,none),(4,none),(1,some [0,2,3,4]),(5,none),(6,none),(7,none),(8,some [0]),(9,some []),(10,some [])]⟩) (.seq (sr [oF 82 8 0,oL 83 82,oK 84 83 .gtr 2] (cd 84 (.reg [oF 86 8 1,oL 87 86,oC 88 143 [.t 87],oT 89 3 88 4 40,oM 3 89]) .skip)) (.reg [oF 91 8 2,oL 92 91,oC 93 145 [.t 92],oT 94 3 93 4 40,oM 3 94])))))) (.reg [oK 56 7 .add 1,oM 7 56])))))) (.reg [⟨some 96,.new (.bsl 1 1 #[zt] [(0,.k (.string ⟨#[125]⟩))]),none⟩,oC 97 142 [.t 96],oT 98 3 97 4 40,oM 3 98]))))) (.reg [oK 30 5 .add 1,oM 5 30])))))) (sr [oM 2 3] .ret)))),[.tmp 2]⟩
theorem is124:IsFnO Tryz.prog 124 ir124:=.of 674716007074267021559405822464 (by kernel_rfl)
def ir125:IFn:=⟨135,sr [oX 2 0,oX 3 1,oV 4 (.bool false)] (.seq (sr [oF 12 2 0,oL 13 12,oH 14 13,oF 15 3 0,oL 16 15,oH 17 16,oB 18 14 17 .neq,hF 20 2 1 18,hL 21 20 18,oR 22 (.len (.t 21)) 18,hF 23 3 1 18,hL 24 23 18,oR 25 (.len (.t 24)) 18,oR 26 (.bin .neq (.t 22) (.t 25)) 18,oO 27 18 26] (cd 27 (sr [oV 4 (.bool false)] .ret) .skip)) (.seq (sr [oI 5 0] (.blk 0 (.loop (.seq (sr [oF 29 2 0,oL 30 29,oH 31 30,oB 32 5 31 .lss] (cd 32 .skip (.exit 0))) (.seq (.blk 1 (.seq (.drw 11 (dQ [oF 35 2 0,oL 36 35,oM 37 5,oA 38 36 37 4,oD 39 38 4,oF 40 3 0,oL 41 40,oM 42 5,oA 43 41 42 4,oD 44 43 4,oP 45 (.eqa true [0,2,0,0] (.t 39) (.t 44))] 0)) (cd 45 (sr [oV 4 (.bool false)] .ret) .skip))) (.reg [oK 34 5 .add 1,oM 5 34])))))) (.seq (sr [oI 6 0] (.blk 2 (.loop (.seq (sr [oF 47 2 1,oL 48 47,oH 49 48,oB 50 6 49 .lss] (cd 50 .skip (.exit 2))) (.seq (.blk 3 (.seq (.drw 14 ⟨[oF 53 2 1,oL 54 53,oM 55 6,oA 56 54 55 4,oD 57 56 4,oF 58 3 1,oL 59 58,oM 60 6,oA 61 59 60 4,oD 62 61 4,oW 7 (.agg #[zt,zi,zs,zi]),oW 8 (.agg #[zt,zi,zs,zi]),oS 7 57 4,oS 8 62 4],[],[(0,none),(1,none),(2,none),(3,none),(4,none),(5,none),(6,none),(7,none),(8,none),(9,none),(10,none),(11,none),(12,some [5,6,7,8,9]),(13,some [])]⟩) (.seq (sr [oF 63 7 0,oL 64 63,oF 65 8 0,oL 66 65,oB 67 64 66 .neq,hF 69 7 1 67,hL 70 69 67,hF 71 8 1 67,hL 72 71 67,oR 73 (.bin .neq (.t 70) (.t 72)) 67,oO 74 67 73,hF 76 7 3 74,hL 77 76 74,hF 78 8 3 74,hL 79 78 74,oR 80 (.bin .neq (.t 77) (.t 79)) 74,oO 81 74 80,hF 83 7 2 81,hL 84 83 81,oR 85 (.len (.t 84)) 81,hF 86 8 2 81,hL 87 86 81,oR 88 (.len (.t 87)) 81,oR 89 (.bin .neq (.t 85) (.t 88)) 81,oO 90 81 89] (cd 90 (sr [oV 4 (.bool false)] .ret) .skip)) (sr [oI 9 0] (.blk 4 (.loop (.seq (sr [oF 92 7 2,oL 93 92,oH 94 93,oB 95 9 94 .lss] (cd 95 .skip (.exit 4))) (.seq (.blk 5 (.seq (.drw 14 ⟨[oF 98 7 2,oL 99 98,oM 100 9,oA 101 99 100 4,oD 102 101 4,oF 103 8 2,oL 104 103,oM 105 9,oA 106 104 105 4,oD 107 106 4,oW 10 (.agg #[zi,zt,zs,zi]),oW 11 (.agg #[zi,zt,zs,zi]),oS 10 102 4,oS 11 107 4],[],[(0,none),(1,none),(2,none),(3,none),(4,none),(5,none),(6,none),(7,none),(8,none),(9,none),(10,none),(11,none),(12,some [5,6,7,8,9]),(13,some [])]⟩) (sr [oF 108 10 0,oL 109 108,oF 110 11 0,oL 111 110,oB 112 109 111 .neq,hF 114 10 1 112,hL 115 114 112,hF 116 11 1 112,hL 117 116 112,oR 118 (.bin .neq (.t 115) (.t 117)) 112,oO 119 112 118,hF 121 10 3 119,hL 122 121 119,hF 123 11 3 119,hL 124 123 119,oR 125 (.bin .neq (.t 122) (.t 124)) 119,oO 126 119 125,hF 128 10 2 126,hL 129 128 126,hF 130 11 2 126,hL 131 130 126,⟨some 132,.call 146 [.t 129,.t 131],some (126,false)⟩,oR 133 (.un .not (.t 132)) 126,oO 134 126 133] (cd 134 (sr [oV 4 (.bool false)] .ret) .skip)))) (.reg [oK 97 9 .add 1,oM 9 97]))))))))) (.reg [oK 52 6 .add 1,oM 6 52])))))) (sr [oV 4 (.bool true)] .ret)))),[.tmp 4]⟩
theorem is125:IsFnO Tryz.prog 125 ir125:=.of 171480796131680133630043818742795206656 (by kernel_rfl)
def ir126:IFn:=⟨89,sr [oX 1 0,oW 2 (.agg #[zs,zs])] (sr [oW 3 (.agg #[zs,zs])] (.seq (sr [oI 4 0] (.blk 0 (.loop (.seq (sr [oF 11 1 0,oL 12 11,oH 13 12,oB 14 4 13 .lss] (cd 14 .skip (.exit 0))) (.seq (.blk 1 (sr [oF 17 1 0,oL 18 17,oA 20 18 4 4,oD 21 20 4,oW 5 (.agg #[zi,zt,zi,zi]),oS 5 21 4] (sr [oF 22 5 3,⟨none,.eff (.st 1 (.t 22) (.k zi)),none⟩] (.reg [oF 23 3 0,oL 24 23,oD 25 5 4,⟨some 26,.new (.bsl 4 1 #[zi,zt,zi,zi] [(0,.t 25)]),none⟩,oT 27 24 26 4 40,oF 28 3 0,oS 28 27 1])))) (.reg [oK 16 4 .add 1,oM 4 16])))))) (.seq (sr [oI 6 0] (.blk 2 (.loop (.seq (sr [oF 30 1 1,oL 31 30,oH 32 31,oB 33 6 32 .lss] (cd 33 .skip (.exit 2))) (.seq (.blk 3 (.seq (.drw 15 ⟨[oF 36 1 1,oL 37 36,oM 38 6,oA 39 37 38 4,oF 40 39 0,oL 41 40,oF 42 1 1,oL 43 42,oM 44 6,oA 45 43 44 4,oF 46 45 1,oL 47 46,oP 48 (.bld #[zt,zi,zs,zi] [(0,1),(1,1),(2,1),(3,1)] [(0,.t 41),(1,.t 47)]),oW 7 (.agg #[zt,zi,zs,zi]),oS 7 48 4],[],[(0,none),(1,none),(2,none),(3,none),(4,none),(5,none),(6,none),(7,none),(8,none),(9,none),(10,none),(11,none),(12,none),(13,none),(14,some [])]⟩) (.seq (sr [oI 8 0] (.blk 4 (.loop (.seq (sr [oF 50 1 1,oL 51 50,oA 53 51 6 4,oF 54 53 2,oL 55 54,oH 56 55,oB 57 8 56 .lss] (cd 57 .skip (.exit 4))) (.seq (.blk 5 (sr [oF 60 1 1,oL 61 60,oA 63 61 6 4,oF 64 63 2,oL 65 64,oA 67 65 8 4,oD 68 67 4,oW 9 (.agg #[zi,zt,zs,zi]),oS 9 68 4] (.drw 14 ⟨[oF 69 7 2,oL 70 69,oF 71 9 0,oL 72 71,oF 73 9 1,oL 74 73,oF 75 9 2,oL 76 75,oC 77 147 [.t 76],oP 78 (.bld #[zi,zt,zs,zi] [(0,1),(1,1),(2,1),(3,1)] [(0,.t 72),(1,.t 74),(2,.t 77)]),⟨some 79,.new (.bsl 4 1 #[zi,zt,zs,zi] [(0,.t 78)]),none⟩,oT 80 70 79 4 56,oF 81 7 2,oS 81 80 1],[],[(0,none),(1,none),(2,none),(3,none),(4,none),(5,none),(6,none),(7,none),(8,some [0,1,2,3,4,5]),(9,none),(10,none),(11,some []),(12,none),(13,some [])]⟩))) (.reg [oK 59 8 .add 1,oM 8 59])))))) (.reg [oF 82 3 1,oL 83 82,oD 84 7 4,⟨some 85,.new (.bsl 4 1 #[zt,zi,zs,zi] [(0,.t 84)]),none⟩,oT 86 83 85 4 56,oF 87 3 1,oS 87 86 1])))) (.reg [oK 35 6 .add 1,oM 6 35])))))) (sr [oD 88 3 2,oS 2 88 2] .ret)))),[.cell 2 2 true]⟩
theorem is126:IsFnO Tryz.prog 126 ir126:=.of 78691959256715396096 (by kernel_rfl)
def ir127:IFn:=⟨12,sr [oI 2 0] (.seq (sr [oM 3 0] (.blk 0 (sr [oK 5 3 .eql 1,oM 4 5] (cd 4 (sr [oI 2 63] .ret) (sr [oK 7 3 .eql 2,oM 6 7] (cd 6 (sr [oI 2 31] .ret) (.seq (sr [oK 9 3 .eql 3,oM 8 9] (cd 8 .skip (sr [oK 10 3 .eql 4,oM 8 10] (cd 8 .skip (.reg [oK 11 3 .eql 5,oM 8 11]))))) (cd 8 (sr [oI 2 63] .ret) .skip)))))))) (sr [oI 2 2147483647] .ret)),[.tmp 2]⟩
theorem is127:IsFnO Tryz.prog 127 ir127:=.of 2 (by kernel_rfl)
def ir128:IFn:=⟨58,sr [oX 2 0,oI 4 0,oI 5 0] (.seq (sr [oI 6 0] (.blk 0 (.loop (.seq (sr [oF 10 2 0,oL 11 10,oH 12 11,oB 13 6 12 .lss] (cd 13 .skip (.exit 0))) (.seq (.blk 1 (sr [oF 16 2 0,oL 17 16,oA 19 17 6 4,oD 20 19 4,oW 7 (.agg #[zi,zt,zi,zi]),oS 7 20 4] (.seq (sr [oF 21 7 1,oL 22 21,oB 24 22 1 .neq] (cd 24 (.exit 1) .skip)) (.seq (sr [oF 25 7 0,oL 26 25,oK 27 26 .lss 6] (cd 27 (.seq (.drw 6 ⟨[oF 28 7 0,oL 29 28,oF 30 7 2,oL 31 30,oM 4 29,oM 5 31],[],[(0,none),(1,none),(2,none),(3,none),(4,some [2,3]),(5,some [])]⟩) .ret) .skip)) (.seq (.drw 12 ⟨[oF 32 7 0,oL 33 32,oF 34 2 0,oL 35 34,oM 36 6,oP 37 (.slc 4 (.t 35) none (some (.t 36))),oP 38 (.bld #[zs,zs] [(0,1),(1,1)] [(0,.t 37)]),oF 39 7 0,oL 40 39,oC 41 94 [.t 38,.t 40],oM 4 33,oM 5 41],[],[(0,none),(1,none),(2,none),(3,none),(4,none),(5,none),(6,none),(7,none),(8,none),(9,some [0,1]),(10,some []),(11,some [])]⟩) .ret))))) (.reg [oK 15 6 .add 1,oM 6 15])))))) (.seq (sr [oI 8 0] (.blk 2 (.loop (.seq (sr [oF 43 2 1,oL 44 43,oH 45 44,oB 46 8 45 .lss] (cd 46 .skip (.exit 2))) (.seq (.blk 3 (sr [oF 49 2 1,oL 50 49,oA 52 50 8 4,oF 53 52 0,oL 54 53,oB 56 54 1 .eql] (cd 56 (sr [oI 4 9,oM 5 8] .ret) .skip))) (.reg [oK 48 8 .add 1,oM 8 48])))))) (sr [oI 4 0,oI 5 0] .ret))),[.tmp 4,.tmp 5]⟩
theorem is128:IsFnO Tryz.prog 128 ir128:=.of 182540920452039176 (by kernel_rfl)
def ir129:IFn:=⟨26,sr [oI 2 0] (.seq (sr [oM 3 0] (.blk 0 (sr [oK 5 3 .eql 1,oM 4 5] (cd 4 (sr [oI 2 6] .ret) (.seq (sr [oK 7 3 .eql 5,oM 6 7] (cd 6 .skip (sr [oK 8 3 .eql 6,oM 6 8] (cd 6 .skip (.reg [oK 9 3 .eql 7,oM 6 9]))))) (cd 6 (sr [oI 2 2] .ret) (.seq (sr [oK 11 3 .eql 8,oM 10 11] (cd 10 .skip (.reg [oK 12 3 .eql 9,oM 10 12]))) (cd 10 (sr [oI 2 3] .ret) (.seq (sr [oK 14 3 .eql 10,oM 13 14] (cd 13 .skip (.reg [oK 15 3 .eql 11,oM 13 15]))) (cd 13 (sr [oI 2 7] .ret) (.seq (sr [oK 17 3 .eql 12,oM 16 17] (cd 16 .skip (.reg [oK 18 3 .eql 13,oM 16 18]))) (cd 16 (sr [oI 2 9] .ret) (sr [oK 20 3 .eql 14,oM 19 20] (cd 19 (sr [oI 2 8] .ret) (sr [oK 22 3 .eql 15,oM 21 22] (cd 21 (sr [oI 2 4] .ret) (.seq (sr [oK 24 3 .eql 16,oM 23 24] (cd 23 .skip (.reg [oK 25 3 .eql 17,oM 23 25]))) (cd 23 (sr [oI 2 5] .ret) .skip)))))))))))))))))) (sr [oI 2 0] .ret)),[.tmp 2]⟩
theorem is129:IsFnO Tryz.prog 129 ir129:=.of 2 (by kernel_rfl)
def ir130:IFn:=⟨94,sr [oX 2 0,oX 3 1,oI 4 0,oI 5 0,oI 6 0] (sr [oV 7 zs] (.seq (sr [oI 8 0] (.blk 0 (.loop (.seq (sr [oF 16 3 3,oL 17 16,oH 18 17,oB 19 8 18 .lss] (cd 19 .skip (.exit 0))) (.seq (.blk 1 (.seq (.drw 14 ⟨[oD 23 2 2,oF 24 3 3,oL 25 24,oM 26 8,oA 27 25 26 5,oD 28 27 5,oC 29 130 [.t 23,.t 28],oM 22 29,oE 30 22 0,oE 31 22 1,oE 32 22 2,oM 9 30,oM 10 31,oM 11 32],[],[(0,none),(1,none),(2,none),(3,none),(4,none),(5,none),(6,some []),(7,none),(8,none),(9,none),(10,none),(11,some [9,10]),(12,some [10]),(13,some [])]⟩) (.seq (sr [oK 34 11 .neq 0] (cd 34 (sr [oI 4 0,oM 5 10,oM 6 11] .ret) .skip)) (.reg [⟨some 39,.new (.bsl 1 1 #[zi] [(0,.t 9)]),none⟩,oT 40 7 39 1 8,oM 7 40])))) (.reg [oK 21 8 .add 1,oM 8 21])))))) (.seq (.seq (.drw 8 ⟨[oD 41 2 2,oF 42 3 2,oL 43 42,oF 44 3 0,oL 45 44,oC 46 148 [.t 45],oC 47 91 [.t 41,.t 43,.t 46],oM 12 47],[],[(0,none),(1,none),(2,none),(3,none),(4,none),(5,some [0,1,2]),(6,some []),(7,some [])]⟩) (sr [oK 49 12 .neq 0] (cd 49 (.seq (.drw 6 ⟨[oF 50 3 4,oL 51 50,oM 52 12,oI 4 0,oM 5 51,oM 6 52],[],[(0,none),(1,none),(2,none),(3,some [0,1,2]),(4,some [2]),(5,some [])]⟩) .ret) .skip))) (sr [oI 13 1] (.seq (sr [oF 53 3 0,oL 54 53,oK 55 54 .eql 11,hF 57 3 0 55,hL 58 57 55,hK 59 58 55 .eql 23,oO 60 55 59,hF 62 3 0 60,hL 63 62 60,hK 64 63 60 .eql 24,oO 65 60 64] (cd 65 (.reg [oI 13 2]) .skip)) (.seq (sr [oF 66 3 0,oL 67 66,oK 68 67 .eql 21,hF 70 3 0 68,hL 71 70 68,hK 72 71 68 .eql 22,oO 73 68 72] (cd 73 (.reg [oP 75 (.iad 1 (.t 7) (.k zi)),oL 76 75,oM 13 76]) .skip)) (.seq (sr [oI 14 0] (.blk 2 (.loop (.seq (sr [oH 79 7,oB 80 14 79 .lss] (cd 80 .skip (.exit 2))) (.seq (.blk 3 (sr [oA 85 7 14 1,oL 86 85,oB 88 86 13 .neq] (cd 88 (.seq (.drw 5 ⟨[oF 89 3 4,oL 90 89,oI 4 0,oM 5 90,oI 6 49],[],[(0,none),(1,none),(2,some [0,1]),(3,some []),(4,some [])]⟩) .ret) .skip))) (.reg [oK 82 14 .add 1,oM 14 82])))))) (.seq (sr [oF 91 3 0,oL 92 91,oC 93 149 [.t 92]] (cd 93 (sr [oI 4 2,oI 5 0,oI 6 0] .ret) .skip)) (sr [oI 4 1,oI 5 0,oI 6 0] .ret))))))))),[.tmp 4,.tmp 5,.tmp 6]⟩
theorem is130:IsFnO Tryz.prog 130 ir130:=.of 186647405542932818347196416 (by kernel_rfl)
def ir131:IFn:=⟨14,sr [oX 2 0,oI 4 0,oI 5 0] (.seq (sr [oD 6 2 2,oC 7 89 [.t 6],oY 8 7] (cd 8 (sr [oI 4 0,oI 5 0] .ret) .skip)) (sr [oD 9 2 2,oC 11 128 [.t 9,.t 1],oE 12 11 0,oE 13 11 1,oM 4 12,oM 5 13] .ret)),[.tmp 4,.tmp 5]⟩
theorem is131:IsFnO Tryz.prog 131 ir131:=.of 1032 (by kernel_rfl)
def ir132:IFn:=⟨87,sr [oX 3 1] (.seq (sr [oI 4 0] (.blk 0 (.loop (.seq (sr [oF 6 3 3,oL 7 6,oH 8 7,oB 9 4 8 .lss] (cd 9 .skip (.exit 0))) (.seq (.blk 1 (.reg [oF 13 3 3,oL 14 13,oA 16 14 4 5,oD 17 16 5,oC 18 132 [.t 0,.t 17]])) (.reg [oK 11 4 .add 1,oM 4 11])))))) (sr [oF 19 3 0,oL 20 19] (.blk 2 (sr [oK 26 20 .eql 1,oM 25 26] (cd 25 (.reg [oF 28 3 1,oL 29 28,oC 30 64 [.t 0,.k (.int .i64 1),.t 29]]) (sr [oK 32 20 .eql 3,oM 31 32] (cd 31 (.reg [oC 34 64 [.t 0,.k (.int .i64 1),.k (.int .i64 1)]]) (sr [oK 36 20 .eql 4,oM 35 36] (cd 35 (.reg [oC 38 64 [.t 0,.k (.int .i64 1),.k zi]]) (sr [oK 40 20 .eql 2,oM 39 40] (cd 39 (.reg [oF 43 3 2,oL 44 43,oC 45 95 [.t 0,.t 44],oC 46 64 [.t 0,.k (.int .i64 2),.t 45]]) (sr [oK 48 20 .eql 5,oM 47 48] (cd 47 (.reg [oF 51 3 2,oL 52 51,oC 53 95 [.t 0,.t 52],oC 54 64 [.t 0,.k (.int .i64 4),.t 53]]) (sr [oK 56 20 .eql 6,oM 55 56] (cd 55 (.reg [oF 59 3 2,oL 60 59,oC 61 95 [.t 0,.t 60],oC 62 64 [.t 0,.k (.int .i64 5),.t 61]]) (sr [oK 64 20 .eql 7,oM 63 64] (cd 63 (.reg [oF 67 3 2,oL 68 67,oC 69 95 [.t 0,.t 68],oC 70 64 [.t 0,.k (.int .i64 6),.t 69]]) (sr [oK 72 20 .eql 8,oM 71 72] (cd 71 (.reg [oC 74 64 [.t 0,.k (.int .i64 7),.k zi]]) (sr [oK 76 20 .eql 9,oM 75 76] (cd 75 (.reg [oC 78 64 [.t 0,.k (.int .i64 8),.k zi]]) (sr [oK 80 20 .eql 10,oM 79 80] (cd 79 (.reg [oC 82 64 [.t 0,.k (.int .i64 9),.k zi]]) (sr [oK 84 20 .eql 11,oM 83 84] (cd 83 (.reg [oC 86 64 [.t 0,.k (.int .i64 10),.k zi]]) (.reg [oF 22 3 0,oL 23 22,oC 24 64 [.t 0,.k (.int .i64 11),.t 23]])))))))))))))))))))))))))),[]⟩
theorem is132:IsFnO Tryz.prog 132 ir132:=.of 41264149441820559457424420 (by kernel_rfl)
def ir133:IFn:=⟨41,sr [oI 4 0] (.seq (sr [oI 5 0] (.blk 0 (.loop (.seq (sr [oN 8 0,oF 9 8 3,oL 10 9,oH 11 10,oB 12 5 11 .lss] (cd 12 .skip (.exit 0))) (.seq (.blk 1 (sr [oN 16 0,oF 17 16 3,oL 18 17,oA 20 18 5 1,oL 21 20,oB 23 21 1 .eql] (cd 23 (sr [oM 4 5] .ret) .skip))) (.reg [oK 14 5 .add 1,oM 5 14])))))) (sr [oN 27 0,oF 28 27 3,oL 29 28,⟨some 31,.new (.bsl 1 1 #[zt] [(0,.t 1)]),none⟩,oT 32 29 31 1 16,oN 33 0,oF 34 33 3,oS 34 32 1] (sr [oN 36 0,oF 37 36 3,oL 38 37,oH 39 38,oK 40 39 .sub 1,oM 4 40] .ret))),[.tmp 4]⟩
theorem is133:IsFnO Tryz.prog 133 ir133:=.of 35555680460 (by kernel_rfl)
def ir134:IFn:=⟨36,sr [oI 2 0] (.seq (sr [oM 3 0] (.blk 0 (sr [oK 5 3 .eql 1,oM 4 5] (cd 4 (sr [oI 2 3] .ret) (sr [oK 7 3 .eql 4,oM 6 7] (cd 6 (sr [oI 2 15] .ret) (sr [oK 9 3 .eql 5,oM 8 9] (cd 8 (sr [oI 2 16] .ret) (sr [oK 11 3 .eql 6,oM 10 11] (cd 10 (sr [oI 2 17] .ret) (sr [oK 13 3 .eql 7,oM 12 13] (cd 12 (sr [oI 2 18] .ret) (sr [oK 15 3 .eql 8,oM 14 15] (cd 14 (sr [oI 2 19] .ret) (sr [oK 17 3 .eql 9,oM 16 17] (cd 16 (sr [oI 2 20] .ret) (sr [oK 19 3 .eql 10,oM 18 19] (cd 18 (sr [oI 2 21] .ret) (sr [oK 21 3 .eql 11,oM 20 21] (cd 20 (sr [oI 2 22] .ret) (sr [oK 23 3 .eql 12,oM 22 23] (cd 22 (sr [oI 2 23] .ret) (sr [oK 25 3 .eql 13,oM 24 25] (cd 24 (sr [oI 2 24] .ret) (sr [oK 27 3 .eql 14,oM 26 27] (cd 26 (sr [oI 2 25] .ret) (sr [oK 29 3 .eql 15,oM 28 29] (cd 28 (sr [oI 2 26] .ret) (sr [oK 31 3 .eql 16,oM 30 31] (cd 30 (sr [oI 2 27] .ret) (sr [oK 33 3 .eql 17,oM 32 33] (cd 32 (sr [oI 2 28] .ret) (sr [oK 35 3 .eql 18,oM 34 35] (cd 34 (sr [oI 2 29] .ret) .skip)))))))))))))))))))))))))))))))))) (sr [oI 2 30] .ret)),[.tmp 2]⟩
theorem is134:IsFnO Tryz.prog 134 ir134:=.of 2 (by kernel_rfl)
def ir135:IFn:=⟨19,sr [oI 4 0] (.seq (sr [oH 7 0,oI 8 0] (.blk 0 (.loop (sr [oB 9 8 7 .lss] (.seq (cd 9 .skip (.exit 0)) (.seq (.blk 1 (sr [oM 5 8] (sr [oA 14 0 5 1,oL 15 14,⟨some 16,.callv (.t 1) [.t 15],none⟩] (cd 16 (sr [oM 4 5] .ret) .skip)))) (.reg [oK 18 8 .add 1,oM 8 18]))))))) (sr [oI 4 (-1)] .ret)),[.tmp 4]⟩
theorem is135:IsFnO Tryz.prog 135 ir135:=.of 146508 (by kernel_rfl)
def ir136:IFn:=⟨18,sr [oV 2 (.bool false)] (sr [oC 5 150 [],oM 3 5] (.seq (sr [oI 4 0] (.blk 0 (.loop (.seq (sr [oH 8 3,oB 9 4 8 .lss] (cd 9 .skip (.exit 0))) (.seq (.blk 1 (sr [oA 14 3 4 1,oL 15 14,oB 17 15 0 .eql] (cd 17 (sr [oV 2 (.bool true)] .ret) .skip))) (.reg [oK 11 4 .add 1,oM 4 11])))))) (sr [oV 2 (.bool false)] .ret))),[.tmp 2]⟩
theorem is136:IsFnO Tryz.prog 136 ir136:=.of 79042 (by kernel_rfl)
def ir137:IFn:=⟨14,sr [oV 4 (.bool false)] (sr [oC 6 59 [.t 0],gM 8 0 6,⟨some 9,.call 118 [.t 8],some (6,true)⟩,oG 10 (.fld 0 1 false (.t 9)) 6,gM 11 1 6,oG 12 (.bin .eql (.t 10) (.t 11)) 6,oJ 13 6 12,oM 4 13] .ret),[.tmp 4]⟩
theorem is137:IsFnO Tryz.prog 137 ir137:=.of 172 (by kernel_rfl)
def ir138:IFn:=⟨2,sr [oV 0 zs] (sr [⟨some 1,.new (.bsl 1 18 #[zt] [(0,.k (.string ⟨#[105,102]⟩)),(1,.k (.string ⟨#[114,101,112,101,97,116]⟩)),(2,.k (.string ⟨#[115,99,111,114,101]⟩)),(3,.k (.string ⟨#[102,105,114,101]⟩)),(4,.k (.string ⟨#[104,111,108,100]⟩)),(5,.k (.string ⟨#[114,101,108,101,97,115,101]⟩)),(6,.k (.string ⟨#[108,105,103,104,116]⟩)),(7,.k (.string ⟨#[98,108,105,110,107]⟩)),(8,.k (.string ⟨#[115,116,97,114,116]⟩)),(9,.k (.string ⟨#[115,116,111,112]⟩)),(10,.k (.string ⟨#[98,101,103,105,110]⟩)),(11,.k (.string ⟨#[101,110,100]⟩)),(12,.k (.string ⟨#[112,111,115,116]⟩)),(13,.k (.string ⟨#[112,108,97,121]⟩)),(14,.k (.string ⟨#[114,117,110]⟩)),(15,.k (.string ⟨#[104,97,108,116]⟩)),(16,.k (.string ⟨#[116,101,120,116]⟩)),(17,.k (.string ⟨#[99,111,110,115,117,109,101]⟩))]),none⟩,oM 0 1] .ret),[.tmp 0]⟩
theorem is138:IsFnO Tryz.prog 138 ir138:=.of 0 (by kernel_rfl)
def ir139:IFn:=⟨134,sr [oW 4 (.agg #[zi,zt,zt,zs,zs,zs,zi])] (sr [oC 9 84 [.t 0,.t 1,.k (.int .i64 8),.k (.int .i64 50)]] (.seq (sr [oC 11 59 [.t 0],oY 12 11] (cd 12 (sr [oP 13 (.bld #[zi,zt,zt,zs,zs,zs,zi] [(0,1),(1,1),(2,1),(3,1),(4,1),(5,1),(6,1)] []),oS 4 13 7] .ret) .skip)) (sr [oC 15 118 [.t 0],oP 16 (.fld 3 1 false (.t 15)),oP 17 (.bld #[zi,zt,zt,zs,zs,zs,zi] [(0,1),(1,1),(2,1),(3,1),(4,1),(5,1),(6,1)] [(6,.t 16)]),oW 5 (.agg #[zi,zt,zt,zs,zs,zs,zi]),oS 5 17 7] (sr [oC 19 138 [],oC 20 82 [.t 0,.t 19],oM 6 20] (.seq (sr [oK 22 6 .lss 0] (cd 22 (sr [oC 24 119 [.t 0],oF 25 5 0,⟨none,.eff (.st 1 (.t 25) (.k (.int .i64 1))),none⟩,oF 26 5 1,oS 26 24 1] (sr [oC 28 121 [.t 0,.k (.string ⟨#[61]⟩)]] (sr [oC 30 151 [.t 0],⟨some 31,.new (.bsl 5 1 #[zi,zi,zt,zs,zi] [(0,.t 30)]),none⟩,oF 32 5 3,oS 32 31 1] (sr [oC 34 121 [.t 0,.k (.string ⟨#[59]⟩)]] (sr [oD 35 5 7,oS 4 35 7] .ret))))) .skip)) (sr [oN 37 0,oF 38 37 2,oL 39 38,oK 40 39 .add 1,oN 41 0,oF 42 41 2,oS 42 40 1] (sr [oP 44 (.bin .add (.k (.int .i64 2)) (.t 6)),oF 45 5 0,oS 45 44 1] (.seq (sr [oF 46 5 0,oL 47 46] (.blk 0 (.seq (sr [oK 81 47 .eql 2,oM 80 81] (cd 80 .skip (.reg [oK 82 47 .eql 3,oM 80 82]))) (cd 80 (sr [oC 84 151 [.t 0],⟨some 85,.new (.bsl 5 1 #[zi,zi,zt,zs,zi] [(0,.t 84)]),none⟩,oF 86 5 3,oS 86 85 1] (sr [oK 89 1 .add 1,oC 90 123 [.t 0,.t 89],oF 91 5 4,oS 91 90 1] (.seq (sr [oF 92 5 0,oL 93 92,oK 94 93 .eql 2,gM 96 0 94,⟨some 97,.call 86 [.t 96,.k (.string ⟨#[101,108,115,101]⟩)],some (94,true)⟩,oJ 98 94 97] (cd 98 (sr [oN 100 0,oF 101 100 2,oL 102 101,oK 103 102 .add 1,oN 104 0,oF 105 104 2,oS 105 103 1] (.reg [oC 108 152 [.t 0,.t 1],oF 109 5 5,oS 109 108 1])) .skip)) (sr [oD 110 5 7,oS 4 110 7] .ret)))) (sr [oK 112 47 .eql 4,oM 111 112] (cd 111 (.reg [oC 114 151 [.t 0],⟨some 115,.new (.bsl 5 1 #[zi,zi,zt,zs,zi] [(0,.t 114)]),none⟩,oF 116 5 3,oS 116 115 1]) (sr [oK 118 47 .eql 18,oM 117 118] (cd 117 (sr [oC 120 120 [.t 0,.k (.int .i64 4)],oP 121 (.fld 1 1 false (.t 120)),oF 122 5 2,oS 122 121 1] (sr [oC 124 121 [.t 0,.k (.string ⟨#[44]⟩)]] (.reg [oC 126 151 [.t 0],⟨some 127,.new (.bsl 5 1 #[zi,zi,zt,zs,zi] [(0,.t 126)]),none⟩,oF 128 5 3,oS 128 127 1]))) (sr [oK 130 47 .eql 19,oM 129 130] (cd 129 .skip (sr [oC 49 119 [.t 0],oF 50 5 1,oS 50 49 1] (.seq (sr [oF 51 5 0,oL 52 51,oK 53 52 .eql 8,hF 55 5 0 53,hL 56 55 53,hK 57 56 53 .eql 9,oO 58 53 57,hF 60 5 0 58,hL 61 60 58,hK 62 61 58 .eql 10,oO 63 58 62] (cd 63 (.reg [oC 65 151 [.t 0],⟨some 66,.new (.bsl 5 1 #[zi,zi,zt,zs,zi] [(0,.t 65)]),none⟩,oF 67 5 3,oS 67 66 1]) .skip)) (sr [oF 68 5 0,oL 69 68,oK 70 69 .eql 9] (cd 70 (sr [oC 72 121 [.t 0,.k (.string ⟨#[44]⟩)]] (.drw 8 ⟨[oF 73 5 3,oL 74 73,oM 75 0,oC 76 151 [.t 75],⟨some 77,.new (.bsl 5 1 #[zi,zi,zt,zs,zi] [(0,.t 76)]),none⟩,oT 78 74 77 5 64,oF 79 5 3,oS 79 78 1],[],[(0,none),(1,none),(2,none),(3,some [0,1]),(4,none),(5,some []),(6,none),(7,some [])]⟩)) .skip)))))))))))))) (sr [oC 132 121 [.t 0,.k (.string ⟨#[59]⟩)]] (sr [oD 133 5 7,oS 4 133 7] .ret)))))))))),[.cell 4 7 true]⟩
theorem is139:IsFnO Tryz.prog 139 ir139:=.of 2776103297853342396707663748945187980684 (by kernel_rfl)
def ir140:IFn:=⟨65,sr [oX 1 0,oV 2 zs] (.seq (sr [oF 4 1 0,oL 5 4,oK 6 5 .lss 1,hF 8 1 0 6,hL 9 8 6,hK 10 9 6 .gtr 8,oO 11 6 10] (cd 11 (sr [oP 12 (.bld #[zi,zt,zi,zi] [(0,1),(1,1),(2,1),(3,1)] []),⟨some 13,.new (.bsl 4 1 #[zi,zt,zi,zi] [(0,.t 12)]),none⟩,oM 2 13] .ret) .skip)) (.seq (.drw 14 ⟨[oC 14 83 [],oF 15 1 0,oL 16 15,oK 17 16 .sub 1,oA 18 14 17 1,oL 19 18,⟨some 20,.new (.bsl 1 1 #[zt] [(0,.t 19)]),none⟩,oC 21 142 [.t 20],oF 22 1 1,oL 23 22,oC 24 143 [.t 23],⟨some 25,.new (.bsl 1 2 #[zs] [(0,.t 21),(1,.t 24)]),none⟩,oC 26 141 [.t 25],oM 3 26],[],[(1,none),(2,none),(3,none),(8,none),(9,none),(0,some [1,2,3,8,9]),(4,none),(5,none),(6,none),(7,some [8,9]),(10,some []),(11,none),(12,some []),(13,some [])]⟩) (.seq (.blk 0 (sr [oF 34 1 0,oL 35 34,oK 36 35 .gtr 6,oM 33 36] (cd 33 .skip (sr [oF 38 1 2,oL 39 38,oK 40 39 .lss 0,gF 42 1 2 40,gL 43 42 40,gK 44 43 40 .geq (-2147483647),oJ 45 40 44,gF 47 1 0 45,gL 48 47 45,gK 49 48 45 .eql 6,oJ 50 45 49,oM 37 50] (cd 37 (.drw 10 ⟨[oM 51 3,⟨some 52,.new (.bsl 1 1 #[zt] [(0,.k (.string ⟨#[45]⟩))]),none⟩,oC 53 142 [.t 52],oF 54 1 2,oL 55 54,oP 56 (.un .neg (.t 55)),oC 57 144 [.t 56],⟨some 58,.new (.bsl 1 3 #[zs] [(0,.t 51),(1,.t 53),(2,.t 57)]),none⟩,oC 59 141 [.t 58],oM 3 59],[],[(0,none),(1,none),(3,none),(4,none),(5,none),(2,some [0,3,4,5]),(6,some [0]),(7,none),(8,some []),(9,some [])]⟩) (.reg [oF 28 1 2,oL 29 28,oC 30 144 [.t 29],⟨some 31,.new (.bsl 1 2 #[zs] [(0,.t 3),(1,.t 30)]),none⟩,oC 32 141 [.t 31],oM 3 32])))))) (sr [⟨some 61,.new (.bsl 1 1 #[zt] [(0,.k (.string ⟨#[59]⟩))]),none⟩,oC 62 142 [.t 61],⟨some 63,.new (.bsl 1 2 #[zs] [(0,.t 3),(1,.t 62)]),none⟩,oC 64 141 [.t 63],oM 2 64] .ret)))),[.tmp 2]⟩
theorem is140:IsFnO Tryz.prog 140 ir140:=.of 1152994072508498048 (by kernel_rfl)
def ir141:IFn:=⟨18,sr [oV 2 zs] (sr [oV 3 zs] (.seq (sr [oI 4 0] (.blk 0 (.loop (.seq (sr [oH 7 0,oB 8 4 7 .lss] (cd 8 .skip (.exit 0))) (.seq (.blk 1 (.reg [oA 14 0 4 1,oL 15 14,oT 16 3 15 4 40,oM 3 16])) (.reg [oK 10 4 .add 1,oM 4 10])))))) (sr [oM 2 3] .ret))),[.tmp 2]⟩
theorem is141:IsFnO Tryz.prog 141 ir141:=.of 146018 (by kernel_rfl)
def ir142:IFn:=⟨34,sr [oV 2 zs] (sr [oV 3 zs] (.seq (sr [oI 4 0] (.blk 0 (.loop (.seq (sr [oH 8 0,oB 9 4 8 .lss] (cd 9 .skip (.exit 0))) (.seq (.blk 1 (sr [oA 14 0 4 1,oL 15 14,oP 16 (.bld #[zi,zt,zi,zi] [(0,1),(1,1),(2,1),(3,1)] [(0,.k (.int .i64 5)),(1,.t 15)]),oW 5 (.agg #[zi,zt,zi,zi]),oS 5 16 4] (.seq (sr [oA 19 0 4 1,oL 20 19,oC 21 136 [.t 20]] (cd 21 (.reg [oF 22 5 0,⟨none,.eff (.st 1 (.t 22) (.k (.int .i64 2))),none⟩]) (sr [oA 25 0 4 1,oL 26 25,oC 27 153 [.t 26]] (cd 27 (.reg [oF 28 5 0,⟨none,.eff (.st 1 (.t 28) (.k (.int .i64 1))),none⟩]) .skip)))) (.reg [oD 30 5 4,⟨some 31,.new (.bsl 4 1 #[zi,zt,zi,zi] [(0,.t 30)]),none⟩,oT 32 3 31 4 40,oM 3 32])))) (.reg [oK 11 4 .add 1,oM 4 11])))))) (sr [oM 2 3] .ret))),[.tmp 2]⟩
theorem is142:IsFnO Tryz.prog 142 ir142:=.of 9152378050 (by kernel_rfl)
def ir143:IFn:=⟨11,sr [oV 2 zs] (.seq (sr [oC 4 153 [.t 0],oY 5 4] (cd 5 (sr [oP 6 (.bld #[zi,zt,zi,zi] [(0,1),(1,1),(2,1),(3,1)] []),⟨some 7,.new (.bsl 4 1 #[zi,zt,zi,zi] [(0,.t 6)]),none⟩,oM 2 7] .ret) .skip)) (sr [oP 9 (.bld #[zi,zt,zi,zi] [(0,1),(1,1),(2,1),(3,1)] [(0,.k (.int .i64 1)),(1,.t 0)]),⟨some 10,.new (.bsl 4 1 #[zi,zt,zi,zi] [(0,.t 9)]),none⟩,oM 2 10] .ret)),[.tmp 2]⟩
theorem is143:IsFnO Tryz.prog 143 ir143:=.of 266 (by kernel_rfl)
def ir144:IFn:=⟨14,sr [oV 2 zs] (.seq (sr [oK 4 0 .lss 0,hM 6 0 4,hK 7 6 4 .gtr 2147483647,oO 8 4 7] (cd 8 (sr [oP 9 (.bld #[zi,zt,zi,zi] [(0,1),(1,1),(2,1),(3,1)] []),⟨some 10,.new (.bsl 4 1 #[zi,zt,zi,zi] [(0,.t 9)]),none⟩,oM 2 10] .ret) .skip)) (sr [oP 12 (.bld #[zi,zt,zi,zi] [(0,1),(1,1),(2,1),(3,1)] [(0,.k (.int .i64 3)),(2,.t 0)]),⟨some 13,.new (.bsl 4 1 #[zi,zt,zi,zi] [(0,.t 12)]),none⟩,oM 2 13] .ret)),[.tmp 2]⟩
theorem is144:IsFnO Tryz.prog 144 ir144:=.of 2090 (by kernel_rfl)
def ir145:IFn:=⟨24,sr [oV 2 zs] (sr [⟨some 5,.new (.bsl 1 1 #[zt] [(0,.k (.string ⟨#[123]⟩))]),none⟩,oC 6 142 [.t 5],oM 3 6] (.seq (sr [oI 4 0] (.blk 0 (.loop (.seq (sr [oH 9 0,oB 10 4 9 .lss] (cd 10 .skip (.exit 0))) (.seq (.blk 1 (.reg [oA 16 0 4 7,oD 17 16 7,oC 18 154 [.t 17],oT 19 3 18 4 40,oM 3 19])) (.reg [oK 12 4 .add 1,oM 4 12])))))) (sr [⟨some 21,.new (.bsl 1 1 #[zt] [(0,.k (.string ⟨#[125]⟩))]),none⟩,oC 22 142 [.t 21],oT 23 3 22 4 40,oM 2 23] .ret))),[.tmp 2]⟩
theorem is145:IsFnO Tryz.prog 145 ir145:=.of 1108354 (by kernel_rfl)
def ir146:IFn:=⟨77,sr [oV 4 (.bool false)] (.seq (sr [oH 9 0,oH 11 1,oB 12 9 11 .neq] (cd 12 (sr [oV 4 (.bool false)] .ret) .skip)) (.seq (sr [oI 5 0] (.blk 0 (.loop (.seq (sr [oH 15 0,oB 16 5 15 .lss] (cd 16 .skip (.exit 0))) (.seq (.blk 1 (.seq (.drw 12 ⟨[oM 19 0,oM 20 5,oA 21 19 20 7,oD 22 21 7,oM 23 1,oM 24 5,oA 25 23 24 7,oD 26 25 7,oW 6 (.agg #[zi,zt,zt,zs,zs,zs,zi]),oW 7 (.agg #[zi,zt,zt,zs,zs,zs,zi]),oS 6 22 7,oS 7 26 7],[],[(0,none),(1,none),(2,none),(3,none),(4,none),(5,none),(6,none),(7,none),(8,none),(9,none),(10,some [4,5,6,7]),(11,some [])]⟩) (sr [oF 27 6 0,oL 28 27,oF 29 7 0,oL 30 29,oB 31 28 30 .neq,hF 33 6 1 31,hL 34 33 31,hF 35 7 1 31,hL 36 35 31,oR 37 (.bin .neq (.t 34) (.t 36)) 31,oO 38 31 37,hF 40 6 2 38,hL 41 40 38,hF 42 7 2 38,hL 43 42 38,oR 44 (.bin .neq (.t 41) (.t 43)) 38,oO 45 38 44,hF 47 6 6 45,hL 48 47 45,hF 49 7 6 45,hL 50 49 45,oR 51 (.bin .neq (.t 48) (.t 50)) 45,oO 52 45 51,hF 54 6 3 52,hL 55 54 52,hF 56 7 3 52,hL 57 56 52,⟨some 58,.call 155 [.t 55,.t 57,.k (.bool false)],some (52,false)⟩,oR 59 (.un .not (.t 58)) 52,oO 60 52 59,hF 62 6 4 60,hL 63 62 60,hF 64 7 4 60,hL 65 64 60,⟨some 66,.call 146 [.t 63,.t 65],some (60,false)⟩,oR 67 (.un .not (.t 66)) 60,oO 68 60 67,hF 70 6 5 68,hL 71 70 68,hF 72 7 5 68,hL 73 72 68,⟨some 74,.call 146 [.t 71,.t 73],some (68,false)⟩,oR 75 (.un .not (.t 74)) 68,oO 76 68 75] (cd 76 (sr [oV 4 (.bool false)] .ret) .skip)))) (.reg [oK 18 5 .add 1,oM 5 18])))))) (sr [oV 4 (.bool true)] .ret))),[.tmp 4]⟩
theorem is146:IsFnO Tryz.prog 146 ir146:=.of 592610731489969202444 (by kernel_rfl)
def ir147:IFn:=⟨34,sr [oV 2 zs] (sr [oV 3 zs] (.seq (sr [oI 4 0] (.blk 0 (.loop (.seq (sr [oH 8 0,oB 9 4 8 .lss] (cd 9 .skip (.exit 0))) (.seq (.blk 1 (sr [oA 14 0 4 7,oD 15 14 7,oW 5 (.agg #[zi,zt,zt,zs,zs,zs,zi]),oS 5 15 7] (.seq (.drw 17 ⟨[oF 16 5 3,oL 17 16,oC 18 156 [.t 17],oF 19 5 4,oL 20 19,oC 21 147 [.t 20],oF 22 5 5,oL 23 22,oC 24 147 [.t 23],oF 25 5 6,⟨none,.eff (.st 1 (.t 25) (.k zi)),none⟩,oF 26 5 3,oS 26 18 1,oF 27 5 4,oS 27 21 1,oF 28 5 5,oS 28 24 1],[],[(0,none),(1,none),(3,none),(4,none),(6,none),(7,none),(9,none),(2,some [3,4,6,7,9]),(5,some [6,7,9]),(8,some [9]),(10,some []),(11,none),(12,some []),(13,none),(14,some []),(15,none),(16,some [])]⟩) (.reg [oD 30 5 7,⟨some 31,.new (.bsl 7 1 #[zi,zt,zt,zs,zs,zs,zi] [(0,.t 30)]),none⟩,oT 32 3 31 7 120,oM 3 32])))) (.reg [oK 11 4 .add 1,oM 4 11])))))) (sr [oM 2 3] .ret))),[.tmp 2]⟩
theorem is147:IsFnO Tryz.prog 147 ir147:=.of 9126819010 (by kernel_rfl)
def ir148:IFn:=⟨12,sr [oI 2 0] (.seq (sr [oM 3 0] (.blk 0 (sr [oK 5 3 .eql 2,oM 4 5] (cd 4 (sr [oI 2 6] .ret) (sr [oK 7 3 .eql 5,oM 6 7] (cd 6 (sr [oI 2 1] .ret) (sr [oK 9 3 .eql 6,oM 8 9] (cd 8 (sr [oI 2 9] .ret) (sr [oK 11 3 .eql 7,oM 10 11] (cd 10 (sr [oI 2 7] .ret) .skip)))))))))) (sr [oI 2 0] .ret)),[.tmp 2]⟩
theorem is148:IsFnO Tryz.prog 148 ir148:=.of 2 (by kernel_rfl)
def ir149:IFn:=⟨25,sr [oV 2 (.bool false)] (sr [oK 4 0 .eql 3,hM 6 0 4,hK 7 6 4 .eql 4,oO 8 4 7,hM 10 0 8,hK 11 10 8 .eql 5,oO 12 8 11,hM 14 0 12,hK 15 14 12 .eql 6,oO 16 12 15,hM 18 0 16,hK 19 18 16 .eql 11,oO 20 16 19,hM 22 0 20,hK 23 22 20 .geq 17,oO 24 20 23,oM 2 24] .ret),[.tmp 2]⟩
theorem is149:IsFnO Tryz.prog 149 ir149:=.of 2236970 (by kernel_rfl)
def ir150:IFn:=⟨2,sr [oV 0 zs] (sr [⟨some 1,.new (.bsl 1 38 #[zt] [(0,.k (.string ⟨#[115,119,105,116,99,104]⟩)),(1,.k (.string ⟨#[99,111,105,108]⟩)),(2,.k (.string ⟨#[108,97,109,112]⟩)),(3,.k (.string ⟨#[115,111,117,110,100]⟩)),(4,.k (.string ⟨#[115,104,111,119]⟩)),(5,.k (.string ⟨#[118,97,114]⟩)),(6,.k (.string ⟨#[116,105,109,101,114]⟩)),(7,.k (.string ⟨#[101,118,101,110,116]⟩)),(8,.k (.string ⟨#[109,111,100,101]⟩)),(9,.k (.string ⟨#[111,110]⟩)),(10,.k (.string ⟨#[115,116,97,114,116]⟩)),(11,.k (.string ⟨#[115,116,111,112]⟩)),(12,.k (.string ⟨#[99,108,111,115,101]⟩)),(13,.k (.string ⟨#[111,112,101,110]⟩)),(14,.k (.string ⟨#[105,102]⟩)),(15,.k (.string ⟨#[101,108,115,101]⟩)),(16,.k (.string ⟨#[114,101,112,101,97,116]⟩)),(17,.k (.string ⟨#[115,99,111,114,101]⟩)),(18,.k (.string ⟨#[102,105,114,101]⟩)),(19,.k (.string ⟨#[104,111,108,100]⟩)),(20,.k (.string ⟨#[114,101,108,101,97,115,101]⟩)),(21,.k (.string ⟨#[108,105,103,104,116]⟩)),(22,.k (.string ⟨#[98,108,105,110,107]⟩)),(23,.k (.string ⟨#[98,101,103,105,110]⟩)),(24,.k (.string ⟨#[101,110,100]⟩)),(25,.k (.string ⟨#[112,111,115,116]⟩)),(26,.k (.string ⟨#[112,108,97,121]⟩)),(27,.k (.string ⟨#[114,117,110]⟩)),(28,.k (.string ⟨#[104,97,108,116]⟩)),(29,.k (.string ⟨#[116,101,120,116]⟩)),(30,.k (.string ⟨#[99,111,110,115,117,109,101]⟩)),(31,.k (.string ⟨#[99,108,111,115,101,100]⟩)),(32,.k (.string ⟨#[97,99,116,105,118,101]⟩)),(33,.k (.string ⟨#[108,101,102,116]⟩)),(34,.k (.string ⟨#[112,108,97,121,101,114]⟩)),(35,.k (.string ⟨#[98,97,108,108]⟩)),(36,.k (.string ⟨#[116,114,117,101]⟩)),(37,.k (.string ⟨#[102,97,108,115,101]⟩))]),none⟩,oM 0 1] .ret),[.tmp 0]⟩
theorem is150:IsFnO Tryz.prog 150 ir150:=.of 0 (by kernel_rfl)
def ir151:IFn:=⟨11,sr [oW 2 (.agg #[zi,zi,zt,zs,zi])] (sr [oN 5 0,oF 6 5 5,⟨none,.eff (.st 1 (.t 6) (.k zi)),none⟩,oN 7 0,oF 8 7 6,⟨none,.eff (.st 1 (.t 8) (.k zi)),none⟩] (sr [oC 10 157 [.t 0,.k (.int .i64 1)],oS 2 10 5] .ret)),[.cell 2 5 true]⟩
theorem is151:IsFnO Tryz.prog 151 ir151:=.of 538 (by kernel_rfl)
def ir152:IFn:=⟨16,sr [oV 4 zs] (.seq (sr [oC 6 86 [.t 0,.k (.string ⟨#[105,102]⟩)]] (cd 6 (sr [oK 9 1 .add 1,oC 10 139 [.t 0,.t 9],⟨some 11,.new (.bsl 7 1 #[zi,zt,zt,zs,zs,zs,zi] [(0,.t 10)]),none⟩,oM 4 11] .ret) .skip)) (sr [oK 14 1 .add 1,oC 15 123 [.t 0,.t 14],oM 4 15] .ret)),[.tmp 4]⟩
theorem is152:IsFnO Tryz.prog 152 ir152:=.of 12716 (by kernel_rfl)
def ir153:IFn:=⟨46,sr [oV 2 (.bool false)] (.seq (sr [oP 5 (.lens (.t 0)),oK 6 5 .lss 1,hM 8 0 6,oR 9 (.lens (.t 8)) 6,hK 10 9 6 .gtr 12,oO 11 6 10,hM 13 0 11,oR 14 (.idx (.t 13) (.k zi)) 11,⟨some 15,.call 111 [.t 14],some (11,false)⟩,oR 16 (.un .not (.t 15)) 11,oO 17 11 16,hM 19 0 17,⟨some 20,.call 136 [.t 19],some (17,false)⟩,oO 21 17 20] (cd 21 (sr [oV 2 (.bool false)] .ret) .skip)) (.seq (sr [oI 3 0] (.blk 0 (.loop (.seq (sr [oP 24 (.lens (.t 0)),oB 25 3 24 .lss] (cd 25 .skip (.exit 0))) (.seq (.blk 1 (sr [oP 30 (.idx (.t 0) (.t 3)),oC 31 111 [.t 30],oY 32 31,gM 34 0 32,gM 35 3 32,oG 36 (.idx (.t 34) (.t 35)) 32,⟨some 37,.call 113 [.t 36],some (32,true)⟩,oG 38 (.un .not (.t 37)) 32,oJ 39 32 38,gM 41 0 39,gM 42 3 39,oG 43 (.idx (.t 41) (.t 42)) 39,oG 44 (.bin .neq (.t 43) (.k (.int .u8 95))) 39,oJ 45 39 44] (cd 45 (sr [oV 2 (.bool false)] .ret) .skip))) (.reg [oK 27 3 .add 1,oM 3 27])))))) (sr [oV 2 (.bool true)] .ret))),[.tmp 2]⟩
theorem is153:IsFnO Tryz.prog 153 ir153:=.of 1108986826898 (by kernel_rfl)
def ir154:IFn:=⟨148,sr [oX 1 0,oV 2 zs] (.seq (sr [oF 4 1 0,oL 5 4,oK 6 5 .eql 1] (cd 6 (.seq (.drw 13 ⟨[oF 7 1 1,oL 8 7,oC 9 143 [.t 8],⟨some 10,.new (.bsl 1 1 #[zt] [(0,.k (.string ⟨#[61]⟩))]),none⟩,oC 11 142 [.t 10],oF 12 1 3,oL 13 12,oC 14 158 [.t 13,.k zi],⟨some 15,.new (.bsl 1 1 #[zt] [(0,.k (.string ⟨#[59]⟩))]),none⟩,oC 16 142 [.t 15],⟨some 17,.new (.bsl 1 4 #[zs] [(0,.t 9),(1,.t 11),(2,.t 14),(3,.t 16)]),none⟩,oC 18 141 [.t 17],oM 2 18],[],[(0,none),(1,none),(3,none),(5,none),(6,none),(8,none),(2,some [3,5,6,8]),(4,some [5,6,8]),(7,some [8]),(9,some []),(10,none),(11,some []),(12,some [])]⟩) .ret) .skip)) (.seq (sr [oF 19 1 0,oL 20 19,oK 21 20 .lss 2,hF 23 1 0 21,hL 24 23 21,hK 25 24 21 .gtr 19,oO 26 21 25] (cd 26 (sr [oP 27 (.bld #[zi,zt,zi,zi] [(0,1),(1,1),(2,1),(3,1)] []),⟨some 28,.new (.bsl 4 1 #[zi,zt,zi,zi] [(0,.t 27)]),none⟩,oM 2 28] .ret) .skip)) (.seq (.drw 9 ⟨[oC 29 138 [],oF 30 1 0,oL 31 30,oK 32 31 .sub 2,oA 33 29 32 1,oL 34 33,⟨some 35,.new (.bsl 1 1 #[zt] [(0,.t 34)]),none⟩,oC 36 142 [.t 35],oM 3 36],[],[(1,none),(2,none),(3,none),(0,some [1,2,3]),(4,none),(5,none),(6,none),(7,some []),(8,some [])]⟩) (.seq (sr [oF 37 1 0,oL 38 37] (.blk 0 (.seq (sr [oK 46 38 .eql 2,oM 45 46] (cd 45 .skip (.reg [oK 47 38 .eql 3,oM 45 47]))) (cd 45 (.seq (.drw 10 ⟨[oM 48 3,oF 49 1 3,oL 50 49,oC 51 158 [.t 50,.k zi],oF 52 1 4,oL 53 52,oC 54 145 [.t 53],⟨some 55,.new (.bsl 1 3 #[zs] [(0,.t 48),(1,.t 51),(2,.t 54)]),none⟩,oC 56 141 [.t 55],oM 3 56],[],[(0,none),(1,none),(2,none),(4,none),(5,none),(3,some [0,4,5]),(6,some [0]),(7,none),(8,some []),(9,some [])]⟩) (.seq (sr [oF 57 1 5,oL 58 57,oH 59 58,oK 60 59 .eql 1,gF 62 1 5 60,gL 63 62 60,oG 64 (.iad 7 (.t 63) (.k zi)) 60,gF 65 64 0 60,gL 66 65 60,gK 67 66 60 .eql 2,oJ 68 60 67] (cd 68 (.seq (.drw 11 ⟨[oM 69 3,⟨some 70,.new (.bsl 1 1 #[zt] [(0,.k (.string ⟨#[101,108,115,101]⟩))]),none⟩,oC 71 142 [.t 70],oF 72 1 5,oL 73 72,oP 74 (.iad 7 (.t 73) (.k zi)),oD 75 74 7,oC 76 154 [.t 75],⟨some 77,.new (.bsl 1 3 #[zs] [(0,.t 69),(1,.t 71),(2,.t 76)]),none⟩,oC 78 141 [.t 77],oM 2 78],[],[(0,none),(1,none),(3,none),(4,none),(5,none),(6,none),(2,some [0,3,4,5,6]),(7,some [0]),(8,none),(9,some []),(10,some [])]⟩) .ret) .skip)) (.seq (sr [oF 79 1 5,oL 80 79,oH 81 80,oK 82 81 .gtr 0] (cd 82 (.seq (.drw 9 ⟨[oM 83 3,⟨some 84,.new (.bsl 1 1 #[zt] [(0,.k (.string ⟨#[101,108,115,101]⟩))]),none⟩,oC 85 142 [.t 84],oF 86 1 5,oL 87 86,oC 88 145 [.t 87],⟨some 89,.new (.bsl 1 3 #[zs] [(0,.t 83),(1,.t 85),(2,.t 88)]),none⟩,oC 90 141 [.t 89],oM 2 90],[],[(0,none),(1,none),(3,none),(4,none),(2,some [0,3,4]),(5,some [0]),(6,none),(7,some []),(8,some [])]⟩) .ret) .skip)) (sr [oM 2 3] .ret)))) (sr [oK 93 38 .eql 4,oM 92 93] (cd 92 (.reg [oF 95 1 3,oL 96 95,oC 97 158 [.t 96,.k zi],⟨some 98,.new (.bsl 1 2 #[zs] [(0,.t 3),(1,.t 97)]),none⟩,oC 99 141 [.t 98],oM 3 99]) (sr [oK 101 38 .eql 18,oM 100 101] (cd 100 (.drw 12 ⟨[oM 102 3,oF 103 1 2,oL 104 103,oC 105 159 [.t 104],⟨some 106,.new (.bsl 1 1 #[zt] [(0,.k (.string ⟨#[44]⟩))]),none⟩,oC 107 142 [.t 106],oF 108 1 3,oL 109 108,oC 110 158 [.t 109,.k zi],⟨some 111,.new (.bsl 1 4 #[zs] [(0,.t 102),(1,.t 105),(2,.t 107),(3,.t 110)]),none⟩,oC 112 141 [.t 111],oM 3 112],[],[(0,none),(1,none),(2,none),(4,none),(6,none),(7,none),(3,some [0,4,6,7]),(5,some [0,6,7]),(8,some [0]),(9,none),(10,some []),(11,some [])]⟩) (.seq (sr [oK 114 38 .eql 8,oM 113 114] (cd 113 .skip (.reg [oK 115 38 .eql 10,oM 113 115]))) (cd 113 (.drw 10 ⟨[oM 116 3,oF 117 1 1,oL 118 117,oC 119 143 [.t 118],oF 120 1 3,oL 121 120,oC 122 158 [.t 121,.k zi],⟨some 123,.new (.bsl 1 3 #[zs] [(0,.t 116),(1,.t 119),(2,.t 122)]),none⟩,oC 124 141 [.t 123],oM 3 124],[],[(0,none),(1,none),(2,none),(4,none),(5,none),(3,some [0,4,5]),(6,some [0]),(7,none),(8,some []),(9,some [])]⟩) (sr [oK 126 38 .eql 9,oM 125 126] (cd 125 (.drw 15 ⟨[oM 127 3,oF 128 1 1,oL 129 128,oC 130 143 [.t 129],oF 131 1 3,oL 132 131,oC 133 158 [.t 132,.k zi],⟨some 134,.new (.bsl 1 1 #[zt] [(0,.k (.string ⟨#[44]⟩))]),none⟩,oC 135 142 [.t 134],oF 136 1 3,oL 137 136,oC 138 158 [.t 137,.k (.int .i64 1)],⟨some 139,.new (.bsl 1 5 #[zs] [(0,.t 127),(1,.t 130),(2,.t 133),(3,.t 135),(4,.t 138)]),none⟩,oC 140 141 [.t 139],oM 3 140],[],[(0,none),(1,none),(2,none),(4,none),(5,none),(7,none),(9,none),(10,none),(3,some [0,4,5,7,9,10]),(6,some [0,7,9,10]),(8,some [0,9,10]),(11,some [0]),(12,none),(13,some []),(14,some [])]⟩) (sr [oK 142 38 .eql 19,oM 141 142] (cd 141 .skip (.reg [oF 40 1 1,oL 41 40,oC 42 143 [.t 41],⟨some 43,.new (.bsl 1 2 #[zs] [(0,.t 3),(1,.t 42)]),none⟩,oC 44 141 [.t 43],oM 3 44]))))))))))))))) (sr [⟨some 144,.new (.bsl 1 1 #[zt] [(0,.k (.string ⟨#[59]⟩))]),none⟩,oC 145 142 [.t 144],⟨some 146,.new (.bsl 1 2 #[zs] [(0,.t 3),(1,.t 145)]),none⟩,oC 147 141 [.t 146],oM 2 147] .ret))))),[.tmp 2]⟩
theorem is154:IsFnO Tryz.prog 154 ir154:=.of 11150372599265333853688568579012687910928384 (by kernel_rfl)
def ir155:IFn:=⟨30,sr [oV 6 (.bool false)] (.seq (sr [oH 9 0,oH 11 1,oB 12 9 11 .neq] (cd 12 (sr [oV 6 (.bool false)] .ret) .skip)) (.seq (sr [oI 7 0] (.blk 0 (.loop (.seq (sr [oH 15 0,oB 16 7 15 .lss] (cd 16 .skip (.exit 0))) (.seq (.blk 1 (.seq (.drw 11 (dQ [oM 19 0,oM 20 7,oA 21 19 20 5,oD 22 21 5,oM 23 1,oM 24 7,oA 25 23 24 5,oD 26 25 5,oM 27 2,oC 28 160 [.t 22,.t 26,.t 27],oY 29 28] 0)) (cd 29 (sr [oV 6 (.bool false)] .ret) .skip))) (.reg [oK 18 7 .add 1,oM 7 18])))))) (sr [oV 6 (.bool true)] .ret))),[.tmp 6]⟩
theorem is155:IsFnO Tryz.prog 155 ir155:=.of 156984 (by kernel_rfl)
def ir156:IFn:=⟨26,sr [oV 2 zs] (sr [oV 3 zs] (.seq (sr [oI 4 0] (.blk 0 (.loop (.seq (sr [oH 8 0,oB 9 4 8 .lss] (cd 9 .skip (.exit 0))) (.seq (.blk 1 (sr [oA 14 0 4 5,oD 15 14 5,oW 5 (.agg #[zi,zi,zt,zs,zi]),oS 5 15 5] (sr [oF 16 5 3,oL 17 16,oC 18 156 [.t 17],oF 19 5 4,⟨none,.eff (.st 1 (.t 19) (.k zi)),none⟩,oF 20 5 3,oS 20 18 1] (.reg [oD 22 5 5,⟨some 23,.new (.bsl 5 1 #[zi,zi,zt,zs,zi] [(0,.t 22)]),none⟩,oT 24 3 23 5 64,oM 3 24])))) (.reg [oK 11 4 .add 1,oM 4 11])))))) (sr [oM 2 3] .ret))),[.tmp 2]⟩
theorem is156:IsFnO Tryz.prog 156 ir156:=.of 35665090 (by kernel_rfl)
def ir157:IFn:=⟨52,sr [oW 4 (.agg #[zi,zi,zt,zs,zi])] (.seq (sr [oK 9 1 .gtr 5] (cd 9 (sr [oC 11 161 [.t 0],oS 4 11 5] .ret) .skip)) (sr [oK 14 1 .add 1,oC 15 157 [.t 0,.t 14],oW 5 (.agg #[zi,zi,zt,zs,zi]),oS 5 15 5] (.blk 0 (.loop (.blk 1 (sr [oC 17 162 [],oC 18 82 [.t 0,.t 17],oM 6 18] (.seq (sr [oK 20 6 .lss 0,hM 22 6 20,oR 23 (.bin .add (.k (.int .i64 12)) (.t 22)) 20,⟨some 24,.call 163 [.t 23],some (20,false)⟩,hM 25 1 20,oR 26 (.bin .neq (.t 24) (.t 25)) 20,oO 27 20 26] (cd 27 (sr [oD 28 5 5,oS 4 28 5] .ret) .skip)) (sr [oC 30 118 [.t 0],oP 31 (.fld 3 1 false (.t 30)),oM 7 31] (sr [oN 33 0,oF 34 33 2,oL 35 34,oK 36 35 .add 1,oN 37 0,oF 38 37 2,oS 38 36 1] (.seq (.drw 11 ⟨[oM 39 6,oP 40 (.bin .add (.k (.int .i64 12)) (.t 39)),oD 41 5 5,oM 42 0,oM 43 1,oK 44 43 .add 1,oC 45 157 [.t 42,.t 44],⟨some 46,.new (.bsl 5 2 #[zi,zi,zt,zs,zi] [(0,.t 41),(1,.t 45)]),none⟩,oM 47 7,oP 48 (.bld #[zi,zi,zt,zs,zi] [(0,1),(1,1),(2,1),(3,1),(4,1)] [(0,.t 40),(3,.t 46),(4,.t 47)]),oS 5 48 5],[],[(0,none),(1,none),(2,none),(3,none),(4,none),(5,none),(8,none),(6,some [0,1,2,8]),(7,none),(9,none),(10,some [])]⟩) (sr [oK 50 1 .eql 3] (cd 50 (sr [oD 51 5 5,oS 4 51 5] .ret) .skip)))))))))))),[.cell 4 5 true]⟩
theorem is157:IsFnO Tryz.prog 157 ir157:=.of 562954787960076 (by kernel_rfl)
def ir158:IFn:=⟨16,sr [oV 4 zs] (.seq (sr [oH 7 0,oB 8 1 7 .geq] (cd 8 (sr [oP 9 (.bld #[zi,zt,zi,zi] [(0,1),(1,1),(2,1),(3,1)] []),⟨some 10,.new (.bsl 4 1 #[zi,zt,zi,zi] [(0,.t 9)]),none⟩,oM 4 10] .ret) .skip)) (sr [oA 13 0 1 5,oD 14 13 5,oC 15 164 [.t 14],oM 4 15] .ret)),[.tmp 4]⟩
theorem is158:IsFnO Tryz.prog 158 ir158:=.of 6252 (by kernel_rfl)
def ir159:IFn:=⟨30,sr [oV 2 zs] (.seq (sr [oI 3 0] (.blk 0 (.loop (.seq (sr [oP 6 (.lens (.t 0)),oB 7 3 6 .lss] (cd 7 .skip (.exit 0))) (.seq (.blk 1 (sr [oP 12 (.idx (.t 0) (.t 3)),oP 13 (.bin .lss (.t 12) (.k (.int .u8 32))),hM 15 0 13,hM 16 3 13,oR 17 (.idx (.t 15) (.t 16)) 13,oR 18 (.bin .gtr (.t 17) (.k (.int .u8 126))) 13,oO 19 13 18] (cd 19 (sr [oP 20 (.bld #[zi,zt,zi,zi] [(0,1),(1,1),(2,1),(3,1)] []),⟨some 21,.new (.bsl 4 1 #[zi,zt,zi,zi] [(0,.t 20)]),none⟩,oM 2 21] .ret) .skip))) (.reg [oK 9 3 .add 1,oM 3 9])))))) (.seq (sr [oP 23 (.lens (.t 0)),oK 24 23 .gtr 32] (cd 24 (sr [oP 25 (.bld #[zi,zt,zi,zi] [(0,1),(1,1),(2,1),(3,1)] []),⟨some 26,.new (.bsl 4 1 #[zi,zt,zi,zi] [(0,.t 25)]),none⟩,oM 2 26] .ret) .skip)) (sr [oP 28 (.bld #[zi,zt,zi,zi] [(0,1),(1,1),(2,1),(3,1)] [(0,.k (.int .i64 4)),(1,.t 0)]),⟨some 29,.new (.bsl 4 1 #[zi,zt,zi,zi] [(0,.t 28)]),none⟩,oM 2 29] .ret))),[.tmp 2]⟩
theorem is159:IsFnO Tryz.prog 159 ir159:=.of 138431794 (by kernel_rfl)
def ir160:IFn:=⟨44,sr [oX 3 0,oX 4 1,oV 6 (.bool false)] (sr [oF 7 3 0,oL 8 7,oF 9 4 0,oL 10 9,oB 11 8 10 .eql,gF 13 3 1 11,gL 14 13 11,gF 15 4 1 11,gL 16 15 11,oG 17 (.bin .eql (.t 14) (.t 16)) 11,oJ 18 11 17,gF 20 3 2 18,gL 21 20 18,gF 22 4 2 18,gL 23 22 18,oG 24 (.bin .eql (.t 21) (.t 23)) 18,oJ 25 18 24,gM 27 2 25,gM 28 27 25,hF 29 3 4 28,hL 30 29 28,hF 31 4 4 28,hL 32 31 28,oR 33 (.bin .eql (.t 30) (.t 32)) 28,oG 34 (.pick (.t 28) (.k (.bool true)) (.t 33)) 25,oJ 35 25 34,gF 37 3 3 35,gL 38 37 35,gF 39 4 3 35,gL 40 39 35,gM 41 2 35,⟨some 42,.call 155 [.t 38,.t 40,.t 41],some (35,true)⟩,oJ 43 35 42,oM 6 43] .ret),[.tmp 6]⟩
theorem is160:IsFnO Tryz.prog 160 ir160:=.of 68787114016 (by kernel_rfl)
end Go.Proofs.YtcallbfckjlagaaGreat
namespace Go.Proofs.YtcallbfckjlagaaGreat
open Go.Eng Go.Sym
def ir161:IFn:=⟨62,sr [oW 2 (.agg #[zi,zi,zt,zs,zi])] (sr [oC 7 118 [.t 0],oW 3 (.agg #[zi,zt,zi,zi]),oS 3 7 4] (sr [⟨some 9,.new (.bsl 1 3 #[zt] [(0,.k (.string ⟨#[45]⟩)),(1,.k (.string ⟨#[33]⟩)),(2,.k (.string ⟨#[40]⟩))]),none⟩,oC 10 82 [.t 0,.t 9],oM 4 10] (.seq (sr [oK 12 4 .lss 0] (cd 12 (sr [oC 14 165 [.t 0],oS 2 14 5] .ret) .skip)) (sr [oN 17 0,oF 18 17 6,oL 19 18,oK 20 19 .add 1,oC 21 84 [.t 0,.t 20,.k (.int .i64 16),.k (.int .i64 50)]] (.seq (sr [oC 23 59 [.t 0],oY 24 23] (cd 24 (sr [oP 25 (.bld #[zi,zi,zt,zs,zi] [(0,1),(1,1),(2,1),(3,1),(4,1)] []),oS 2 25 5] .ret) .skip)) (sr [oN 27 0,oF 28 27 2,oL 29 28,oK 30 29 .add 1,oN 31 0,oF 32 31 2,oS 32 30 1] (sr [oN 34 0,oF 35 34 6,oL 36 35,oK 37 36 .add 1,oN 38 0,oF 39 38 6,oS 39 37 1] (sr [oW 5 (.agg #[zi,zi,zt,zs,zi])] (.seq (sr [oK 41 4 .eql 2] (cd 41 (sr [oC 43 157 [.t 0,.k (.int .i64 1)],oS 5 43 5] (.reg [oC 45 121 [.t 0,.k (.string ⟨#[41]⟩)]])) (.drw 9 ⟨[oM 46 4,oP 47 (.bin .add (.k (.int .i64 10)) (.t 46)),oM 48 0,oC 49 161 [.t 48],⟨some 50,.new (.bsl 5 1 #[zi,zi,zt,zs,zi] [(0,.t 49)]),none⟩,oF 51 3 3,oL 52 51,oP 53 (.bld #[zi,zi,zt,zs,zi] [(0,1),(1,1),(2,1),(3,1),(4,1)] [(0,.t 47),(3,.t 50),(4,.t 52)]),oS 5 53 5],[],[(0,none),(1,none),(2,none),(5,none),(6,none),(3,some [0,1,5,6]),(4,none),(7,none),(8,some [])]⟩))) (sr [oN 55 0,oF 56 55 6,oL 57 56,oK 58 57 .sub 1,oN 59 0,oF 60 59 6,oS 60 58 1] (sr [oD 61 5 5,oS 2 61 5] .ret))))))))))),[.cell 2 5 true]⟩
theorem is161:IsFnO Tryz.prog 161 ir161:=.of 18037496915011906 (by kernel_rfl)
def ir162:IFn:=⟨2,sr [oV 0 zs] (sr [⟨some 1,.new (.bsl 1 13 #[zt] [(0,.k (.string ⟨#[42]⟩)),(1,.k (.string ⟨#[47]⟩)),(2,.k (.string ⟨#[37]⟩)),(3,.k (.string ⟨#[43]⟩)),(4,.k (.string ⟨#[45]⟩)),(5,.k (.string ⟨#[60]⟩)),(6,.k (.string ⟨#[60,61]⟩)),(7,.k (.string ⟨#[62]⟩)),(8,.k (.string ⟨#[62,61]⟩)),(9,.k (.string ⟨#[61,61]⟩)),(10,.k (.string ⟨#[33,61]⟩)),(11,.k (.string ⟨#[38,38]⟩)),(12,.k (.string ⟨#[124,124]⟩))]),none⟩,oM 0 1] .ret),[.tmp 0]⟩
theorem is162:IsFnO Tryz.prog 162 ir162:=.of 0 (by kernel_rfl)
def ir163:IFn:=⟨37,sr [oI 2 0] (.seq (.blk 0 (sr [oK 5 0 .eql 24,oM 3 5] (cd 3 (sr [oI 2 1] .ret) (sr [oK 8 0 .eql 23,oM 6 8] (cd 6 (sr [oI 2 2] .ret) (sr [oK 11 0 .geq 17,gM 13 0 11,gK 14 13 11 .leq 22,oJ 15 11 14,oM 9 15] (cd 9 (sr [oI 2 3] .ret) (sr [oK 18 0 .eql 15,hM 20 0 18,hK 21 20 18 .eql 16,oO 22 18 21,oM 16 22] (cd 16 (sr [oI 2 4] .ret) (sr [oK 25 0 .geq 12,gM 27 0 25,gK 28 27 25 .leq 14,oJ 29 25 28,oM 23 29] (cd 23 (sr [oI 2 5] .ret) (sr [oK 32 0 .eql 10,hM 34 0 32,hK 35 34 32 .eql 11,oO 36 32 35,oM 30 36] (cd 30 (sr [oI 2 6] .ret) .skip))))))))))))) (sr [oI 2 7] .ret)),[.tmp 2]⟩
theorem is163:IsFnO Tryz.prog 163 ir163:=.of 10821964946 (by kernel_rfl)
def ir164:IFn:=⟨140,sr [oX 1 0,oV 2 zs] (sr [oF 5 1 0,oL 6 5,oC 7 163 [.t 6],oM 3 7] (.seq (.blk 0 (sr [oF 9 1 0,oL 10 9,oK 11 10 .eql 1,oM 8 11] (cd 8 (sr [oF 12 1 1,oL 13 12,oC 14 144 [.t 13],oM 2 14] .ret) (sr [oF 16 1 0,oL 17 16,oK 18 17 .eql 2,oM 15 18] (cd 15 (sr [oF 19 1 2,oL 20 19,oC 21 143 [.t 20],oM 2 21] .ret) (sr [oF 23 1 0,oL 24 23,oK 25 24 .eql 3,oM 22 25] (cd 22 (sr [⟨some 26,.new (.bsl 1 1 #[zt] [(0,.k (.string ⟨#[116,114,117,101]⟩))]),none⟩,oC 27 142 [.t 26],oM 2 27] .ret) (sr [oF 29 1 0,oL 30 29,oK 31 30 .eql 4,oM 28 31] (cd 28 (sr [⟨some 32,.new (.bsl 1 1 #[zt] [(0,.k (.string ⟨#[102,97,108,115,101]⟩))]),none⟩,oC 33 142 [.t 32],oM 2 33] .ret) (sr [oF 35 1 0,oL 36 35,oK 37 36 .eql 8,oM 34 37] (cd 34 (sr [⟨some 38,.new (.bsl 1 1 #[zt] [(0,.k (.string ⟨#[112,108,97,121,101,114]⟩))]),none⟩,oC 39 142 [.t 38],oM 2 39] .ret) (sr [oF 41 1 0,oL 42 41,oK 43 42 .eql 9,oM 40 43] (cd 40 (sr [⟨some 44,.new (.bsl 1 1 #[zt] [(0,.k (.string ⟨#[98,97,108,108]⟩))]),none⟩,oC 45 142 [.t 44],oM 2 45] .ret) (sr [oF 47 1 0,oL 48 47,oK 49 48 .eql 5,oM 46 49] (cd 46 (.seq (.drw 8 ⟨[⟨some 50,.new (.bsl 1 1 #[zt] [(0,.k (.string ⟨#[99,108,111,115,101,100]⟩))]),none⟩,oC 51 142 [.t 50],oF 52 1 2,oL 53 52,oC 54 143 [.t 53],⟨some 55,.new (.bsl 1 2 #[zs] [(0,.t 51),(1,.t 54)]),none⟩,oC 56 141 [.t 55],oM 2 56],[],[(0,none),(2,none),(3,none),(1,some [2,3]),(4,some []),(5,none),(6,some []),(7,some [])]⟩) .ret) (sr [oF 58 1 0,oL 59 58,oK 60 59 .eql 6,oM 57 60] (cd 57 (.seq (.drw 8 ⟨[⟨some 61,.new (.bsl 1 1 #[zt] [(0,.k (.string ⟨#[97,99,116,105,118,101]⟩))]),none⟩,oC 62 142 [.t 61],oF 63 1 2,oL 64 63,oC 65 143 [.t 64],⟨some 66,.new (.bsl 1 2 #[zs] [(0,.t 62),(1,.t 65)]),none⟩,oC 67 141 [.t 66],oM 2 67],[],[(0,none),(2,none),(3,none),(1,some [2,3]),(4,some []),(5,none),(6,some []),(7,some [])]⟩) .ret) (sr [oF 69 1 0,oL 70 69,oK 71 70 .eql 7,oM 68 71] (cd 68 (.seq (.drw 8 ⟨[⟨some 72,.new (.bsl 1 1 #[zt] [(0,.k (.string ⟨#[108,101,102,116]⟩))]),none⟩,oC 73 142 [.t 72],oF 74 1 2,oL 75 74,oC 76 143 [.t 75],⟨some 77,.new (.bsl 1 2 #[zs] [(0,.t 73),(1,.t 76)]),none⟩,oC 78 141 [.t 77],oM 2 78],[],[(0,none),(2,none),(3,none),(1,some [2,3]),(4,some []),(5,none),(6,some []),(7,some [])]⟩) .ret) (sr [oK 81 3 .eql 6,gF 83 1 3 81,gL 84 83 81,oG 85 (.len (.t 84)) 81,gK 86 85 81 .eql 1,oJ 87 81 86,oM 79 87] (cd 79 (.seq (.drw 16 ⟨[⟨some 88,.new (.bsl 1 2 #[zt] [(0,.k (.string ⟨#[45]⟩)),(1,.k (.string ⟨#[33]⟩))]),none⟩,oF 89 1 0,oL 90 89,oK 91 90 .sub 10,oA 92 88 91 1,oL 93 92,⟨some 94,.new (.bsl 1 1 #[zt] [(0,.t 93)]),none⟩,oC 95 142 [.t 94],oF 96 1 3,oL 97 96,oP 98 (.iad 5 (.t 97) (.k zi)),oD 99 98 5,oC 100 166 [.t 99,.k (.int .i64 6)],⟨some 101,.new (.bsl 1 2 #[zs] [(0,.t 95),(1,.t 100)]),none⟩,oC 102 141 [.t 101],oM 2 102],[],[(0,none),(1,none),(2,none),(3,none),(4,none),(5,none),(6,none),(8,none),(9,none),(10,none),(11,none),(7,some [8,9,10,11]),(12,some []),(13,none),(14,some []),(15,some [])]⟩) .ret) (sr [oK 105 3 .lss 6,gF 107 1 3 105,gL 108 107 105,oG 109 (.len (.t 108)) 105,gK 110 109 105 .eql 2,oJ 111 105 110,oM 103 111] (cd 103 (sr [oM 4 3] (.seq (sr [oK 114 3 .eql 3] (cd 114 (.reg [oI 4 4]) .skip)) (.seq (.drw 24 ⟨[oF 115 1 3,oL 116 115,oP 117 (.iad 5 (.t 116) (.k zi)),oD 118 117 5,oM 119 4,oC 120 166 [.t 118,.t 119],oC 121 162 [],oF 122 1 0,oL 123 122,oK 124 123 .sub 12,oA 125 121 124 1,oL 126 125,⟨some 127,.new (.bsl 1 1 #[zt] [(0,.t 126)]),none⟩,oC 128 142 [.t 127],oF 129 1 3,oL 130 129,oP 131 (.iad 5 (.t 130) (.k (.int .i64 1))),oD 132 131 5,oM 133 3,oK 134 133 .add 1,oC 135 166 [.t 132,.t 134],⟨some 136,.new (.bsl 1 3 #[zs] [(0,.t 120),(1,.t 128),(2,.t 135)]),none⟩,oC 137 141 [.t 136],oM 2 137],[],[(0,none),(1,none),(2,none),(3,none),(4,none),(7,none),(8,none),(9,none),(14,none),(15,none),(16,none),(17,none),(18,none),(19,none),(5,some [7,8,9,14,15,16,17,18,19]),(6,some [7,8,9,14,15,16,17,18,19]),(10,none),(11,none),(12,none),(13,some [14,15,16,17,18,19]),(20,some []),(21,none),(22,some []),(23,some [])]⟩) .ret))) .skip))))))))))))))))))))))) (sr [oP 138 (.bld #[zi,zt,zi,zi] [(0,1),(1,1),(2,1),(3,1)] []),⟨some 139,.new (.bsl 4 1 #[zi,zt,zi,zi] [(0,.t 138)]),none⟩,oM 2 139] .ret))),[.tmp 2]⟩
theorem is164:IsFnO Tryz.prog 164 ir164:=.of 15678302629667370335784371117621248 (by kernel_rfl)
def ir165:IFn:=⟨78,sr [oW 2 (.agg #[zi,zi,zt,zs,zi])] (sr [oC 7 118 [.t 0],oW 3 (.agg #[zi,zt,zi,zi]),oS 3 7 4] (sr [⟨some 9,.new (.bsl 1 7 #[zt] [(0,.k (.string ⟨#[116,114,117,101]⟩)),(1,.k (.string ⟨#[102,97,108,115,101]⟩)),(2,.k (.string ⟨#[112,108,97,121,101,114]⟩)),(3,.k (.string ⟨#[98,97,108,108]⟩)),(4,.k (.string ⟨#[99,108,111,115,101,100]⟩)),(5,.k (.string ⟨#[97,99,116,105,118,101]⟩)),(6,.k (.string ⟨#[108,101,102,116]⟩))]),none⟩,oC 10 82 [.t 0,.t 9],oM 4 10] (.seq (sr [oK 12 4 .lss 0,gM 14 0 12,⟨some 15,.call 137 [.t 14,.k (.int .i64 3)],some (12,true)⟩,oG 16 (.un .not (.t 15)) 12,oJ 17 12 16,gM 19 0 17,⟨some 20,.call 137 [.t 19,.k (.int .i64 1)],some (17,true)⟩,oG 21 (.un .not (.t 20)) 17,oJ 22 17 21] (cd 22 (sr [oC 24 87 [.t 0]] (sr [oP 25 (.bld #[zi,zi,zt,zs,zi] [(0,1),(1,1),(2,1),(3,1),(4,1)] []),oS 2 25 5] .ret)) .skip)) (sr [oN 27 0,oF 28 27 5,oL 29 28,oK 30 29 .add 1,oN 31 0,oF 32 31 5,oS 32 30 1] (sr [oN 35 0,oF 36 35 5,oL 37 36,oC 38 84 [.t 0,.t 37,.k (.int .i64 32),.k (.int .i64 9)]] (.seq (sr [oC 40 59 [.t 0],oY 41 40] (cd 41 (sr [oP 42 (.bld #[zi,zi,zt,zs,zi] [(0,1),(1,1),(2,1),(3,1),(4,1)] []),oS 2 42 5] .ret) .skip)) (sr [oN 44 0,oF 45 44 2,oL 46 45,oK 47 46 .add 1,oN 48 0,oF 49 48 2,oS 49 47 1] (.seq (sr [oK 51 4 .geq 0] (cd 51 (.seq (.drw 9 ⟨[⟨some 52,.new (.bsl 1 7 #[zi] [(0,.k (.int .i64 3)),(1,.k (.int .i64 4)),(2,.k (.int .i64 8)),(3,.k (.int .i64 9)),(4,.k (.int .i64 5)),(5,.k (.int .i64 6)),(6,.k (.int .i64 7))]),none⟩,oM 53 4,oA 54 52 53 1,oL 55 54,oF 56 3 3,oL 57 56,oP 58 (.bld #[zi,zi,zt,zs,zi] [(0,1),(1,1),(2,1),(3,1),(4,1)] [(0,.t 55),(4,.t 57)]),oW 5 (.agg #[zi,zi,zt,zs,zi]),oS 5 58 5],[],[(0,none),(1,none),(2,none),(3,none),(4,none),(5,none),(6,none),(7,none),(8,some [])]⟩) (.seq (sr [oK 60 4 .geq 4] (cd 60 (.reg [oC 62 119 [.t 0],oF 63 5 2,oS 63 62 1]) .skip)) (sr [oD 64 5 5,oS 2 64 5] .ret))) .skip)) (.seq (sr [oF 65 3 0,oL 66 65,oK 67 66 .eql 3] (cd 67 (sr [oF 68 3 2,oL 69 68,oF 70 3 3,oL 71 70,oP 72 (.bld #[zi,zi,zt,zs,zi] [(0,1),(1,1),(2,1),(3,1),(4,1)] [(0,.k (.int .i64 1)),(1,.t 69),(4,.t 71)]),oS 2 72 5] .ret) .skip)) (sr [oF 73 3 1,oL 74 73,oF 75 3 3,oL 76 75,oP 77 (.bld #[zi,zi,zt,zs,zi] [(0,1),(1,1),(2,1),(3,1),(4,1)] [(0,.k (.int .i64 2)),(2,.t 74),(4,.t 76)]),oS 2 77 5] .ret)))))))))),[.cell 2 5 true]⟩
theorem is165:IsFnO Tryz.prog 165 ir165:=.of 2883439033118370114 (by kernel_rfl)
def ir166:IFn:=⟨20,sr [oX 2 0,oV 4 zs] (.seq (sr [oF 5 2 0,oL 6 5,oC 7 163 [.t 6],oB 9 7 1 .lss] (cd 9 (.seq (.drw 9 ⟨[⟨some 10,.new (.bsl 1 1 #[zt] [(0,.k (.string ⟨#[40]⟩))]),none⟩,oC 11 142 [.t 10],oD 12 2 5,oC 13 164 [.t 12],⟨some 14,.new (.bsl 1 1 #[zt] [(0,.k (.string ⟨#[41]⟩))]),none⟩,oC 15 142 [.t 14],⟨some 16,.new (.bsl 1 3 #[zs] [(0,.t 11),(1,.t 13),(2,.t 15)]),none⟩,oC 17 141 [.t 16],oM 4 17],[],[(0,none),(2,none),(4,none),(1,some [2,4]),(3,some [4]),(5,some []),(6,none),(7,some []),(8,some [])]⟩) .ret) .skip)) (sr [oD 18 2 5,oC 19 164 [.t 18],oM 4 19] .ret)),[.tmp 4]⟩
theorem is166:IsFnO Tryz.prog 166 ir166:=.of 264 (by kernel_rfl)
end Go.Proofs.YtcallbfckjlagaaGreat
namespace Go.Proofs.YtcallbfckjlagaaGreat
open Go.Eng
def irL:List (Nat × IFn):=[(10,ir10),(12,ir12),(13,ir13),(16,ir16),(23,ir23),(24,ir24),(25,ir25),(26,ir26),(27,ir27),(30,ir30),(31,ir31),(32,ir32),(33,ir33),(36,ir36),(37,ir37),(38,ir38),(39,ir39),(40,ir40),(41,ir41),(42,ir42),(43,ir43),(44,ir44),(45,ir45),(48,ir48),(49,ir49),(55,ir55),(56,ir56),(57,ir57),(58,ir58),(59,ir59),(60,ir60),(61,ir61),(62,ir62),(63,ir63),(64,ir64),(70,ir70),(71,ir71),(72,ir72),(73,ir73),(74,ir74),(80,ir80),(81,ir81),(82,ir82),(83,ir83),(84,ir84),(85,ir85),(86,ir86),(87,ir87),(88,ir88),(89,ir89),(90,ir90),(91,ir91),(92,ir92),(93,ir93),(94,ir94),(95,ir95),(96,ir96),(98,ir98),(99,ir99),(100,ir100),(101,ir101),(102,ir102),(103,ir103),(104,ir104),(105,ir105),(106,ir106),(107,ir107),(108,ir108),(109,ir109),(110,ir110),(111,ir111),(112,ir112),(113,ir113),(114,ir114),(115,ir115),(116,ir116),(117,ir117),(118,ir118),(119,ir119),(120,ir120),(121,ir121),(122,ir122),(123,ir123),(124,ir124),(125,ir125),(126,ir126),(127,ir127),(128,ir128),(129,ir129),(130,ir130),(131,ir131),(132,ir132),(133,ir133),(134,ir134),(135,ir135),(136,ir136),(137,ir137),(138,ir138),(139,ir139),(140,ir140),(141,ir141),(142,ir142),(143,ir143),(144,ir144),(145,ir145),(146,ir146),(147,ir147),(148,ir148),(149,ir149),(150,ir150),(151,ir151),(152,ir152),(153,ir153),(154,ir154),(155,ir155),(156,ir156),(157,ir157),(158,ir158),(159,ir159),(160,ir160),(161,ir161),(162,ir162),(163,ir163),(164,ir164),(165,ir165),(166,ir166)]
def irF:Tr IFn:=.node none (.node none (.node none (.node none (.node none (.node (some ir31) (.node (some ir63) (.node (some ir127) .nil .nil) .nil) (.node (some ir95) (.node (some ir159) .nil .nil) .nil)) (.node none (.node none (.node (some ir143) .nil .nil) .nil) (.node (some ir111) .nil .nil))) (.node (some ir23) (.node (some ir39) (.node (some ir71) (.node (some ir135) .nil .nil) .nil) (.node (some ir103) .nil .nil)) (.node (some ir55) (.node (some ir87) (.node (some ir151) .nil .nil) .nil) (.node (some ir119) .nil .nil)))) (.node none (.node none (.node none (.node none (.node (some ir131) .nil .nil) .nil) (.node (some ir99) (.node (some ir163) .nil .nil) .nil)) (.node none (.node (some ir83) (.node (some ir147) .nil .nil) .nil) (.node (some ir115) .nil .nil))) (.node (some ir27) (.node (some ir43) (.node none (.node (some ir139) .nil .nil) .nil) (.node (some ir107) .nil .nil)) (.node (some ir59) (.node (some ir91) (.node (some ir155) .nil .nil) .nil) (.node (some ir123) .nil .nil))))) (.node none (.node none (.node none (.node (some ir33) (.node none (.node (some ir129) .nil .nil) .nil) (.node none (.node (some ir161) .nil .nil) .nil)) (.node (some ir49) (.node (some ir81) (.node (some ir145) .nil .nil) .nil) (.node (some ir113) .nil .nil))) (.node (some ir25) (.node (some ir41) (.node (some ir73) (.node (some ir137) .nil .nil) .nil) (.node (some ir105) .nil .nil)) (.node (some ir57) (.node (some ir89) (.node (some ir153) .nil .nil) .nil) (.node (some ir121) .nil .nil)))) (.node (some ir13) (.node none (.node (some ir37) (.node none (.node (some ir133) .nil .nil) .nil) (.node (some ir101) (.node (some ir165) .nil .nil) .nil)) (.node none (.node (some ir85) (.node (some ir149) .nil .nil) .nil) (.node (some ir117) .nil .nil))) (.node none (.node (some ir45) (.node none (.node (some ir141) .nil .nil) .nil) (.node (some ir109) .nil .nil)) (.node (some ir61) (.node (some ir93) (.node (some ir157) .nil .nil) .nil) (.node (some ir125) .nil .nil)))))) (.node none (.node none (.node none (.node (some ir16) (.node (some ir32) (.node (some ir64) (.node (some ir128) .nil .nil) .nil) (.node (some ir96) (.node (some ir160) .nil .nil) .nil)) (.node (some ir48) (.node (some ir80) (.node (some ir144) .nil .nil) .nil) (.node (some ir112) .nil .nil))) (.node (some ir24) (.node (some ir40) (.node (some ir72) (.node (some ir136) .nil .nil) .nil) (.node (some ir104) .nil .nil)) (.node (some ir56) (.node (some ir88) (.node (some ir152) .nil .nil) .nil) (.node (some ir120) .nil .nil)))) (.node (some ir12) (.node none (.node (some ir36) (.node none (.node (some ir132) .nil .nil) .nil) (.node (some ir100) (.node (some ir164) .nil .nil) .nil)) (.node none (.node (some ir84) (.node (some ir148) .nil .nil) .nil) (.node (some ir116) .nil .nil))) (.node none (.node (some ir44) (.node none (.node (some ir140) .nil .nil) .nil) (.node (some ir108) .nil .nil)) (.node (some ir60) (.node (some ir92) (.node (some ir156) .nil .nil) .nil) (.node (some ir124) .nil .nil))))) (.node none (.node (some ir10) (.node none (.node none (.node none (.node (some ir130) .nil .nil) .nil) (.node (some ir98) (.node (some ir162) .nil .nil) .nil)) (.node none (.node (some ir82) (.node (some ir146) .nil .nil) .nil) (.node (some ir114) .nil .nil))) (.node (some ir26) (.node (some ir42) (.node (some ir74) (.node (some ir138) .nil .nil) .nil) (.node (some ir106) .nil .nil)) (.node (some ir58) (.node (some ir90) (.node (some ir154) .nil .nil) .nil) (.node (some ir122) .nil .nil)))) (.node none (.node none (.node (some ir38) (.node (some ir70) (.node (some ir134) .nil .nil) .nil) (.node (some ir102) (.node (some ir166) .nil .nil) .nil)) (.node none (.node (some ir86) (.node (some ir150) .nil .nil) .nil) (.node (some ir118) .nil .nil))) (.node (some ir30) (.node none (.node none (.node (some ir142) .nil .nil) .nil) (.node (some ir110) .nil .nil)) (.node (some ir62) (.node (some ir94) (.node (some ir158) .nil .nil) .nil) (.node (some ir126) .nil .nil))))))
theorem irF_eq:irF=Tr.ofL irL:=by kernel_rfl
theorem irL_ok:∀ p∈irL,IsFnO Tryz.prog p.1 p.2:=by
 simp only [irL,List.forall_mem_cons]
 exact ⟨is10,is12,is13,is16,is23,is24,is25,is26,is27,is30,is31,is32,is33,is36,is37,is38,is39,is40,is41,is42,is43,is44,is45,is48,is49,is55,is56,is57,is58,is59,is60,is61,is62,is63,is64,is70,is71,is72,is73,is74,is80,is81,is82,is83,is84,is85,is86,is87,is88,is89,is90,is91,is92,is93,is94,is95,is96,is98,is99,is100,is101,is102,is103,is104,is105,is106,is107,is108,is109,is110,is111,is112,is113,is114,is115,is116,is117,is118,is119,is120,is121,is122,is123,is124,is125,is126,is127,is128,is129,is130,is131,is132,is133,is134,is135,is136,is137,is138,is139,is140,is141,is142,is143,is144,is145,is146,is147,is148,is149,is150,is151,is152,is153,is154,is155,is156,is157,is158,is159,is160,is161,is162,is163,is164,is165,is166,fun _ h=>nomatch h⟩
theorem irF_ok:∀ f i,irF.get f=some i→IsFnO Tryz.prog f i:=tableO_ok irF_eq irL_ok
end Go.Proofs.YtcallbfckjlagaaGreat
namespace Go.Eng
variable {P:Program}
theorem AC.top {f:Nat} {args:List Value} {Q:Value→Hp→Nat→Prop} (h:AC P f args (hpOf .nil) 0 Q) (w:World) (args':Array Value) (ha:ARel (fun _=>none) args.toArray args') :
  Calls P f args' w fun e w' => ∃ v v' H' c' ρ',e=.returned v'∧Q v H' c'∧VRel ρ' v v'∧RowKit.Below w.heap.size w w':=by
 have he:hpOf .nil=fun _=>none:=rfl
 refine (h.2 (fun _=>none) w args' ⟨fun id b hb=>(by cases hb),fun i j bi bj ti tj hi=>(by cases hi)⟩ (fun _ _=>rfl) ha).mono ?_
 rintro e w' ⟨v,v',H',c', ρ',e1,q,d⟩
 exact ⟨v,v',H',c', ρ',e1,q,d.val,d.ext.below (fun id b hb=>by cases hb)⟩
end Go.Eng
namespace Go.Proofs.YtcallbfckjlagaaGreat
open Go.Eng
def saneK:KV:=fun v _ _=>match v with | .bool b=>b|_=>false
theorem saneRun:fX 100 irF 100000 13 [] .nil 0 saneK=true:=by kernel_rfl
theorem mixedS:Tryz.prog.follows .mixedOrders=true:=by kernel_rfl
theorem sane0:AC Tryz.prog 13 [] (hpOf .nil) 0 (fun v _ _=>v=.bool true):=by
 refine (AC.runS mixedS irF_ok saneRun).mono ?_
 rintro v H c ⟨H', -,h⟩
 unfold saneK at h
 split at h
 ·rw [h]
 ·cases h
end Go.Proofs.YtcallbfckjlagaaGreat
set_option maxHeartbeats 8000000
namespace Go.Proofs.YtcallbfckjlagaaGreat
open Go.Eng (IC IOper DReg IFn IsFn)
open Go.Sym Go.Pb
section
abbrev u12_5:IC:=qS [oV 4 (.bool false)] .ret []
abbrev u12_4:IC:=qK u12_5 .skip (.t 10) [0,1,10]
abbrev u12_3:IC:=qS [oM 6 0,oH 7 6,oM 8 1,oH 9 8,oB 10 7 9 .neq] u12_4 [0,1]
abbrev u12_11:IC:=qK .skip (.exit 0) (.t 14) [0,1,5,14]
abbrev u12_10:IC:=qS [oM 11 5,oM 12 0,oH 13 12,oB 14 11 13 .lss] u12_11 [0,1,5]
abbrev u12_15:IC:=qS [oV 4 (.bool false)] .ret []
abbrev u12_14:IC:=qK u12_15 .skip (.t 25) [0,1,5,25]
abbrev u12_13:IC:=qP [oM 17 0,oM 18 5,oA 19 17 18 5,oD 20 19 5,oM 21 1,oM 22 5,oA 23 21 22 5,oD 24 23 5,oP 25 (.eqa true [0,0,0,0,2] (.t 20) (.t 24))] u12_14 0 9 [0,1,5]
abbrev u12_16:IC:=qE [oM 15 5,oK 16 15 .add 1,oM 5 16] [0,1,5]
abbrev u12_12:IC:=qB u12_13 u12_16 1 [0,1,5]
abbrev u12_9:IC:=qQ u12_10 u12_12 [0,1,5]
abbrev u12_8:IC:=qJ (.loop u12_9) 0 [0,1,5]
abbrev u12_7:IC:=qS [oI 5 0] u12_8 [0,1]
abbrev u12_17:IC:=qS [oV 4 (.bool true)] .ret []
abbrev u12_6:IC:=qQ u12_7 u12_17 [0,1]
abbrev u12_2:IC:=qQ u12_3 u12_6 [0,1]
abbrev u12_1:IC:=qS [oV 4 (.bool false)] u12_2 [0,1]
def u12:IFn:=⟨26,u12_1,[.tmp 4]⟩
end
theorem isU12:IsFn Tryz.prog 12 u12:=by unfold IsFn;kernel_rfl
theorem effE (a b:Eff):a=b↔a.kind=b.kind∧a.A=b.A∧a.b=b.b∧a.c=b.c∧a.text=b.text:=by
 cases a;cases b;simp
theorem c_SameEffR (a b:List Eff) (n1:a.length≤9223372036854775807):PC Tryz.prog 12 [effsV a,effsV b] (.bool (decide (a=b))):=by
 refine PC.of mixedU isU12 (Nat.le_of_ble_eq_true rfl) (by simp [DV.nlL,DV.nl,nlL_effs]) rfl ?_
 show IW Tryz.prog 26 u12_1 ⟨argT _,_,_⟩ (rt [.tmp 4] _)
 by_cases hl:a.length=b.length
 case neg =>
  have hne:((a.length:Int) != (b.length:Int))=true:=by simp;omega
  repeat' ((with_reducible first|refine wr ?_|refine wb2 ?_ ?_<;>(intro hb;try simp only [hb])|fail)<;>try simp only [go_sem,seval,List.length_map,hne])
  rw [decide_eq_false (fun e=>hl (by rw [e]))];exact pc_ret rfl
 have hne:((a.length:Int) != (b.length:Int))=false:=by simp;omega
 repeat' ((with_reducible first|refine wr ?_|refine wb2 ?_ ?_<;>(intro hb;try simp only [hb])|fail)<;>try simp only [go_sem,seval,List.length_map,hne])
 refine i_loop (fun k:Nat=>[(0,effsV a),(1,effsV b),(5,I64 k)]) (fun _=>Sym.nil) (fun k cc=>k≤a.length∧a.take k=b.take k) (fun k=>a.length-k) 0 (by simp [tmLe,tm,Tm.upd]) (Sub.nil _) (by simp) ?_
 rintro k cc ⟨hk,he⟩
 by_cases hlt:k<a.length
 ·have hd:decide ((k:Int)<a.length)=true:=by simpa using hlt
  have hlt2:k<b.length:=by omega
  have hg:=List.getElem?_eq_getElem hlt
  have hg2:=List.getElem?_eq_getElem hlt2
  have hw:=w64 (n:=(k:Int)+1) (by omega) (by omega)
  repeat' ((with_reducible first|refine wr ?_|refine wb2 ?_ ?_<;>(intro hb;try simp only [hb])|fail)<;>try simp only [go_sem,seval,List.length_map,hd,hg,hg2,hw,eqa5])
  all_goals first
   | (refine ⟨k+1,rfl,Sub.nil _,inv ⟨hlt,(eqTo_step hg hg2 he).2 ?_⟩,by omega⟩;simpa [effE] using hb)
   | (rw [decide_eq_false (eq_fail hg hg2 ?_)];exact pc_ret rfl;intro hc;rw [effE] at hc;obtain ⟨h1,h2,h3,h4,h5⟩:=hc;simp [h1,h2,h3,h4,h5] at hb)
 have hd:decide ((k:Int)<a.length)=false:=by simpa using hlt
 repeat' ((with_reducible first|refine wr ?_|refine wb2 ?_ ?_<;>(intro hb;try simp only [hb])|fail)<;>try simp only [go_sem,seval,List.length_map,hd])
 rw [decide_eq_true (eq_done hl (by omega) he)];exact pc_ret rfl
theorem c_sane35:PC Tryz.prog 13 [] (.bool true):=by
 refine PC.of_calls sane0.1 rfl rfl fun ρ w vs _ hA=>?_
 have h0:vs = #[]:=by
  have:=hA.1
  exact Array.eq_empty_of_size_eq_zero this.symm
 subst h0
 refine (Go.Eng.AC.top (args:=[]) sane0 w #[] ⟨rfl,fun i x y hx hy=>by simp at hx⟩).mono ?_
 rintro e w' ⟨v,v',H',c', ρ',rfl,rfl,hv,hb⟩
 cases hv
 exact ⟨_,rfl,fun ρ'=>.bool true,hb⟩
end Go.Proofs.YtcallbfckjlagaaGreat
namespace Go.Proofs.YtcallbfckjlagaaGreat
open Go.Eng (IC IOper DReg IFn IsFn)
open Go.Sym Go.Pb
section
abbrev u18_6:IC:=qS [oM 23 12,oV 8 (.slice none 0 0),oV 9 (.slice none 0 0),oM 10 23] .ret [12]
abbrev u18_5:IC:=qK u18_6 .skip (.t 22) [3,11,12,22]
abbrev u18_4:IC:=qS [oM 21 12,oK 22 21 .neq 0] u18_5 [3,11,12]
abbrev u18_10:IC:=qK .skip (.exit 0) (.t 32) [3,11,32]
abbrev u18_9:IC:=qS [oM 24 11,oN 25 24,oF 26 25 14,oL 27 26,oY 28 27,oM 29 28,gM 30 3 29,gK 31 30 29 .gtr 0,oJ 32 29 31] u18_10 [3,11]
abbrev u18_12:IC:=qE [oM 35 11,oC 36 24 [.t 35]] [3,11]
abbrev u18_13:IC:=qE [oM 33 3,oK 34 33 .sub 1,oM 3 34] [3,11]
abbrev u18_11:IC:=qB u18_12 u18_13 1 [3,11]
abbrev u18_8:IC:=qQ u18_9 u18_11 [3,11]
abbrev u18_14:IC:=qD [oM 37 11,oN 38 37,oF 39 38 7,oF 40 39 0,oL 41 40,oM 42 11,oN 43 42,oF 44 43 15,oL 45 44,oM 8 41,oM 9 45,oI 10 0] .ret [(0,none),(1,none),(2,none),(3,none),(4,none),(5,none),(6,none),(7,none),(8,none),(9,some [5,6,7,8]),(10,some []),(11,some [])] 12 [11]
abbrev u18_7:IC:=qB (.loop u18_8) u18_14 0 [3,11]
abbrev u18_3:IC:=qQ u18_4 u18_7 [3,11,12]
abbrev u18_2:IC:=qS [oD 14 4 7,oM 15 1,oD 16 6 6,oM 17 3,oC 18 23 [.t 14,.t 15,.t 16,.t 17],oM 13 18,oE 19 13 0,oE 20 13 1,oM 11 19,oM 12 20] u18_3 [1,3,4,6]
abbrev u18_1:IC:=qS [oX 4 0,oX 6 2,oV 8 (.slice none 0 0),oV 9 (.slice none 0 0),oI 10 0] u18_2 [0,1,2,3]
def u18:IFn:=⟨46,u18_1,[.tmp 8,.tmp 9,.tmp 10]⟩
end
theorem isU18:IsFn Tryz.prog 18 u18:=by unfold IsFn;kernel_rfl
theorem g_errT (d:Int) {H:Hp}:∃ H2,GL H [.tup [.snil,.snil,I64 d]] H2 [trV ([],[],d)] :=
 ⟨H,GL.view fun ρ vs hA=>arel_one (fun w hw=>by
  obtain ⟨b,rfl,hB⟩:=hw.tup_inv
  refine .tup _ _ (by rw [← hB.1];rfl) (fun i x' y' hx hy=>?_)
  rcases i with _|_|_|i
  ·cases hx;exact (hB.2 0 _ y' rfl hy).snil_lst
  ·cases hx;exact (hB.2 1 _ y' rfl hy).snil_lst
  ·cases hx;exact hB.2 2 _ y' rfl hy
  ·cases hx) vs hA⟩
theorem trV_nl (q:List Int × List Int × Int):(trV q).nl=true:=by simp [trV,DV.nl,DV.nlL,nlL_ints]
theorem g_trace {x:Mch} {m v cc:Nat} {so eo:Option Nat} {junk:List DV} {M:Blk} (h:MN m v so eo x cc) (d:DV):∃ H2,GL (VR x m v so eo junk M) [.tup [.slc v 0 x.vars.length,todoV so x.stk.length,d]] H2 [.tup [ints x.vars,ints x.stk.reverse,d]]:=by
 cases hso:so with
 | none =>
  subst hso
  refine ⟨_,(g_vars h rfl _).trans (GL.view fun ρ vs hA=>?_)⟩
  refine arel_one (fun w hw=>?_) vs hA
  obtain ⟨b,rfl,hB⟩:=hw.tup_inv
  refine .tup _ _ (by rw [← hB.1];rfl) (fun i x' y' hx hy=>?_)
  rcases i with _|_|_|i
  ·cases hx;exact hB.2 0 _ y' rfl hy
  ·cases hx
   have:=hB.2 1 _ y' rfl hy
   show VRel _ (.lst (x.stk.reverse.map I64)) _
   rw [h.sn rfl];exact this.snil_lst
  ·cases hx;exact hB.2 2 _ y' rfl hy
  ·cases hx
 | some i =>
  subst hso
  obtain ⟨e1,e2,e3⟩:=h.sb i rfl
  refine ⟨_,(g_vars h rfl _).trans (GL.one (id:=i) (b:=⟨1,true,x.stk.reverse.map I64++junk⟩) (by rw [h_dne e2];exact VR_s (junk:=junk) (M:=M) h rfl) rfl (.cons _ _ _ _ (.tup _ _ (.cons _ _ _ _ (.same _) (.cons _ _ _ _ (fz_slc (u:=1) (by simp) (ints_unit _) ⟨junk,by rw [cells_ints]⟩) (FzL.refl _)))) .nil))⟩
theorem c_Trace (c:Prg) (e:Envr) (a b:Int) (z:Sized c e):PC Tryz.prog 18 [c.v,I64 a,e.v,I64 b] (trV (traceM c e a b)):=by
 refine PC.of mixedU isU18 (Nat.le_of_ble_eq_true rfl) (by simp [DV.nlL,DV.nl,nlL_ints,nlL_strs,nlL_instrs,nlL_entries]) (trV_nl _) ?_
 show IW Tryz.prog 46 u18_1 ⟨argT _,_,_⟩ (rt [.tmp 8,.tmp 9,.tmp 10] _)
 by_cases hb:begM c e a b=0
 case neg =>
  have cB:=c_begE c e a b z.hs z.n1 z.n2 z.n3 z.n4 hb
  have hd:(begM c e a b != 0)=true:=by simpa using hb
  have ex:traceM c e a b=([],[],begM c e a b):=by unfold traceM;rw [if_pos hb]
  rw [ex]
  repeat' ((with_reducible first|refine wr ?_|refine cpc cB ?_|refine wb2 ?_ ?_<;>(intro hb;try simp only [hb])|fail)<;>try simp only [go_sem,seval,hd])
  exact g_errT _
 obtain ⟨hE,b0,b1,en,hen,hpos,ha⟩:=begM_0 hb
 obtain ⟨p,rfl⟩:∃ p:Nat,a=(p:Int):=⟨a.toNat,by omega⟩
 obtain ⟨k,rfl⟩:∃ k:Nat,b=(k:Int):=⟨b.toNat,by omega⟩
 have ex:traceM c e (p:Int) (k:Int)=((trM c e k (mch0 e p)).vars,(trM c e k (mch0 e p)).stk.reverse,0):=by
  unfold traceM;rw [if_neg (by rw [hb];simp)];rfl
 rw [ex]
 obtain ⟨hv0,hv9⟩:=z.nv hb
 repeat' ((with_reducible first|refine wr ?_|refine wb2 ?_ ?_<;>(intro hb;try simp only [hb])|fail)<;>try simp only [go_sem,seval])
 refine AC.call (c_begF c e p k z.hs z.n1 hv9 z.n3 z.n4 hv0 hb _ _) ?_
 rintro r H' c1 ⟨m,v,rfl,hm0,hsub⟩ hc1
 have hz:((0:Int) != 0)=false:=rfl
 simp only [go_sem,seval,hz]
 repeat' ((with_reducible first|refine wr ?_|refine wb2 ?_ ?_<;>(intro hb;try simp only [hb])|fail)<;>try simp only [go_sem,seval,hz])
 refine i_loop (fun q:Nat × Mch × Option Nat × Option Nat × List DV=>[(3,I64 (q.1:Int)),(11,.ptr m 0)]) (fun q=>VM c e q.2.1 m v q.2.2.1 q.2.2.2.1 q.2.2.2.2)
  (fun q cc=>MN m v q.2.2.1 q.2.2.2.1 q.2.1 cc∧q.1≤k∧Inv c q.2.1∧q.2.1.effs.length+q.1≤k∧trM c e q.1 q.2.1=trM c e k (mch0 e p)) (fun q=>q.1) (k,mch0 e p,none,none,[])
  (by simp [tmLe,tm,Tm.upd]) hsub ⟨hm0,Nat.le_refl _,mch0_inv hE hen hpos,by simp [mch0],rfl⟩ ?_
 clear hm0 hsub
 rintro ⟨f,x,so,eo,junk⟩ cc ⟨hn,hfk,hI,hle,hex⟩
 simp only at hn hfk hI hle hex
 simp only
 have hM:VM c e x m v so eo junk m=some (vmB c e x v so eo):=VM_m hn
 have fn:∀ d,VM c e x m v so eo junk (cc+d)=none:=fun d=>VR_n hn (by omega)
 rw [← hex]
 by_cases hd:x.done=true
 ·rw [trM_stop (.inr hd)]
  repeat' ((with_reducible first|refine wr ?_|refine wb2 ?_ ?_<;>(intro hb;try simp only [hb])|fail)<;>try simp only [go_sem,seval,hM,hd,fn])
  exact g_trace hn _
 ·have hd':x.done=false:=by simpa using hd
  by_cases hf:f=0
  ·have e1:decide ((f:Int)>0)=false:=by simp;omega
   rw [trM_stop (.inl hf)]
   repeat' ((with_reducible first|refine wr ?_|refine wb2 ?_ ?_<;>(intro hb;try simp only [hb])|fail)<;>try simp only [go_sem,seval,hM,hd',e1,fn])
   exact g_trace hn _
  ·have e1:decide ((f:Int)>0)=true:=by simp;omega
   have hw:IntKind.i64.wrap ((f:Int)-1)=((f-1:Nat):Int):=by rw [w64 (by omega) (by omega)];omega
   repeat' ((with_reducible first|refine wr ?_|refine wb2 ?_ ?_<;>(intro hb;try simp only [hb])|fail)<;>try simp only [go_sem,seval,hM,hd',e1])
   refine AC.call (c_vstep hn (c.ins x.pc) (hI.ok hE hd' (by omega) z.clo z.act)) ?_
   rintro r H' c2 ⟨rfl,so2,eo2,j2,hn2,rfl⟩ hc2
   have hst:=eff_step (c:=c) (e:=e) (x:=x)
   obtain ⟨g,rfl⟩:∃ g,f=g+1:=⟨f-1,by omega⟩
   simp only [go_sem,seval,hw]
   repeat' ((with_reducible first|refine wr ?_|refine wb2 ?_ ?_<;>(intro hb;try simp only [hb])|fail)<;>try simp only [go_sem,seval,hw])
   exact ⟨(g,stepM c e x,so2,eo2,j2),rfl,Sub.refl _,inv ⟨hn2,by simp only;omega,hI.step hE hd',by simp only;omega,by rw [trM_go hd']⟩,by simp only;omega⟩
end Go.Proofs.YtcallbfckjlagaaGreat
set_option maxHeartbeats 4000000
namespace Go.Proofs.YtcallbfckjlagaaGreat
open Go.Eng (IC IOper DReg IFn IsFn)
open Go.Sym Go.Pb
section
abbrev u65_1:IC:=qE [oM 4 0,oM 5 0,oN 6 5,oF 7 6 14,oL 8 7,oM 9 1,⟨some 10,.new (.bsl 1 1 #[.int .i64 0] [(0,.t 9)]),none⟩,oT 11 8 10 1 8,oN 12 4,oF 13 12 14,oS 13 11 1] [0,1]
def u65:IFn:=⟨14,u65_1,[]⟩
end
theorem isU65:IsFn Tryz.prog 65 u65:=by unfold IsFn;kernel_rfl
section
abbrev u66_4:IC:=qS [oM 30 3,oM 2 30] .ret [3]
abbrev u66_3:IC:=qP [oM 16 0,oM 17 0,oN 18 17,oF 19 18 14,oL 20 19,oM 21 0,oN 22 21,oF 23 22 14,oL 24 23,oH 25 24,oK 26 25 .sub 1,oP 27 (.slc 1 (.t 20) none (some (.t 26))),oN 28 16,oF 29 28 14,oS 29 27 1] u66_4 0 15 [0,3]
abbrev u66_2:IC:=qP [oM 4 0,oN 5 4,oF 6 5 14,oL 7 6,oM 8 0,oN 9 8,oF 10 9 14,oL 11 10,oH 12 11,oK 13 12 .sub 1,oA 14 7 13 1,oL 15 14,oM 3 15] u66_3 4096 13 [0]
abbrev u66_1:IC:=qS [oI 2 0] u66_2 [0]
def u66:IFn:=⟨31,u66_1,[.tmp 2]⟩
end
theorem isU66:IsFn Tryz.prog 66 u66:=by unfold IsFn;kernel_rfl
section
abbrev u69_2:IC:=qG [oM 4 0,oM 5 0,oN 6 5,oF 7 6 15,oL 8 7,oD 9 3 5,⟨some 10,.new (.bsl 5 1 #[.int .i64 0,.int .i64 0,.int .i64 0,.int .i64 0,.string ⟨#[]⟩] [(0,.t 9)]),none⟩,oT 11 8 10 5 48,oN 12 4,oF 13 12 15,oS 13 11 1] [(0,none),(1,none),(2,none),(3,none),(4,none),(5,none),(6,none),(7,some [0]),(8,none),(9,none),(10,some [])] 11 [0,3]
abbrev u69_1:IC:=qS [oX 3 1] u69_2 [0,1]
def u69:IFn:=⟨14,u69_1,[]⟩
end
theorem isU69:IsFn Tryz.prog 69 u69:=by unfold IsFn;kernel_rfl
abbrev rcC (c:Prg) (e:Envr) (v nv:Nat) (pc:Int) (n:Int) (dn:Bool) (sv ev:DV):List DV :=
 [inssV c.instrs,strs c.strings,entsV c.entries,ints c.prios,ints c.vars,I64 c.timers,I64 c.events,ints e.vars,ints e.left,.int .u64 (e.closed:Int),.int .u32 (e.active:Int),I64 e.player,I64 e.ball,.slc v 0 nv,sv,ev,I64 pc,I64 n,.bool dn]
abbrev rmB (c:Prg) (e:Envr) (x:Mch) (n:Nat) (v:Nat) (so eo:Option Nat):Blk:=⟨0,true,rcC c e v x.vars.length (x.pc:Int) (n:Int) x.done (todoV so x.stk.length) (todoV eo x.effs.length)⟩
def RM (c:Prg) (e:Envr) (x:Mch) (n:Nat) (m v:Nat) (so eo:Option Nat) (junk:List DV):Hp:=VR x m v so eo junk (rmB c e x n v so eo)
section
variable {c:Prg} {e:Envr} {x:Mch} {n m v cc:Nat} {so eo:Option Nat} {junk:List DV}
theorem RM_m (h:MN m v so eo x cc):RM c e x n m v so eo junk m=some (rmB c e x n v so eo):=VR_m h
theorem c_rput (h:MN m v so eo x cc) (hb:x.stk.length≤100000) (a:Int) :
  AC Tryz.prog 65 [.ptr m 0,I64 a] (RM c e x n m v so eo junk) cc (fun r H' c'=>r=.tup []∧∃ s2,cc≤s2∧s2<c'∧H'=RM c e (x.push a) n m v (some s2) eo []):=by
 refine AC.body mixedU isU65 (Nat.le_of_ble_eq_true rfl) fun hfr=>?_
 show IW Tryz.prog 14 u65_1 ⟨argT _,_,_⟩ (rt [] _)
 have hM:=RM_m (c:=c) (e:=e) (n:=n) (junk:=junk) h
 have hn:=h
 obtain ⟨h1,h2,h3,h4,h5,h6,h7,h8⟩:=h
 have ne0:=nes4 m v cc (cc+1) (by omega)
 have dm:∀ X,delO X so m=X m:=fun X=>delO_ne (fun i hi e=>(h4 i hi).1 e.symm)
 have dv:∀ X,delO X so v=X v:=fun X=>delO_ne (fun i hi e=>(h4 i hi).2.1 e.symm)
 repeat' ((with_reducible first|refine wr ?_|refine wb2 ?_ ?_<;>(intro hb;try simp only [hb])|fail)<;>try simp only [go_sem,seval,hM,ne0])
 refine k_eval (r_appj (cs:=x.stk.reverse.map I64) (junk:=junk) (fun e=>⟨len_nil (h7 e),by rw [h7 e];rfl⟩) (fun i hi=>?_) (by simp) (by omega) (by omega) (by omega)) ?_
 ·have:=h4 i hi
  rw [h_ne (by omega)];exact VR_s ⟨h1,h2,h3,h4,h5,h6,h7,h8⟩ hi
 simp only [go_sem,seval,dm,hM,ne0]
 repeat' ((with_reducible first|refine wr ?_|refine wb2 ?_ ?_<;>(intro hb;try simp only [hb])|fail)<;>try simp only [go_sem,seval,dm,hM,ne0])
 refine ⟨_,_,GL.less' (VR_sub (x:=x.push a) (m:=m) (v:=v) (so:=some (cc+1)) (eo:=eo) (junk:=[]) (M:=rmB c e (x.push a) n v (some (cc+1)) eo) ?_ ?_ (fun i hi=>?_) (fun i hi=>?_)),rfl,cc+1,by omega,by omega,rfl⟩
 ·rw [h_same];simp [Mch.push,todoV]
 ·rw [h_ne (by omega),h_ne (by omega),dv,h_ne (by omega)];exact VR_v hn
 ·cases hi;rw [h_ne (by omega),h_same];simp [Mch.push]
 ·have:=h5 i hi
  rw [h_ne (by omega),h_ne (by omega),delO_ne (fun j hj e=>h6 j i hj hi e.symm),h_ne (by omega)];exact VR_e hi
theorem c_rtake (h:MN m v so eo x cc) (hb:x.stk.length≤100000) (a:Int) (S:List Int) (hS:x.stk=a :: S) :
  AC Tryz.prog 66 [.ptr m 0] (RM c e x n m v so eo junk) cc (fun r H' c'=>r=I64 a∧H'=RM c e x.pop n m v so eo (I64 a :: junk)):=by
 obtain ⟨i,rfl⟩:∃ i,so=some i:=by
  cases so with
  | none=>have:=h.sn rfl;rw [hS] at this;cases this
  | some i=>exact ⟨i,rfl⟩
 refine AC.body mixedU isU66 (Nat.le_of_ble_eq_true rfl) fun hfr=>?_
 show IW Tryz.prog 31 u66_1 ⟨argT _,_,_⟩ (rt [.tmp 2] _)
 have hn:=h
 have hM:=RM_m (c:=c) (e:=e) (n:=n) (junk:=junk) h
 have hs:RM c e x n m v (some i) eo junk i=some ⟨1,true,x.stk.reverse.map I64++junk⟩:=VR_s h rfl
 have fn:∀ d,RM c e x n m v (some i) eo junk (cc+d)=none:=fun d=>VR_n hn (by omega)
 obtain ⟨h1,h2,h3,h4,h5,h6,h7,h8⟩:=h
 obtain ⟨q1,q2,q3⟩:=h4 i rfl
 have hl:x.stk.length=S.length+1:=by rw [hS];rfl
 have hw:IntKind.i64.wrap (((S.length+1:Nat):Int)-1)=(S.length:Int):=by rw [w64 (by omega) (by omega)];omega
 have hcell:(x.stk.reverse.map I64++junk)[S.length]? = some (I64 a):=by rw [hS];simp
 have hle:S.length≤S.length+1:=by omega
 have ne0:=nes3 m v i (by omega)
 repeat' ((with_reducible first|refine wr ?_|refine wb2 ?_ ?_<;>(intro hb;try simp only [hb])|fail)<;>try simp only [go_sem,seval,hM,hs,hl,hw,hcell,hle,fn,Nat.lt_add_one,Nat.le_add_right,ne0])
 refine ⟨_,_,GL.less' (VR_sub (x:=x.pop) (m:=m) (v:=v) (so:=some i) (eo:=eo) (junk:=I64 a :: junk) (M:=rmB c e x.pop n v (some i) eo) ?_ ?_ (fun j hj=>?_) (fun j hj=>?_)),rfl,rfl⟩
 ·rw [h_same];simp [Mch.pop,todoV,hS]
 ·rw [h_ne (by omega)];exact VR_v hn
 ·cases hj;rw [h_ne q1,hs];simp [Mch.pop,hS]
 ·have:=h5 j hj
  rw [h_ne (by omega)];exact VR_e hj
theorem c_reff (h:MN m v so eo x cc) (hb:x.effs.length≤100000) (f:Eff) :
  AC Tryz.prog 69 [.ptr m 0,f.v] (RM c e x n m v so eo junk) cc (fun r H' c'=>r=.tup []∧∃ s2,cc≤s2∧s2<c'∧H'=RM c e (x.ask f) n m v so (some s2) junk):=by
 obtain ⟨op,A,b,d,t⟩:=f
 refine AC.body mixedU isU69 (Nat.le_of_ble_eq_true rfl) fun hfr=>?_
 show IW Tryz.prog 14 u69_1 ⟨argT _,_,_⟩ (rt [] _)
 have hM:=RM_m (c:=c) (e:=e) (n:=n) (junk:=junk) h
 have hn:=h
 obtain ⟨h1,h2,h3,h4,h5,h6,h7,h8⟩:=h
 have fn:=fun j (hj:cc≤j)=>VR_n (junk:=junk) (M:=rmB c e x n v so eo) hn hj
 have ne0:=nes6 m v cc (cc+1) (cc+1+6) (cc+1+11) (by omega)
 have dm:∀ X,delO X eo m=X m:=fun X=>delO_ne (fun i hi e=>(h5 i hi).1 e.symm)
 have dc:∀ X,delO X eo cc=X cc:=fun X=>delO_ne (fun i hi e=>by have:=h5 i hi;omega)
 have dc1:∀ X,delO X eo (cc+1)=X (cc+1):=fun X=>delO_ne (fun i hi e=>by have:=h5 i hi;omega)
 have f1:RM c e x n m v so eo junk (cc+1)=none:=fn (cc+1) (by omega)
 repeat' ((with_reducible first|refine wr ?_|refine wb2 ?_ ?_<;>(intro hb;try simp only [hb])|fail)<;>try simp only [go_sem,seval,hM,ne0])
 refine x_eval (r_apptodo (cs:=effC x.effs) (fun e=>⟨len_nil (h8 e),by rw [h8 e];rfl⟩) (fun i hi=>?_) (effC_len _) (by omega) (by omega) (by omega)) ?_
 ·have:=h5 i hi
  rw [h_ne (by omega),h_ne (by omega)];exact VR_e hi
 simp only [go_sem,seval,dm,dc,dc1,f1,hM,ne0]
 repeat' ((with_reducible first|refine wr ?_|refine wb2 ?_ ?_<;>(intro hb;try simp only [hb])|fail)<;>try simp only [go_sem,seval,dm,dc,dc1,f1,hM,ne0])
 refine ⟨_,_,GL.less' (VR_sub (x:=x.ask ⟨op,A,b,d,t⟩) (m:=m) (v:=v) (so:=so) (eo:=some (cc+1+11)) (junk:=junk) (M:=rmB c e (x.ask ⟨op,A,b,d,t⟩) n v so (some (cc+1+11))) ?_ ?_ (fun i hi=>?_) (fun i hi=>?_)),rfl,cc+1+11,by omega,by omega,rfl⟩
 ·rw [h_same];simp [Mch.ask,todoV]
 ·rw [h_ne (by omega),h_ne (by omega),delO_ne (fun j hj e=>(h5 j hj).2.1 e.symm),h_ne (by omega),h_ne (by omega)];exact VR_v hn
 ·have:=h4 i hi
  rw [h_ne (by omega),h_ne (by omega),delO_ne (fun j hj=>h6 i j hi hj),h_ne (by omega),h_ne (by omega)];exact VR_s hn hi
 ·cases hi;rw [h_ne (by omega),h_same];simp [Mch.ask,effC_app,effC_one]
end
end Go.Proofs.YtcallbfckjlagaaGreat
end
