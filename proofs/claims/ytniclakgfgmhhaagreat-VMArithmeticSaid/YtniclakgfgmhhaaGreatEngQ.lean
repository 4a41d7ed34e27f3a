/-
  THE ENGINE, part Q: the operations of the faster run; each is what the plain one is.
-/
import Derived.Test.YtniclakgfgmhhaaGreatEngQ2
set_option linter.unusedVariables false
set_option linter.unusedSimpArgs false
namespace Go.Eng

abbrev TrB := Tr Blk

/-! ### views of a value -/
noncomputable def adC (f : Nat → Nat → Option Value) (b o : Nat) (s : Option Nat) : Option Value := @Option.rec Nat (fun _ => Option Value) (f b o) (fun _ => none) s
noncomputable def adO (f : Nat → Nat → Option Value) (a : Option Addr) : Option Value := @Option.rec Addr (fun _ => Option Value) none (@Addr.rec (fun _ => Option Value) (adC f)) a
noncomputable def vPtr (f : Nat → Nat → Option Value) (v : Value) : Option Value := @Value.rec.{1} (fun _ => Option Value) (fun _ => PUnit) (fun _ => PUnit) (fun _ => none) (fun _ _ => none) (fun _ _ => none) (fun _ _ _ => none) (fun _ => none) (adO f) (fun _ _ _ => none) (fun _ => none) (fun _ => none) (fun _ _ _ _ _ => none) (none) (fun _ _ _ => none) (none) (fun _ _ => none) (fun _ _ => none) (fun _ _ => PUnit.unit) PUnit.unit (fun _ _ _ _ => PUnit.unit) v
theorem vPtr_eq (f : Nat → Nat → Option Value) (v : Value) : vPtr f v = (match v with | .pointer (some ⟨id, off, none⟩) => f id off | _ => none) := by
  cases v with
  | pointer a => cases a with
    | none => rfl
    | some a => obtain ⟨b, o, s⟩ := a; cases s <;> rfl
  | _ => rfl
noncomputable def slC (f : Nat → Nat → Nat → Nat → Option Value) (n c b o : Nat) (s : Option Nat) : Option Value := @Option.rec Nat (fun _ => Option Value) (f b o n c) (fun _ => none) s
noncomputable def slO (f : Nat → Nat → Nat → Nat → Option Value) (a : Option Addr) (n c : Nat) : Option Value := @Option.rec Addr (fun _ => Option Value) none (@Addr.rec (fun _ => Option Value) (slC f n c)) a
noncomputable def vSl (f : Nat → Nat → Nat → Nat → Option Value) (v : Value) : Option Value := @Value.rec.{1} (fun _ => Option Value) (fun _ => PUnit) (fun _ => PUnit) (fun _ => none) (fun _ _ => none) (fun _ _ => none) (fun _ _ _ => none) (fun _ => none) (fun _ => none) (slO f) (fun _ => none) (fun _ => none) (fun _ _ _ _ _ => none) (none) (fun _ _ _ => none) (none) (fun _ _ => none) (fun _ _ => none) (fun _ _ => PUnit.unit) PUnit.unit (fun _ _ _ _ => PUnit.unit) v
theorem vSl_eq (f : Nat → Nat → Nat → Nat → Option Value) (v : Value) : vSl f v = (match v with | .slice (some ⟨id, off, none⟩) n c => f id off n c | _ => none) := by
  cases v with
  | slice a n c => cases a with
    | none => rfl
    | some a => obtain ⟨b, o, s⟩ := a; cases s <;> rfl
  | _ => rfl
noncomputable def vInt (f : IntKind → Int → Option Value) (v : Value) : Option Value := @Value.rec.{1} (fun _ => Option Value) (fun _ => PUnit) (fun _ => PUnit) (fun _ => none) f (fun _ _ => none) (fun _ _ _ => none) (fun _ => none) (fun _ => none) (fun _ _ _ => none) (fun _ => none) (fun _ => none) (fun _ _ _ _ _ => none) (none) (fun _ _ _ => none) (none) (fun _ _ => none) (fun _ _ => none) (fun _ _ => PUnit.unit) PUnit.unit (fun _ _ _ _ => PUnit.unit) v
theorem vInt_eq (f : IntKind → Int → Option Value) (v : Value) : vInt f v = (match v with | .int k n => f k n | _ => none) := by cases v <;> rfl
noncomputable def vStr (f : ByteArray → Option Value) (v : Value) : Option Value := @Value.rec.{1} (fun _ => Option Value) (fun _ => PUnit) (fun _ => PUnit) (fun _ => none) (fun _ _ => none) (fun _ _ => none) (fun _ _ _ => none) f (fun _ => none) (fun _ _ _ => none) (fun _ => none) (fun _ => none) (fun _ _ _ _ _ => none) (none) (fun _ _ _ => none) (none) (fun _ _ => none) (fun _ _ => none) (fun _ _ => PUnit.unit) PUnit.unit (fun _ _ _ _ => PUnit.unit) v
theorem vStr_eq (f : ByteArray → Option Value) (v : Value) : vStr f v = (match v with | .string s => f s | _ => none) := by cases v <;> rfl
noncomputable def vBool (f : Bool → Option Value) (v : Value) : Option Value := @Value.rec.{1} (fun _ => Option Value) (fun _ => PUnit) (fun _ => PUnit) f (fun _ _ => none) (fun _ _ => none) (fun _ _ _ => none) (fun _ => none) (fun _ => none) (fun _ _ _ => none) (fun _ => none) (fun _ => none) (fun _ _ _ _ _ => none) (none) (fun _ _ _ => none) (none) (fun _ _ => none) (fun _ _ => none) (fun _ _ => PUnit.unit) PUnit.unit (fun _ _ _ _ => PUnit.unit) v
theorem vBool_eq (f : Bool → Option Value) (v : Value) : vBool f v = (match v with | .bool s => f s | _ => none) := by cases v <;> rfl

/-- One cell? -/
noncomputable def oneX (v : Value) : Bool := @Value.rec.{1} (fun _ => Bool) (fun _ => PUnit) (fun _ => PUnit) (fun _ => true) (fun _ _ => true) (fun _ _ => true) (fun _ _ _ => true) (fun _ => true) (fun _ => true) (fun _ _ _ => true) (fun _ => true) (fun _ => true) (fun _ _ _ _ _ => true) (true) (fun _ _ _ => true) (true) (fun _ _ => false) (fun _ _ => false) (fun _ _ => PUnit.unit) PUnit.unit (fun _ _ _ _ => PUnit.unit) v
theorem oneX_eq (v : Value) : oneX v = v.oneCell' := by cases v <;> rfl
noncomputable def lallC (a : Value) (l : List Value) (ih : Bool) : Bool := @Bool.rec (fun _ => Bool) false ih (oneX a)
noncomputable def lallX (l : List Value) : Bool := @List.rec Value (fun _ => Bool) true lallC l
theorem lallX_eq : ∀ l : List Value, lallX l = l.all Value.oneCell'
  | [] => rfl
  | a :: l => by
    show lallC a l (lallX l) = _
    rw [lallX_eq l, List.all_cons, ← oneX_eq]
    unfold lallC
    cases oneX a <;> rfl
noncomputable def clA (cs : Array Value) (_ : PUnit.{1}) (_ : Value) : Option (List Value) := @Bool.rec (fun _ => Option (List Value)) none (some cs.toList) (lallX cs.toList)
noncomputable def cl1 (v : Value) : Option (List Value) := some (v :: [])
noncomputable def cl0 (v : Value) : Option (List Value) := none
noncomputable def cellsX (v : Value) : Option (List Value) := @Value.rec.{1} (fun _ => Value → Option (List Value)) (fun _ => PUnit) (fun _ => PUnit) (fun _ => cl1) (fun _ _ => cl1) (fun _ _ => cl1) (fun _ _ _ => cl1) (fun _ => cl1) (fun _ => cl1) (fun _ _ _ => cl1) (fun _ => cl1) (fun _ => cl1) (fun _ _ _ _ _ => cl1) (cl1) (fun _ _ _ => cl1) (cl1) clA (fun _ _ => cl0) (fun _ _ => PUnit.unit) PUnit.unit (fun _ _ _ _ => PUnit.unit) v v
theorem cellsX_eq (v : Value) : cellsX v = (match v.cells.all Value.oneCell' with | true => some v.cells.toList | false => none) := by
  cases v with
  | agg cs =>
    show clA cs PUnit.unit (.agg cs) = _
    have e : (Value.agg cs).cells = cs := rfl
    rw [e, ← Array.all_toList, ← lallX_eq]
    unfold clA
    cases lallX cs.toList <;> rfl
  | tuple vs =>
    have : (Value.tuple vs).cells.all Value.oneCell' = false := by simp [Value.cells, Value.oneCell']
    rw [this]; rfl
  | _ => simp [Value.cells, Value.oneCell']; rfl

/-! ### memory -/
noncomputable def ldC (n : Nat) (agg : Bool) (off : Nat) (b : Blk) : Option Value :=
  @Bool.rec (fun _ => Option Value) (nthX Value b.cells off) (@Bool.rec (fun _ => Option Value) none (some (.agg ⟨tkX Value (dpX Value b.cells off) n⟩)) (Nat.ble (Nat.add off n) (lenX Value b.cells))) agg
noncomputable def ldB (H : TrB) (n : Nat) (agg : Bool) (id off : Nat) : Option Value := @Option.rec Blk (fun _ => Option Value) none (ldC n agg off) (Tr.gx Blk H id)
noncomputable def ldX (H : TrB) (n : Nat) (agg : Bool) (v : Value) : Option Value := vPtr (ldB H n agg) v
theorem ldX_eq (H : TrB) (n : Nat) (agg : Bool) (v : Value) : ldX H n agg v = ldv (hpOf H) n agg v := by
  unfold ldX
  rw [vPtr_eq]
  unfold ldv
  split
  · rename_i id off
    simp only [ldB, Tr.gx_eq, hpOf]
    cases H.get id with
    | none => rfl
    | some b =>
      show ldC n agg off b = _
      unfold ldC
      cases agg with
      | false => exact nthX_eq _ _
      | true =>
        have e : Nat.add off n = off + n := rfl
        simp only [e, lenX_eq, tkX_eq, dpX_eq]
        cases Nat.ble (off + n) b.cells.length <;> rfl
  · rename_i hne
    split
    · exact (hne _ _ rfl).elim
    · rfl

/-! ### two numbers -/
noncomputable def keq (k j : IntKind) : Bool := decide (k = j)
noncomputable def bIf (k j : IntKind) (v : Value) : Option Value := @Bool.rec (fun _ => Option Value) none (some v) (keq k j)
noncomputable def bAdd (j : IntKind) (b : Int) (k : IntKind) (a : Int) : Option Value := bIf k j (.int k (wrapX k (iaddX a b)))
noncomputable def bSub (j : IntKind) (b : Int) (k : IntKind) (a : Int) : Option Value := bIf k j (.int k (wrapX k (isubX a b)))
noncomputable def bMul (j : IntKind) (b : Int) (k : IntKind) (a : Int) : Option Value := bIf k j (.int k (wrapX k (Int.mul a b)))
noncomputable def bEql (j : IntKind) (b : Int) (k : IntKind) (a : Int) : Option Value := bIf k j (.bool (ieqX a b))
noncomputable def bNeq (j : IntKind) (b : Int) (k : IntKind) (a : Int) : Option Value := bIf k j (.bool (Bool.not (ieqX a b)))
noncomputable def bLss (j : IntKind) (b : Int) (k : IntKind) (a : Int) : Option Value := bIf k j (.bool (Bool.not (ileX b a)))
noncomputable def bLeq (j : IntKind) (b : Int) (k : IntKind) (a : Int) : Option Value := bIf k j (.bool (ileX a b))
noncomputable def bGtr (j : IntKind) (b : Int) (k : IntKind) (a : Int) : Option Value := bIf k j (.bool (Bool.not (ileX a b)))
noncomputable def bGeq (j : IntKind) (b : Int) (k : IntKind) (a : Int) : Option Value := bIf k j (.bool (ileX b a))
noncomputable def bAny (op : BinOp) (j : IntKind) (b : Int) (k : IntKind) (a : Int) : Option Value := binR op (.int k a) (.int j b)
theorem bIf_eq {k j : IntKind} {v : Value} : bIf k j v = if k = j then some v else none := by
  unfold bIf keq
  by_cases h : k = j
  · rw [decide_eq_true h, if_pos h]
  · rw [decide_eq_false h, if_neg h]
theorem not_le_dec (a b : Int) : (!decide (b ≤ a)) = decide (a < b) := by
  by_cases h : b ≤ a
  · rw [decide_eq_true h, decide_eq_false (by omega)]; rfl
  · rw [decide_eq_false h, decide_eq_true (by omega)]; rfl
noncomputable def vIk (f : IntKind → Int → IntKind → Int → Option Value) (k : IntKind) (a : Int) (v : Value) : Option Value := @Value.rec.{1} (fun _ => IntKind → Int → Option Value) (fun _ => PUnit) (fun _ => PUnit) (fun _ => (fun _ _ => none)) f (fun _ _ => (fun _ _ => none)) (fun _ _ _ => (fun _ _ => none)) (fun _ => (fun _ _ => none)) (fun _ => (fun _ _ => none)) (fun _ _ _ => (fun _ _ => none)) (fun _ => (fun _ _ => none)) (fun _ => (fun _ _ => none)) (fun _ _ _ _ _ => (fun _ _ => none)) ((fun _ _ => none)) (fun _ _ _ => (fun _ _ => none)) ((fun _ _ => none)) (fun _ _ => (fun _ _ => none)) (fun _ _ => (fun _ _ => none)) (fun _ _ => PUnit.unit) PUnit.unit (fun _ _ _ _ => PUnit.unit) v k a
noncomputable def sEql (s t : ByteArray) : Option Value := some (.bool (eqBX s.data.toList t.data.toList))
noncomputable def sNeq (s t : ByteArray) : Option Value := some (.bool (Bool.not (eqBX s.data.toList t.data.toList)))
noncomputable def bS1 (fs : ByteArray → ByteArray → Option Value) (s : ByteArray) (y : Value) : Option Value := vStr (fs s) y
noncomputable def binF (fi : IntKind → Int → IntKind → Int → Option Value) (fs : ByteArray → ByteArray → Option Value) (x y : Value) : Option Value := @Value.rec.{1} (fun _ => Value → Option Value) (fun _ => PUnit) (fun _ => PUnit) (fun _ => (fun _ => none)) (vIk fi) (fun _ _ => (fun _ => none)) (fun _ _ _ => (fun _ => none)) (bS1 fs) (fun _ => (fun _ => none)) (fun _ _ _ => (fun _ => none)) (fun _ => (fun _ => none)) (fun _ => (fun _ => none)) (fun _ _ _ _ _ => (fun _ => none)) ((fun _ => none)) (fun _ _ _ => (fun _ => none)) ((fun _ => none)) (fun _ _ => (fun _ => none)) (fun _ _ => (fun _ => none)) (fun _ _ => PUnit.unit) PUnit.unit (fun _ _ _ _ => PUnit.unit) x y
structure BinW where
  f : Value → Value → Option Value
noncomputable def binAny (op : BinOp) : BinW := ⟨binF (bAny op) (strR op)⟩
noncomputable def binW (op : BinOp) : BinW :=
  @BinOp.rec (fun _ => BinW) ⟨binF bAdd (strR .add)⟩ ⟨binF bSub (strR .sub)⟩ ⟨binF bMul (strR .mul)⟩ (binAny .quo) (binAny .rem) (binAny .and) (binAny .or) (binAny .xor) (binAny .shl) (binAny .shr) (binAny .andNot) ⟨binF bEql sEql⟩ ⟨binF bNeq sNeq⟩ ⟨binF bLss (strR .lss)⟩ ⟨binF bLeq (strR .leq)⟩ ⟨binF bGtr (strR .gtr)⟩ ⟨binF bGeq (strR .geq)⟩ op
theorem binF_eq {op : BinOp} {fi : IntKind → Int → IntKind → Int → Option Value} {fs : ByteArray → ByteArray → Option Value} (hi : ∀ j b k a, fi j b k a = binR op (.int k a) (.int j b)) (hs : ∀ s t, fs s t = strR op s t) (x y : Value) : binF fi fs x y = binR op x y := by
  cases x with
  | int k a => cases y with
    | int j b => exact hi j b k a
    | _ => rfl
  | string s => cases y with
    | string t => exact hs s t
    | _ => rfl
  | _ => cases y <;> rfl
theorem binX_eq (op : BinOp) (x y : Value) : (binW op).f x y = binR op x y := by
  cases op with
  | add => exact binF_eq (op := .add) (fun j b k a => by show bIf _ _ _ = _; rw [bIf_eq, wrapX_eq, iaddX_eq]; rfl) (fun _ _ => rfl) x y
  | sub => exact binF_eq (op := .sub) (fun j b k a => by show bIf _ _ _ = _; rw [bIf_eq, wrapX_eq, isubX_eq]; rfl) (fun _ _ => rfl) x y
  | mul => exact binF_eq (op := .mul) (fun j b k a => by show bIf _ _ _ = _; rw [bIf_eq, wrapX_eq]; rfl) (fun _ _ => rfl) x y
  | eql => exact binF_eq (op := .eql) (fun j b k a => by show bIf _ _ _ = _; rw [bIf_eq, ieqX_eq]; rfl) (fun s t => by show some _ = _; rw [eqBX_eq]; rfl) x y
  | neq => exact binF_eq (op := .neq) (fun j b k a => by show bIf _ _ _ = _; rw [bIf_eq, ieqX_eq]; rfl) (fun s t => by show some _ = _; rw [eqBX_eq]; rfl) x y
  | lss => exact binF_eq (op := .lss) (fun j b k a => by show bIf _ _ _ = _; rw [bIf_eq, ileX_eq, not_le_dec]; rfl) (fun _ _ => rfl) x y
  | leq => exact binF_eq (op := .leq) (fun j b k a => by show bIf _ _ _ = _; rw [bIf_eq, ileX_eq]; rfl) (fun _ _ => rfl) x y
  | gtr => exact binF_eq (op := .gtr) (fun j b k a => by show bIf _ _ _ = _; rw [bIf_eq, ileX_eq, not_le_dec]; rfl) (fun _ _ => rfl) x y
  | geq => exact binF_eq (op := .geq) (fun j b k a => by show bIf _ _ _ = _; rw [bIf_eq, ileX_eq]; rfl) (fun _ _ => rfl) x y
  | quo => exact binF_eq (op := .quo) (fun _ _ _ _ => rfl) (fun _ _ => rfl) x y
  | rem => exact binF_eq (op := .rem) (fun _ _ _ _ => rfl) (fun _ _ => rfl) x y
  | and => exact binF_eq (op := .and) (fun _ _ _ _ => rfl) (fun _ _ => rfl) x y
  | or => exact binF_eq (op := .or) (fun _ _ _ _ => rfl) (fun _ _ => rfl) x y
  | xor => exact binF_eq (op := .xor) (fun _ _ _ _ => rfl) (fun _ _ => rfl) x y
  | shl => exact binF_eq (op := .shl) (fun _ _ _ _ => rfl) (fun _ _ => rfl) x y
  | shr => exact binF_eq (op := .shr) (fun _ _ _ _ => rfl) (fun _ _ => rfl) x y
  | andNot => exact binF_eq (op := .andNot) (fun _ _ _ _ => rfl) (fun _ _ => rfl) x y

/-! ### the operations -/
abbrev FX := Fr → TrB → Option Value
noncomputable def xMv (x : Opd) (fr : Fr) (H : TrB) : Option Value := some ((opdW x).f fr)
noncomputable def pkB (fr : Fr) (a b : Opd) (t : Bool) : Option Value := @Bool.rec (fun _ => Option Value) (some ((opdW b).f fr)) (some ((opdW a).f fr)) t
noncomputable def xPick (c a b : Opd) (fr : Fr) (H : TrB) : Option Value := vBool (pkB fr a b) ((opdW c).f fr)
noncomputable def xLd (n : Nat) (agg : Bool) (x : Opd) (fr : Fr) (H : TrB) : Option Value := ldX H n agg ((opdW x).f fr)
noncomputable def fdC (off id o : Nat) : Option Value := some (.pointer (some ⟨id, Nat.add o off, none⟩))
noncomputable def xFad (off : Nat) (x : Opd) (fr : Fr) (H : TrB) : Option Value := vPtr (fdC off) ((opdW x).f fr)
noncomputable def iadE (sz id o n m : Nat) : Option Value := @Bool.rec (fun _ => Option Value) none (some (.pointer (some ⟨id, Nat.add o (Nat.mul m sz), none⟩))) (Nat.ble (Nat.succ m) n)
noncomputable def iadD (sz id o n : Nat) (_ : IntKind) (j : Int) : Option Value := @Int.rec (fun _ => Option Value) (iadE sz id o n) (fun _ => none) j
noncomputable def iadC (sz : Nat) (y : Value) (id o n c : Nat) : Option Value := vInt (iadD sz id o n) y
noncomputable def xIad (sz : Nat) (x i : Opd) (fr : Fr) (H : TrB) : Option Value := vSl (iadC sz ((opdW i).f fr)) ((opdW x).f fr)
noncomputable def xIadaC (len sz : Nat) (y : Value) (id o : Nat) : Option Value := vInt (iadD sz id o len) y
noncomputable def xIada (len sz : Nat) (x i : Opd) (fr : Fr) (H : TrB) : Option Value := vPtr (xIadaC len sz ((opdW i).f fr)) ((opdW x).f fr)
noncomputable def ixF (b : UInt8) : Option Value := some (.int .u8 b.toNat)
noncomputable def ixE (s : ByteArray) (m : Nat) : Option Value := @Option.rec UInt8 (fun _ => Option Value) none ixF (nthX UInt8 s.data.toList m)
noncomputable def ixD (s : ByteArray) (_ : IntKind) (j : Int) : Option Value := @Int.rec (fun _ => Option Value) (ixE s) (fun _ => none) j
noncomputable def ixC (y : Value) (s : ByteArray) : Option Value := vInt (ixD s) y
noncomputable def xIdx (x i : Opd) (fr : Fr) (H : TrB) : Option Value := vStr (ixC ((opdW i).f fr)) ((opdW x).f fr)
noncomputable def xBin (op : BinOp) (x y : Opd) (fr : Fr) (H : TrB) : Option Value := (binW op).f ((opdW x).f fr) ((opdW y).f fr)
noncomputable def xUn (op : UnOp) (x : Opd) (fr : Fr) (H : TrB) : Option Value := unR op ((opdW x).f fr)
noncomputable def cvC (k : IntKind) (_ : IntKind) (n : Int) : Option Value := some (.int k (wrapX k n))
noncomputable def xCvi (k : IntKind) (x : Opd) (fr : Fr) (H : TrB) : Option Value := vInt (cvC k) ((opdW x).f fr)
noncomputable def lnC (_ : Option Addr) (n _ : Nat) : Option Value := some (.int .i64 (.ofNat n))
noncomputable def vLen (v : Value) : Option Value := @Value.rec.{1} (fun _ => Option Value) (fun _ => PUnit) (fun _ => PUnit) (fun _ => none) (fun _ _ => none) (fun _ _ => none) (fun _ _ _ => none) (fun _ => none) (fun _ => none) lnC (fun _ => none) (fun _ => none) (fun _ _ _ _ _ => none) (none) (fun _ _ _ => none) (none) (fun _ _ => none) (fun _ _ => none) (fun _ _ => PUnit.unit) PUnit.unit (fun _ _ _ _ => PUnit.unit) v
noncomputable def xLen (x : Opd) (fr : Fr) (H : TrB) : Option Value := vLen ((opdW x).f fr)
noncomputable def lsC (s : ByteArray) : Option Value := some (.int .i64 (.ofNat s.data.toList.length))
noncomputable def xLens (x : Opd) (fr : Fr) (H : TrB) : Option Value := vStr lsC ((opdW x).f fr)
noncomputable def nkP (id o : Nat) : Option Value := some (.pointer (some ⟨id, o, none⟩))
noncomputable def nkF (f : Fn) (a c : Array Value) (_ _ : PUnit.{1}) : Option Value := match f with | .func f => some (.func (.func f) a c) | _ => none
noncomputable def vNck (v : Value) : Option Value := @Value.rec.{1} (fun _ => Option Value) (fun _ => PUnit) (fun _ => PUnit) (fun _ => none) (fun _ _ => none) (fun _ _ => none) (fun _ _ _ => none) (fun _ => none) (adO nkP) (fun _ _ _ => none) (fun _ => none) (fun _ => none) nkF (none) (fun _ _ _ => none) (none) (fun _ _ => none) (fun _ _ => none) (fun _ _ => PUnit.unit) PUnit.unit (fun _ _ _ _ => PUnit.unit) v
noncomputable def xNck (x : Opd) (fr : Fr) (H : TrB) : Option Value := vNck ((opdW x).f fr)
noncomputable def xAny (f : FOp) (fr : Fr) (H : TrB) : Option Value := fev (hpOf H) (Opd.ev (tmX fr)) f

noncomputable def fldC (off n : Nat) (agg : Bool) (cs : Array Value) (_ : PUnit.{1}) : Option Value :=
  @Bool.rec (fun _ => Option Value) (nthX Value cs.toList off) (@Bool.rec (fun _ => Option Value) none (some (.agg ⟨tkX Value (dpX Value cs.toList off) n⟩)) (Nat.ble (Nat.add off n) (lenX Value cs.toList))) agg
noncomputable def vAgg (f : Array Value → PUnit.{1} → Option Value) (v : Value) : Option Value := @Value.rec.{1} (fun _ => Option Value) (fun _ => PUnit) (fun _ => PUnit) (fun _ => none) (fun _ _ => none) (fun _ _ => none) (fun _ _ _ => none) (fun _ => none) (fun _ => none) (fun _ _ _ => none) (fun _ => none) (fun _ => none) (fun _ _ _ _ _ => none) (none) (fun _ _ _ => none) (none) f (fun _ _ => none) (fun _ _ => PUnit.unit) PUnit.unit (fun _ _ _ _ => PUnit.unit) v
noncomputable def vTup (f : Array Value → PUnit.{1} → Option Value) (v : Value) : Option Value := @Value.rec.{1} (fun _ => Option Value) (fun _ => PUnit) (fun _ => PUnit) (fun _ => none) (fun _ _ => none) (fun _ _ => none) (fun _ _ _ => none) (fun _ => none) (fun _ => none) (fun _ _ _ => none) (fun _ => none) (fun _ => none) (fun _ _ _ _ _ => none) (none) (fun _ _ _ => none) (none) (fun _ _ => none) f (fun _ _ => PUnit.unit) PUnit.unit (fun _ _ _ _ => PUnit.unit) v
noncomputable def xFld (off n : Nat) (agg : Bool) (x : Opd) (fr : Fr) (H : TrB) : Option Value := vAgg (fldC off n agg) ((opdW x).f fr)
noncomputable def extC (i : Nat) (vs : Array Value) (_ : PUnit.{1}) : Option Value := nthX Value vs.toList i
noncomputable def xExt (x : Opd) (i : Nat) (fr : Fr) (H : TrB) : Option Value := vTup (extC i) ((opdW x).f fr)
noncomputable def bdC (l : List Value) : Option Value := some (.agg ⟨l⟩)
noncomputable def xBld (z : Array Value) (pl : List (Nat × Nat)) (ps : List (Nat × Opd)) (fr : Fr) (H : TrB) : Option Value := @Option.rec (List Value) (fun _ => Option Value) none bdC (flX (paX fr ps) z.toList (nthX (Nat × Nat) pl))
structure FW where
  f : FX
noncomputable def fevW (f : FOp) : FW := @FOp.rec (fun _ => FW) (fun x => ⟨xMv x⟩) (fun c a b => ⟨xPick c a b⟩) (fun n g x => ⟨xLd n g x⟩) (fun o x => ⟨xFad o x⟩) (fun z x i => ⟨xIad z x i⟩) (fun l z x i => ⟨xIada l z x i⟩) (fun x i => ⟨xIdx x i⟩)
  (fun o n g x => ⟨xFld o n g x⟩) (fun x i => ⟨xExt x i⟩) (fun x => ⟨xNck x⟩) (fun o x y => ⟨xBin o x y⟩) (fun n x y => ⟨xAny (.eqb n x y)⟩) (fun n k x y => ⟨xAny (.eqn n k x y)⟩) (fun n k x y => ⟨xAny (.eqa n k x y)⟩)
  (fun o x => ⟨xUn o x⟩) (fun k x => ⟨xCvi k x⟩) (fun x => ⟨xAny (.cvs x)⟩) (fun x => ⟨xAny (.cvbs x)⟩) (fun s x l h => ⟨xAny (.slc s x l h)⟩) (fun x l h => ⟨xAny (.sls x l h)⟩) (fun f a c => ⟨xAny (.mkf f a c)⟩) (fun z p q => ⟨xBld z p q⟩) (fun x => ⟨xLen x⟩) (fun x => ⟨xLens x⟩) (fun x y => ⟨xAny (.mn x y)⟩) (fun x y => ⟨xAny (.mx x y)⟩) f
noncomputable def fevX (f : FOp) : FX := (fevW f).f

theorem fevX_eq (f : FOp) (fr : Fr) (H : TrB) : fevX f fr H = fev (hpOf H) (Opd.ev (tmX fr)) f := by
  cases f with
  | mv x => show some ((opdW x).f fr) = _; rw [rdO_eq]; rfl
  | pick c a b =>
    show vBool _ _ = _
    rw [vBool_eq, rdO_eq]
    simp only [fev]
    cases c.ev (tmX fr) with
    | bool t => cases t <;> (simp only [pkB, rdO_eq])
    | _ => rfl
  | ld n agg x => show ldX _ _ _ _ = _; rw [ldX_eq, rdO_eq]; rfl
  | fad off x =>
    show vPtr _ _ = _
    rw [vPtr_eq, rdO_eq]
    simp only [fev]
    split <;> rename_i h <;> simp only [h] <;> rfl
  | iad sz x i =>
    show vSl _ _ = _
    rw [vSl_eq, rdO_eq, rdO_eq]
    simp only [fev]
    split
    · rename_i id o n c hx
      simp only [hx, iadC, vInt_eq]
      split
      · rename_i k j hy
        simp only [hy, iadD]
        cases j with
        | ofNat m =>
          show iadE sz id o n m = _
          unfold iadE
          cases h : Nat.ble (Nat.succ m) n with
          | true => have := Nat.le_of_ble_eq_true h; rw [if_pos (by simp only [Int.ofNat_eq_natCast]; omega)]; rfl
          | false => have := bleF h; rw [if_neg (by simp only [Int.ofNat_eq_natCast]; omega)]
        | negSucc m => rw [if_neg (by omega)]
      · rename_i hne
        split
        · rename_i k j hy; exact absurd hy (hne _ _)
        · rfl
    · rename_i hne
      split
      · rename_i hx hy; exact absurd hx (hne _ _ _ _)
      · rfl
  | iada len sz x i =>
    show vPtr _ _ = _
    rw [vPtr_eq, rdO_eq, rdO_eq]
    simp only [fev]
    split
    · rename_i id o hx
      simp only [hx, xIadaC, vInt_eq]
      split
      · rename_i k j hy
        simp only [hy, iadD]
        cases j with
        | ofNat m =>
          show iadE sz id o len m = _
          unfold iadE
          cases h : Nat.ble (Nat.succ m) len with
          | true => have := Nat.le_of_ble_eq_true h; rw [if_pos (by simp only [Int.ofNat_eq_natCast]; omega)]; rfl
          | false => have := bleF h; rw [if_neg (by simp only [Int.ofNat_eq_natCast]; omega)]
        | negSucc m => rw [if_neg (by omega)]
      · rename_i hne
        split
        · rename_i k j hy; exact absurd hy (hne _ _)
        · rfl
    · rename_i hne
      split
      · rename_i hx hy; exact absurd hx (hne _ _)
      · rfl
  | idx x i =>
    show vStr _ _ = _
    rw [vStr_eq, rdO_eq, rdO_eq]
    simp only [fev]
    split
    · rename_i s hx
      simp only [hx, ixC, vInt_eq]
      split
      · rename_i k j hy
        simp only [hy, ixD]
        cases j with
        | ofNat m =>
          rw [if_pos (by simp)]
          show ixE s m = _
          unfold ixE
          rw [nthX_eq]
          show _ = match s.data.toList[m]? with | some b => some (Value.int .u8 b.toNat) | none => none
          cases s.data.toList[m]? <;> rfl
        | negSucc m => rw [if_neg (by omega)]
      · rename_i hne
        split
        · rename_i k j hy; exact absurd hy (hne _ _)
        · rfl
    · rename_i hne
      split
      · rename_i hx hy; exact absurd hx (hne _)
      · rfl
  | fld off n agg x =>
    show vAgg _ _ = _
    rw [rdO_eq]
    simp only [fev]
    cases x.ev (tmX fr) with
    | agg cs =>
      show fldC off n agg cs PUnit.unit = _
      unfold fldC
      cases agg with
      | false => show nthX Value cs.toList off = cs[off]?; rw [nthX_eq]; simp
      | true =>
        have e : Nat.add off n = off + n := rfl
        simp only [e, lenX_eq, tkX_eq, dpX_eq, Array.length_toList]
        cases Nat.ble (off + n) cs.size <;> rfl
    | _ => rfl
  | ext x i =>
    show vTup _ _ = _
    rw [rdO_eq]
    simp only [fev]
    cases x.ev (tmX fr) with
    | tuple vs => show nthX Value vs.toList i = vs[i]?; rw [nthX_eq]; simp
    | _ => rfl
  | bld z pl ps =>
    show @Option.rec (List Value) (fun _ => Option Value) none bdC (flX (paX fr ps) z.toList (nthX (Nat × Nat) pl)) = _
    have ep : nthX (Nat × Nat) pl = fun i => pl[i]? := funext fun i => nthX_eq pl i
    rw [flX_eq, paX_eq, ep]
    simp only [fev]
    cases Instr.fill (fun i => pl[i]?) z (ps.map fun p => (p.1, p.2.ev (tmX fr))) <;> rfl
  | nck x =>
    show vNck _ = _
    rw [rdO_eq]
    simp only [fev]
    cases x.ev (tmX fr) with
    | pointer a => cases a with
      | none => rfl
      | some a => obtain ⟨b, o, s⟩ := a; cases s <;> rfl
    | func f a c => cases f <;> rfl
    | _ => rfl
  | bin op x y => show (binW op).f _ _ = _; rw [binX_eq, rdO_eq, rdO_eq]; rfl
  | un op x => show unR _ _ = _; rw [rdO_eq]; rfl
  | cvi k x =>
    show vInt _ _ = _
    rw [vInt_eq, rdO_eq]
    simp only [fev, cvC, wrapX_eq]
    cases x.ev (tmX fr) <;> rfl
  | len x =>
    show vLen _ = _
    rw [rdO_eq]
    simp only [fev]
    cases x.ev (tmX fr) <;> rfl
  | lens x =>
    show vStr _ _ = _
    rw [vStr_eq, rdO_eq]
    rfl
  | _ => rfl

/-! ### new blocks -/
noncomputable def bxC (l : List Value) : Option (Option Nat × Blk) := some (none, ⟨0, true, l⟩)
noncomputable def xBox (x : Opd) (fr : Fr) : Option (Option Nat × Blk) := @Option.rec (List Value) (fun _ => Option (Option Nat × Blk)) none bxC (cellsX ((opdW x).f fr))
noncomputable def bslC (sz n : Nat) (l : List Value) : Option (Option Nat × Blk) := @Bool.rec (fun _ => Option (Option Nat × Blk)) none (some (some n, ⟨sz, true, l⟩)) (lallX l)
noncomputable def bslP (sz i : Nat) : Option (Nat × Nat) := some (i * sz, sz)
noncomputable def xBsl (sz n : Nat) (z : Array Value) (ps : List (Nat × Opd)) (fr : Fr) : Option (Option Nat × Blk) := @Option.rec (List Value) (fun _ => Option (Option Nat × Blk)) none (bslC sz n) (flX (paX fr ps) (madeCells z (n * sz)).toList (bslP sz))
noncomputable def aAny (f : AOp) (fr : Fr) : Option (Option Nat × Blk) := aev (Opd.ev (tmX fr)) f
structure AW where
  f : Fr → Option (Option Nat × Blk)
noncomputable def aevW (f : AOp) : AW := @AOp.rec (fun _ => AW) (fun x => ⟨xBox x⟩) (fun s n z p => ⟨xBsl s n z p⟩) (fun s b z l c => ⟨aAny (.msl s b z l c)⟩) f
noncomputable def aevX (f : AOp) : Fr → Option (Option Nat × Blk) := (aevW f).f
theorem aevX_eq (f : AOp) (fr : Fr) : aevX f fr = aev (Opd.ev (tmX fr)) f := by
  cases f with
  | box x =>
    show @Option.rec (List Value) (fun _ => Option (Option Nat × Blk)) none bxC (cellsX ((opdW x).f fr)) = _
    rw [cellsX_eq, rdO_eq]
    simp only [aev]
    cases (x.ev (tmX fr)).cells.all Value.oneCell' <;> rfl
  | bsl sz n z ps =>
    show @Option.rec (List Value) (fun _ => Option (Option Nat × Blk)) none (bslC sz n) (flX (paX fr ps) (madeCells z (n * sz)).toList (bslP sz)) = _
    rw [flX_eq, paX_eq]
    simp only [aev]
    show @Option.rec (List Value) (fun _ => Option (Option Nat × Blk)) none (bslC sz n) ((Instr.fill (fun i => some (i * sz, sz)) (madeCells z (n * sz)) (ps.map fun p => (p.1, p.2.ev (tmX fr)))).map Array.toList) = _
    cases Instr.fill (fun i => some (i * sz, sz)) (madeCells z (n * sz)) (ps.map fun p => (p.1, p.2.ev (tmX fr))) with
    | none => rfl
    | some cs =>
      show bslC sz n cs.toList = _
      unfold bslC
      rw [lallX_eq, Array.all_toList]
      show _ = (match cs.all Value.oneCell' with | true => some (some n, (⟨sz, true, cs.toList⟩ : Blk)) | false => none)
      cases cs.all Value.oneCell' <;> rfl
  | _ => rfl

/-! ### writing -/
noncomputable def stE (H : TrB) (c id off : Nat) (v : Value) (b : Blk) (_ : Value) : Res :=
  @Bool.rec (fun _ => Res) none (some (undef, Tr.sx Blk H id (some ⟨b.unit, true, lstX Value b.cells off v⟩), c)) b.own
noncomputable def stD (H : TrB) (c : Nat) (v : Value) (id off : Nat) (b : Blk) : Res := @Option.rec Value (fun _ => Res) none (stE H c id off v b) (nthX Value b.cells off)
noncomputable def stC (H : TrB) (c : Nat) (v : Value) (id off : Nat) : Res := @Option.rec Blk (fun _ => Res) none (stD H c v id off) (Tr.gx Blk H id)
noncomputable def stC1 (f : Nat → Nat → Res) (b o : Nat) (s : Option Nat) : Res := @Option.rec Nat (fun _ => Res) (f b o) (fun _ => none) s
noncomputable def stC2 (f : Nat → Nat → Res) (a : Option Addr) : Res := @Option.rec Addr (fun _ => Res) none (@Addr.rec (fun _ => Res) (stC1 f)) a
noncomputable def vPtrR (f : Nat → Nat → Res) (v : Value) : Res := @Value.rec.{1} (fun _ => Res) (fun _ => PUnit) (fun _ => PUnit) (fun _ => none) (fun _ _ => none) (fun _ _ => none) (fun _ _ _ => none) (fun _ => none) (stC2 f) (fun _ _ _ => none) (fun _ => none) (fun _ => none) (fun _ _ _ _ _ => none) (none) (fun _ _ _ => none) (none) (fun _ _ => none) (fun _ _ => none) (fun _ _ => PUnit.unit) PUnit.unit (fun _ _ _ _ => PUnit.unit) v
noncomputable def st1 (H : TrB) (c : Nat) (x v : Opd) (fr : Fr) : Res :=
  @Bool.rec (fun _ => Res) (gEff H c (Opd.ev (tmX fr)) (.st 1 x v)) (vPtrR (stC H c ((opdW v).f fr)) ((opdW x).f fr)) (oneX ((opdW v).f fr))
noncomputable def stF (H : TrB) (c n : Nat) (l : List Value) (id off : Nat) (b : Blk) : Res :=
  @Bool.rec (fun _ => Res) none (@Bool.rec (fun _ => Res) none (some (undef, Tr.sx Blk H id (some ⟨b.unit, true, spX b.cells off l⟩), c)) (Nat.ble (Nat.add off n) (lenX Value b.cells))) b.own
noncomputable def stG (H : TrB) (c n : Nat) (l : List Value) (id off : Nat) : Res := @Option.rec Blk (fun _ => Res) none (stF H c n l id off) (Tr.gx Blk H id)
noncomputable def stH (H : TrB) (c n : Nat) (x : Value) (l : List Value) : Res := @Bool.rec (fun _ => Res) none (vPtrR (stG H c n l) x) (Nat.beq (lenX Value l) n)
noncomputable def stN (n : Nat) (x v : Opd) (fr : Fr) (H : TrB) (c : Nat) : Res := @Option.rec (List Value) (fun _ => Res) none (stH H c n ((opdW x).f fr)) (cellsX ((opdW v).f fr))
noncomputable def xSt (n : Nat) (x v : Opd) (fr : Fr) (H : TrB) (c : Nat) : Res := @Bool.rec (fun _ => Res) (stN n x v fr H c) (st1 H c x v fr) (Nat.beq n 1)
noncomputable def eAny (f : EOp) (fr : Fr) (H : TrB) (c : Nat) : Res := gEff H c (Opd.ev (tmX fr)) f
structure EW where
  f : Fr → TrB → Nat → Res
noncomputable def eevW (f : EOp) : EW := @EOp.rec (fun _ => EW) (fun n x v => ⟨xSt n x v⟩) (fun s b x y => ⟨eAny (.app s b x y)⟩) (fun x y => ⟨eAny (.apps x y)⟩) f
noncomputable def eevX (f : EOp) : Fr → TrB → Nat → Res := (eevW f).f

theorem vPtrR_eq (f : Nat → Nat → Res) (v : Value) : vPtrR f v = (match v with | .pointer (some ⟨id, off, none⟩) => f id off | _ => none) := by
  cases v with
  | pointer a => cases a with
    | none => rfl
    | some a => obtain ⟨b, o, s⟩ := a; cases s <;> rfl
  | _ => rfl

theorem stN_eq (n : Nat) (x v : Opd) (fr : Fr) (H : TrB) (c : Nat) : stN n x v fr H c = gEff H c (Opd.ev (tmX fr)) (.st n x v) := by
  unfold stN
  rw [cellsX_eq, rdO_eq, rdO_eq]
  simp only [gEff]
  cases ha : (v.ev (tmX fr)).cells.all Value.oneCell' with
  | false =>
    simp only []
    split
    · split
      · rw [if_neg (fun h => by cases h.2.2.2)]
      · rfl
    · rfl
  | true =>
    show stH H c n _ (v.ev (tmX fr)).cells.toList = _
    unfold stH
    rw [lenX_eq, Array.length_toList]
    cases hn : Nat.beq (v.ev (tmX fr)).cells.size n with
    | false =>
      simp only []
      split
      · split
        · rw [if_neg (fun h => by have := h.2.1; rw [this, Nat.beq_refl] at hn; cases hn)]
        · rfl
      · rfl
    | true =>
      have hn' := Nat.eq_of_beq_eq_true hn
      show vPtrR _ _ = _
      rw [vPtrR_eq]
      split
      · rename_i id off hx
        simp only [hx, stG, Tr.gx_eq]
        cases H.get id with
        | none => rfl
        | some b =>
          show stF H c n _ id off b = _
          unfold stF
          cases how : b.own with
          | false => simp only []; rw [if_neg (fun h => by have := h.1; first | (rw [how] at this; cases this) | cases this)]
          | true =>
            have e1 : Nat.add off n = off + n := rfl
            rw [lenX_eq, e1]
            cases hb : Nat.ble (off + n) b.cells.length with
            | false => have := bleF hb; simp only []; rw [if_neg (fun h => by have := h.2.2.1; omega)]
            | true =>
              have hle := Nat.le_of_ble_eq_true hb
              simp only []
              rw [if_pos ⟨by first | exact how | rfl, hn', hle, by first | rfl | trivial⟩, Tr.sx_eq, spX_eq, spl_eq _ _ _ (by rw [Array.length_toList, hn']; exact hle), Array.length_toList, hn']
      · rename_i hne
        split
        · rename_i hx; exact (hne _ _ hx).elim
        · rfl

theorem eevX_eq (f : EOp) (fr : Fr) (H : TrB) (c : Nat) : eevX f fr H c = gEff H c (Opd.ev (tmX fr)) f := by
  cases f with
  | st n x v =>
    show xSt n x v fr H c = _
    unfold xSt
    cases hn : Nat.beq n 1 with
    | false => exact stN_eq n x v fr H c
    | true =>
      have := Nat.eq_of_beq_eq_true hn
      subst this
      show st1 H c x v fr = _
      unfold st1
      cases ho : oneX ((opdW v).f fr) with
      | false => rfl
      | true =>
        show vPtrR _ _ = _
        rw [vPtrR_eq, rdO_eq, rdO_eq]
        rw [rdO_eq] at ho
        have hc : (v.ev (tmX fr)).cells = #[v.ev (tmX fr)] := by
          cases hv : v.ev (tmX fr) <;> first | rfl | (rw [hv] at ho; cases ho)
        have h1 : (v.ev (tmX fr)).oneCell' = true := by rw [← oneX_eq]; exact ho
        simp only [gEff]
        split
        · rename_i id off hx
          simp only [hx, stC, Tr.gx_eq]
          cases H.get id with
          | none => rfl
          | some b =>
            show stD H c _ id off b = _
            unfold stD
            rw [nthX_eq]
            simp only [hc]
            cases hb : b.cells[off]? with
            | none =>
              have := List.getElem?_eq_none_iff.1 hb
              show none = _
              rw [if_neg (fun h => by have := h.2.2.1; omega)]
            | some w0 =>
              have hlt : off < b.cells.length := (List.getElem?_eq_some_iff.1 hb).1
              show stE H c id off _ b w0 = _
              unfold stE
              cases how : b.own with
              | false => rw [if_neg (fun h => by cases h.1)]
              | true =>
                rw [if_pos ⟨rfl, rfl, by omega, by simp [h1]⟩, Tr.sx_eq, lstX_eq _ _ _ hlt]
        · rename_i hne
          split
          · rename_i hx; exact (hne _ _ hx).elim
          · rfl
  | _ => rfl
end Go.Eng
