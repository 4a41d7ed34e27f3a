/-
  THE ENGINE, part B: the operations that read and reckon. 'FOp': an operation with its types looked up; 'fev': what it yields over abstract memory; 'trF': the translation of an operation; 'fev_sound': the model's operation yields a related value and leaves the world alone.
-/
import Derived.Test.YtniclakgfgmhhaaGreatEngA
set_option linter.unusedVariables false
set_option linter.unusedSimpArgs false
namespace Go.Eng

inductive Opd where
  | t (n : Nat)
  | k (v : Value)
  | f (n : Nat)

abbrev Tm := Nat → Value

def Opd.ev (T : Tm) : Opd → Value
  | .t n => T n
  | .k v => v
  | .f n => .func (.func n) #[] #[]

def Tm.upd (T : Tm) (d : Nat) (v : Value) : Tm := fun j => if j = d then v else T j

def opd : Operand → Option Opd
  | .tmp t => some (.t t)
  | .const v => if flat v then some (.k v) else none
  | .func f => some (.f f)
  | .global _ => none

def opdL : List Operand → Option (List Opd)
  | [] => some []
  | x :: r => match opd x, opdL r with
    | some y, some s => some (y :: s)
    | _, _ => none

/-- The frame's slots. -/
def TRel (ρ : Ren) (T : Tm) (a : Act) : Prop := ∀ t, VRel ρ (T t) (a.tmps.getD t undef)

theorem TRel.mono {ρ ρ' : Ren} (hl : ρ.le ρ') {T : Tm} {a : Act} (h : TRel ρ T a) : TRel ρ' T a := fun t => (h t).mono hl

theorem opd_sound {ρ : Ren} {T : Tm} {a : Act} (hT : TRel ρ T a) {o : Operand} {x : Opd} (h : opd o = some x) : VRel ρ (x.ev T) (a.eval o) := by
  cases o with
  | tmp t => simp only [opd, Option.some.injEq] at h; subst h; exact hT t
  | const v =>
    simp only [opd] at h
    split at h
    · rename_i hf; cases h; exact .of_flat hf
    · cases h
  | func f => simp only [opd, Option.some.injEq] at h; subst h; exact .func _ _ _ _ _ rfl (by simp) rfl (by simp)
  | global g => cases h

theorem opdL_sound {ρ : Ren} {T : Tm} {a : Act} (hT : TRel ρ T a) : ∀ {os : List Operand} {xs : List Opd}, opdL os = some xs →
    ARel ρ (xs.map (Opd.ev T)).toArray (os.map a.eval).toArray
  | [], xs, h => by simp only [opdL, Option.some.injEq] at h; subst h; exact ⟨rfl, by simp⟩
  | o :: os, xs, h => by
    simp only [opdL] at h
    split at h
    · rename_i y s hy hs
      cases h
      have ih := opdL_sound hT hs
      refine ⟨by simpa using ih.1, fun i x z hx hz => ?_⟩
      cases i with
      | zero => simp at hx hz; subst hx hz; exact opd_sound hT hy
      | succ i => exact ih.2 i x z (by simpa using hx) (by simpa using hz)
    · cases h

inductive FOp where
  | mv (x : Opd)
  | pick (c a b : Opd)
  | ld (n : Nat) (agg : Bool) (x : Opd)
  | fad (off : Nat) (x : Opd)
  | iad (sz : Nat) (x i : Opd)
  | iada (len sz : Nat) (x i : Opd)
  | idx (x i : Opd)
  | fld (off n : Nat) (agg : Bool) (x : Opd)
  | ext (x : Opd) (i : Nat)
  | nck (x : Opd)
  | bin (op : BinOp) (x y : Opd)
  | eqb (neg : Bool) (x y : Opd)
  | eqn (neg : Bool) (kd : Nat) (x y : Opd)
  | eqa (neg : Bool) (ks : List Nat) (x y : Opd)
  | un (op : UnOp) (x : Opd)
  | cvi (k : IntKind) (x : Opd)
  | cvs (x : Opd)
  | cvbs (x : Opd)
  | slc (sz : Nat) (x : Opd) (lo hi : Option Opd)
  | sls (x : Opd) (lo hi : Option Opd)
  | mkf (f : Nat) (a c : List Opd)
  | bld (zero : Array Value) (pl : List (Nat × Nat)) (parts : List (Nat × Opd))
  | len (x : Opd)
  | lens (x : Opd)
  | mn (x y : Opd)
  | mx (x y : Opd)

/-! ### what they yield -/
def ldv (H : Hp) (n : Nat) (agg : Bool) : Value → Option Value
  | .pointer (some ⟨id, off, none⟩) =>
    match H id with
    | some b =>
      match agg with
      | true => match Nat.ble (off + n) b.cells.length with
        | true => some (.agg ((b.cells.drop off).take n).toArray)
        | false => none
      | false => b.cells[off]?
    | none => none
  | _ => none

def intR (op : BinOp) (k : IntKind) (a b : Int) : Option Value :=
  match op with
  | .add => some (.int k (k.wrap (a + b)))
  | .sub => some (.int k (k.wrap (a - b)))
  | .mul => some (.int k (k.wrap (a * b)))
  | .quo => if b = 0 then none else some (.int k (k.wrap (a.tdiv b)))
  | .rem => if b = 0 then none else some (.int k (a.tmod b))
  | .and => some (.int k (bits .and k a b))
  | .or => some (.int k (bits .or k a b))
  | .xor => some (.int k (bits .xor k a b))
  | .andNot => some (.int k (bits .andNot k a b))
  | .eql => some (.bool (a == b))
  | .neq => some (.bool (a != b))
  | .lss => some (.bool (a < b))
  | .leq => some (.bool (a ≤ b))
  | .gtr => some (.bool (a > b))
  | .geq => some (.bool (a ≥ b))
  | _ => none

def strL (s : ByteArray) : List UInt8 := s.data.toList

def strR (op : BinOp) (a b : ByteArray) : Option Value :=
  match op with
  | .add => if a.data.size + b.data.size ≤ maxLen then some (.string ⟨a.data ++ b.data⟩) else none
  | .eql => some (.bool (strL a == strL b))
  | .neq => some (.bool !(strL a == strL b))
  | .lss => some (.bool (Op.bytesLess (strL a) (strL b)))
  | .leq => some (.bool (Op.bytesLess (strL a) (strL b) || strL a == strL b))
  | .gtr => some (.bool !(Op.bytesLess (strL a) (strL b) || strL a == strL b))
  | .geq => some (.bool !(Op.bytesLess (strL a) (strL b)))
  | _ => none

def binR (op : BinOp) (x y : Value) : Option Value :=
  match x, y with
  | .int k a, .int j b =>
    match op with
    | .shl => if b < 0 then none else some (.int k (k.wrap (a * 2 ^ (min b.toNat k.bits))))
    | .shr => if b < 0 then none else some (.int k (a.fdiv (2 ^ (min b.toNat k.bits))))
    | _ => if k = j then intR op k a b else none
  | .string a, .string b => strR op a b
  | _, _ => none

def unR (op : UnOp) (x : Value) : Option Value :=
  match op, x with
  | .neg, .int k n => some (.int k (k.wrap (0 - n)))
  | .xor, .int k n => some (.int k (bits .xor k (if k.signed then -1 else k.max) n))
  | .not, .bool b => some (.bool !b)
  | _, _ => none

/-- Against nil: pointers 0, slices 1, functions 2. -/
def nilR (kd : Nat) (x y : Value) : Option Bool :=
  match kd, x, y with
  | 0, .pointer none, .pointer b => some b.isNone
  | 0, .pointer (some _), .pointer none => some false
  | 1, .slice none _ _, .slice b _ _ => some b.isNone
  | 1, .slice (some _) _ _, .slice none _ _ => some false
  | 2, .nilFunc, .nilFunc => some true
  | 2, .nilFunc, .func _ _ _ => some false
  | 2, .func _ _ _, .nilFunc => some false
  | _, _, _ => none

/-- Two cells: integers 0, bools 1, strings 2. -/
def cellEq (kd : Nat) (x y : Value) : Option Bool :=
  match kd, x, y with
  | 0, .int j a, .int k b => if j = k then some (a == b) else none
  | 1, .bool a, .bool b => some (a == b)
  | 2, .string a, .string b => some (strL a == strL b)
  | _, _, _ => none

def cellsEq : List Nat → Nat → Array Value → Array Value → Option Bool
  | [], _, _, _ => some true
  | kd :: ks, i, a, b =>
    match a[i]?, b[i]? with
    | some x, some y => match cellEq kd x y with
      | some true => cellsEq ks (i + 1) a b
      | some false => some false
      | none => none
    | _, _ => none

def bytesOf : List Value → Option (List UInt8)
  | [] => some []
  | .int .u8 n :: r => match bytesOf r with
    | some s => some (UInt8.ofNat n.toNat :: s)
    | none => none
  | _ :: _ => none

def boundOf (d : Nat) : Option Value → Option Nat
  | none => some d
  | some (.int _ n) => if 0 ≤ n then some n.toNat else none
  | some _ => none

def slcR (H : Hp) (sz : Nat) (x : Value) (lo hi : Option Value) : Option Value :=
  match x with
  | .slice none 0 0 =>
    match boundOf 0 hi, boundOf 0 lo with
    | some 0, some 0 => some (.slice none 0 0)
    | _, _ => none
  | .slice (some ⟨id, off, none⟩) n c =>
    match boundOf n hi, boundOf 0 lo with
    | some h, some l =>
      match Nat.ble h n, Nat.ble l h with
      | true, true =>
        match c with
        | 0 => if l = 0 then some (.slice (some ⟨id, off, none⟩) h 0)
               else if l = h then some (.slice (some ⟨id, off, none⟩) 0 1)
               else match H id with
                 | some b => if b.unit = sz ∨ b.unit = 0 then some (.slice (some ⟨id, off + l * sz, none⟩) (h - l) 0) else none
                 | none => none
        | 1 => some (.slice (some ⟨id, off, none⟩) 0 1)
        | _ => none
      | _, _ => none
    | _, _ => none
  | _ => none

def slsR (s : ByteArray) (lo hi : Option Value) : Option Value :=
  match boundOf s.data.size hi, boundOf 0 lo with
  | some h, some l =>
    match Nat.ble h s.data.size, Nat.ble l h with
    | true, true => some (.string ⟨((s.data.toList.drop l).take (h - l)).toArray⟩)
    | _, _ => none
  | _, _ => none

def fev (H : Hp) (e : Opd → Value) : FOp → Option Value
  | .mv x => some (e x)
  | .pick c a b => match e c with
    | .bool true => some (e a)
    | .bool false => some (e b)
    | _ => none
  | .ld n agg x => ldv H n agg (e x)
  | .fad off x => match e x with
    | .pointer (some ⟨id, o, none⟩) => some (.pointer (some ⟨id, o + off, none⟩))
    | _ => none
  | .iad sz x i => match e x, e i with
    | .slice (some ⟨id, o, none⟩) n _, .int _ j => if 0 ≤ j ∧ j < n then some (.pointer (some ⟨id, o + j.toNat * sz, none⟩)) else none
    | _, _ => none
  | .iada len sz x i => match e x, e i with
    | .pointer (some ⟨id, o, none⟩), .int _ j => if 0 ≤ j ∧ j < len then some (.pointer (some ⟨id, o + j.toNat * sz, none⟩)) else none
    | _, _ => none
  | .idx x i => match e x, e i with
    | .string s, .int _ j => if 0 ≤ j then (match s.data.toList[j.toNat]? with | some b => some (.int .u8 b.toNat) | none => none) else none
    | _, _ => none
  | .fld off n agg x => match e x with
    | .agg cs => match agg with
      | true => match Nat.ble (off + n) cs.size with
        | true => some (.agg ((cs.toList.drop off).take n).toArray)
        | false => none
      | false => cs[off]?
    | _ => none
  | .ext x i => match e x with
    | .tuple vs => vs[i]?
    | _ => none
  | .nck x => match e x with
    | .pointer (some ⟨id, o, none⟩) => some (.pointer (some ⟨id, o, none⟩))
    | .func (.func f) a c => some (.func (.func f) a c)
    | _ => none
  | .bin op x y => binR op (e x) (e y)
  | .eqb neg x y => match e x, e y with
    | .bool a, .bool b => some (.bool (neg != (a == b)))
    | _, _ => none
  | .eqn neg kd x y => match nilR kd (e x) (e y) with
    | some r => some (.bool (neg != r))
    | none => none
  | .eqa neg ks x y => match e x, e y with
    | .agg a, .agg b => match cellsEq ks 0 a b with
      | some r => some (.bool (neg != r))
      | none => none
    | _, _ => none
  | .un op x => unR op (e x)
  | .cvi k x => match e x with
    | .int _ n => some (.int k (k.wrap n))
    | _ => none
  | .cvs x => match e x with
    | .string s => some (.string s)
    | _ => none
  | .cvbs x => match e x with
    | .slice none 0 0 => some (.string ⟨#[]⟩)
    | .slice (some ⟨_, _, none⟩) 0 1 => some (.string ⟨#[]⟩)
    | .slice (some ⟨id, o, none⟩) n 0 =>
      match n with
      | 0 => some (.string ⟨#[]⟩)
      | _ => match H id with
        | some b => match Nat.ble (o + n) b.cells.length with
          | true => match bytesOf ((b.cells.drop o).take n) with
            | some l => some (.string ⟨l.toArray⟩)
            | none => none
          | false => none
        | none => none
    | _ => none
  | .slc sz x lo hi => slcR H sz (e x) (lo.map e) (hi.map e)
  | .sls x lo hi => match e x with
    | .string s => slsR s (lo.map e) (hi.map e)
    | _ => none
  | .mkf f a c => some (.func (.func f) (a.map e).toArray (c.map e).toArray)
  | .bld zero pl parts => match Instr.fill (fun i => pl[i]?) zero (parts.map fun p => (p.1, e p.2)) with
    | some cs => some (.agg cs)
    | none => none
  | .len x => match e x with
    | .slice _ n _ => some (.int .i64 n)
    | _ => none
  | .lens x => match e x with
    | .string s => some (.int .i64 s.data.toList.length)
    | _ => none
  | .mn x y => match e x, e y with
    | .int k a, .int _ b => some (.int k (if b < a then b else a))
    | _, _ => none
  | .mx x y => match e x, e y with
    | .int k a, .int _ b => some (.int k (if b > a then b else a))
    | _, _ => none

end Go.Eng
