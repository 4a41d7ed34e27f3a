/-
  THE ENGINE, part Q2: parts put into cells, and the cells of a text.
-/
import Derived.Test.YtniclakgfgmhhaaGreatEngP
set_option linter.unusedVariables false
set_option linter.unusedSimpArgs false
namespace Go.Eng

/-! ### overwriting -/
def ovr {α : Type} : List α → List α → List α
  | [], _ => []
  | a :: l, [] => a :: l
  | _ :: l, v :: vs => v :: ovr l vs
def spl {α : Type} : List α → Nat → List α → List α
  | l, 0, vs => ovr l vs
  | [], _ + 1, _ => []
  | a :: l, n + 1, vs => a :: spl l n vs
theorem spl_zero {α : Type} (l vs : List α) : spl l 0 vs = ovr l vs := by cases l <;> simp only [spl]
theorem ovr_nil {α : Type} (l : List α) : ovr l [] = l := by cases l <;> rfl
theorem spl_nil {α : Type} : ∀ (l : List α) (n : Nat), spl l n [] = l
  | l, 0 => by cases l <;> rfl
  | [], n + 1 => rfl
  | a :: l, n + 1 => by rw [spl, spl_nil l n]
theorem spl_cons {α : Type} : ∀ (l : List α) (n : Nat) (v : α) (vs : List α), spl l n (v :: vs) = spl (l.set n v) (n + 1) vs
  | [], 0, v, vs => rfl
  | [], n + 1, v, vs => rfl
  | a :: l, 0, v, vs => by
    rw [spl_zero]
    show v :: ovr l vs = spl (v :: l) 1 vs
    simp only [spl, spl_zero]
  | a :: l, n + 1, v, vs => by
    show a :: spl l n (v :: vs) = a :: spl (l.set n v) (n + 1) vs
    rw [spl_cons l n v vs]
theorem fold_spl : ∀ (vs : List Value) (off k : Nat) (cs : Array Value), (vs.zipIdx k).foldl (fun cs (p : Value × Nat) => cs.setIfInBounds (off + p.2) p.1) cs = ⟨spl cs.toList (off + k) vs⟩
  | [], off, k, cs => by simp [spl_nil]
  | v :: vs, off, k, cs => by
    rw [List.zipIdx_cons, List.foldl_cons, fold_spl vs off (k + 1), spl_cons]
    simp [Nat.add_assoc]

noncomputable def ov0 (_ : List Value) : List Value := []
noncomputable def ovC2 (l : List Value) (ih : List Value → List Value) (v : Value) (vs : List Value) (_ : List Value) : List Value := v :: ih vs
noncomputable def ovC (a : Value) (l : List Value) (ih : List Value → List Value) (vs : List Value) : List Value := @List.rec Value (fun _ => List Value) (a :: l) (ovC2 l ih) vs
noncomputable def ovX (l : List Value) : List Value → List Value := @List.rec Value (fun _ => List Value → List Value) ov0 ovC l
theorem ovX_eq : ∀ (l vs : List Value), ovX l vs = ovr l vs
  | [], vs => by cases vs <;> rfl
  | a :: l, [] => rfl
  | a :: l, v :: vs => by
    show v :: ovX l vs = v :: ovr l vs
    rw [ovX_eq l vs]
noncomputable def sp0 (n : Nat) (vs : List Value) : List Value := []
noncomputable def spC (a : Value) (l : List Value) (ih : Nat → List Value → List Value) (n : Nat) (vs : List Value) : List Value := @Nat.rec (fun _ => List Value) (ovX (a :: l) vs) (fun p _ => a :: ih p vs) n
noncomputable def spX (l : List Value) : Nat → List Value → List Value := @List.rec Value (fun _ => Nat → List Value → List Value) sp0 spC l
theorem spX_eq : ∀ (l : List Value) (n : Nat) (vs : List Value), spX l n vs = spl l n vs
  | [], 0, vs => by cases vs <;> rfl
  | [], n + 1, vs => rfl
  | a :: l, 0, vs => ovX_eq (a :: l) vs
  | a :: l, n + 1, vs => by
    show a :: spX l n vs = a :: spl l n vs
    rw [spX_eq l n vs]

noncomputable def lenC (α : Type) (_ : α) (_ : List α) (ih : Nat) : Nat := Nat.succ ih
noncomputable def lenX (α : Type) (l : List α) : Nat := @List.rec α (fun _ => Nat) 0 (lenC α) l
theorem lenX_eq {α : Type} : ∀ l : List α, lenX α l = l.length
  | [] => rfl
  | a :: l => by
    show Nat.succ (lenX α l) = _
    rw [lenX_eq l]; rfl

noncomputable def cls1 (v : Value) : List Value := v :: []
noncomputable def clsX (v : Value) : List Value := @Value.rec.{1} (fun _ => Value → List Value) (fun _ => PUnit) (fun _ => PUnit) (fun _ => cls1) (fun _ _ => cls1) (fun _ _ => cls1) (fun _ _ _ => cls1) (fun _ => cls1) (fun _ => cls1) (fun _ _ _ => cls1) (fun _ => cls1) (fun _ => cls1) (fun _ _ _ _ _ => cls1) (cls1) (fun _ _ _ => cls1) (cls1) (fun cs _ _ => cs.toList) (fun _ _ => cls1) (fun _ _ => PUnit.unit) PUnit.unit (fun _ _ _ _ => PUnit.unit) v v
theorem clsX_eq (v : Value) : clsX v = v.cells.toList := by cases v <;> rfl

abbrev FL := List Value → (Nat → Option (Nat × Nat)) → Option (List Value)
noncomputable def flNil (l : List Value) (pl : Nat → Option (Nat × Nat)) : Option (List Value) := some l
noncomputable def flP (vs l : List Value) (pl : Nat → Option (Nat × Nat)) (ih : FL) (off size : Nat) : Option (List Value) :=
  @Bool.rec (fun _ => Option (List Value)) none (@Bool.rec (fun _ => Option (List Value)) none (ih (spX l off vs) pl) (Nat.ble (Nat.add off size) (lenX Value l))) (Nat.beq (lenX Value vs) size)
noncomputable def flV (i : Nat) (v : Value) (ih : FL) (l : List Value) (pl : Nat → Option (Nat × Nat)) : Option (List Value) :=
  @Option.rec (Nat × Nat) (fun _ => Option (List Value)) none (@Prod.rec Nat Nat (fun _ => Option (List Value)) (flP (clsX v) l pl ih)) (pl i)
noncomputable def flCons (p : Nat × Value) (_ : List (Nat × Value)) (ih : FL) : FL := @Prod.rec Nat Value (fun _ => FL → FL) flV p ih
noncomputable def flX (parts : List (Nat × Value)) : FL := @List.rec (Nat × Value) (fun _ => FL) flNil flCons parts
theorem spl_length {α : Type} : ∀ (l : List α) (n : Nat) (vs : List α), (spl l n vs).length = l.length
  | l, 0, vs => by
    rw [spl_zero]
    induction l generalizing vs with
    | nil => cases vs <;> rfl
    | cons a l ih => cases vs with
      | nil => rfl
      | cons v vs => simp [ovr, ih]
  | [], n + 1, vs => rfl
  | a :: l, n + 1, vs => by simp [spl, spl_length l n vs]
theorem flX_eq (pl : Nat → Option (Nat × Nat)) : ∀ (parts : List (Nat × Value)) (l : List Value), flX parts l pl = (Instr.fill pl ⟨l⟩ parts).map Array.toList
  | [], l => rfl
  | (i, v) :: rest, l => by
    show flV i v (flX rest) l pl = _
    unfold flV
    simp only [Instr.fill]
    cases pl i with
    | none => rfl
    | some p =>
      obtain ⟨off, size⟩ := p
      show flP (clsX v) l pl (flX rest) off size = _
      unfold flP
      have hsz : v.cells.size = (clsX v).length := by rw [clsX_eq]; simp
      have e1 : Nat.add off size = off + size := rfl
      simp only [lenX_eq, e1, hsz, List.size_toArray]
      cases hb : Nat.beq (clsX v).length size with
      | false =>
        have hne : (clsX v).length ≠ size := fun e => by rw [e, Nat.beq_refl] at hb; cases hb
        simp [hne]
      | true =>
        have he := Nat.eq_of_beq_eq_true hb
        simp only [he]
        cases hl : Nat.ble (off + size) l.length with
        | false =>
          have := bleF hl
          simp [this]
        | true =>
          have := Nat.le_of_ble_eq_true hl
          show flX rest (spX l off (clsX v)) pl = _
          have hn : ¬ (off + size > l.length) := by omega
          simp only [hn]
          have hf := fold_spl v.cells.toList off 0 ⟨l⟩
          have hz : v.cells.zipIdx.foldl (fun cs (x : Value × Nat) => cs.setIfInBounds (off + x.2) x.1) ⟨l⟩ = (⟨spl l off (clsX v)⟩ : Array Value) := by
            rw [← Array.foldl_toList, Array.toList_zipIdx, hf, clsX_eq]; rfl
          rw [flX_eq pl rest, spX_eq]
          simp only [bne_self_eq_false, decide_false, Bool.or_false, Bool.false_eq_true, if_false, ne_eq, not_true_eq_false, decide_true]
          exact congrArg (fun a => (Instr.fill pl a rest).map Array.toList) hz.symm

noncomputable def paP (fr : Fr) (i : Nat) (x : Opd) : Nat × Value := (i, (opdW x).f fr)
noncomputable def paC (fr : Fr) (p : Nat × Opd) (_ : List (Nat × Opd)) (ih : List (Nat × Value)) : List (Nat × Value) := @Prod.rec Nat Opd (fun _ => Nat × Value) (paP fr) p :: ih
noncomputable def paX (fr : Fr) (l : List (Nat × Opd)) : List (Nat × Value) := @List.rec (Nat × Opd) (fun _ => List (Nat × Value)) [] (paC fr) l
theorem paX_eq (fr : Fr) : ∀ l, paX fr l = l.map fun p => (p.1, p.2.ev (tmX fr))
  | [] => rfl
  | (i, x) :: l => by
    show (i, (opdW x).f fr) :: paX fr l = _
    rw [paX_eq fr l, rdO_eq]; rfl

/-! ### texts -/
noncomputable def eqB2 (a : UInt8) (ih : List UInt8 → Bool) (b : UInt8) (s : List UInt8) (_ : Bool) : Bool := @Bool.rec (fun _ => Bool) false (ih s) (Nat.beq a.toNat b.toNat)
noncomputable def eqB1 (a : UInt8) (_ : List UInt8) (ih : List UInt8 → Bool) (t : List UInt8) : Bool := @List.rec UInt8 (fun _ => Bool) false (eqB2 a ih) t
noncomputable def eqB0 (t : List UInt8) : Bool := @List.rec UInt8 (fun _ => Bool) true (fun _ _ _ => false) t
noncomputable def eqBX (s : List UInt8) : List UInt8 → Bool := @List.rec UInt8 (fun _ => List UInt8 → Bool) eqB0 eqB1 s
theorem eqBX_eq : ∀ (s t : List UInt8), eqBX s t = (s == t)
  | [], [] => rfl
  | [], b :: t => rfl
  | a :: s, [] => rfl
  | a :: s, b :: t => by
    show @Bool.rec (fun _ => Bool) false (eqBX s t) (Nat.beq a.toNat b.toNat) = _
    rw [eqBX_eq s t]
    cases hb : Nat.beq a.toNat b.toNat with
    | true =>
      have : a = b := UInt8.toNat_inj.1 (Nat.eq_of_beq_eq_true hb)
      subst this; simp
    | false =>
      have : a ≠ b := fun e => by rw [e, Nat.beq_refl] at hb; cases hb
      simp [this]

theorem spl_eq {α : Type} : ∀ (l : List α) (n : Nat) (vs : List α), n + vs.length ≤ l.length → spl l n vs = l.take n ++ vs ++ l.drop (n + vs.length)
  | l, 0, [], h => by rw [spl_zero, ovr_nil]; simp
  | [], 0, v :: vs, h => by simp at h
  | a :: l, 0, v :: vs, h => by
    have := spl_eq l 0 vs (by simp only [List.length_cons] at h; omega)
    rw [spl_zero] at this ⊢
    simp only [ovr, this, List.take_zero, List.nil_append, List.length_cons, Nat.zero_add, List.cons_append, List.drop_succ_cons]
  | [], n + 1, vs, h => by simp at h
  | a :: l, n + 1, vs, h => by
    have := spl_eq l n vs (by simp only [List.length_cons] at h; omega)
    simp only [spl, this, List.take_succ_cons, List.cons_append, show n + 1 + vs.length = (n + vs.length) + 1 by omega, List.drop_succ_cons]

noncomputable def tkC (α : Type) (a : α) (_ : List α) (ih : Nat → List α) (n : Nat) : List α := @Nat.rec (fun _ => List α) [] (fun p _ => a :: ih p) n
noncomputable def tkX (α : Type) (l : List α) : Nat → List α := @List.rec α (fun _ => Nat → List α) (fun _ => []) (tkC α) l
theorem tkX_eq {α : Type} : ∀ (l : List α) (n : Nat), tkX α l n = l.take n
  | [], n => by rw [List.take_nil]; rfl
  | a :: l, 0 => rfl
  | a :: l, n + 1 => by
    show a :: tkX α l n = _
    rw [tkX_eq l n, List.take_succ_cons]
noncomputable def dpC (α : Type) (a : α) (l : List α) (ih : Nat → List α) (n : Nat) : List α := @Nat.rec (fun _ => List α) (a :: l) (fun p _ => ih p) n
noncomputable def dpX (α : Type) (l : List α) : Nat → List α := @List.rec α (fun _ => Nat → List α) (fun _ => []) (dpC α) l
theorem dpX_eq {α : Type} : ∀ (l : List α) (n : Nat), dpX α l n = l.drop n
  | [], n => by rw [List.drop_nil]; rfl
  | a :: l, 0 => rfl
  | a :: l, n + 1 => by
    show dpX α l n = _
    rw [dpX_eq l n, List.drop_succ_cons]
end Go.Eng
