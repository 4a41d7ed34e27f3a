/-
  THE ENGINE, part X: the walk by rewriting: what comes later is a constant's application, into which rewriting finds nothing to change.
-/
import Derived.Test.YtniclakgfgmhhaaGreatEngW
set_option linter.unusedVariables false
set_option linter.unusedSimpArgs false
namespace Go.Eng

def seqK (P : Program) (N : Nat) (y : IC) (Q : Exit → St → Prop) : Exit → St → Prop := thenS (fun s' => wpI P N y s' Q) Q
def purK (P : Program) (Q : St → Prop) (os : List IOper) (s : St) (dst : Option Nat) : Option Value → Prop
  | some v => rwp P Q os ⟨updO s.T dst v, s.H, s.c⟩
  | none => False
def newK (P : Program) (Q : St → Prop) (os : List IOper) (s : St) (dst : Option Nat) : Option (Option Nat × Blk) → Prop
  | some (k, b) => rwp P Q os ⟨updO s.T dst (mkv s.c k), s.H.upd s.c b, s.c + 1⟩
  | none => False
def effK (P : Program) (Q : St → Prop) (os : List IOper) (s : St) (dst : Option Nat) : Option (Value × Hp × Nat) → Prop
  | some (v, H', c') => rwp P Q os ⟨updO s.T dst v, H', c'⟩
  | none => False
def callK (P : Program) (Q : St → Prop) (os : List IOper) (T : Tm) (dst : Option Nat) (v : Value) (H : Hp) (c : Nat) : Prop := rwp P Q os ⟨updO T dst v, H, c⟩
def grdK (P : Program) (Q : St → Prop) (o : IOper) (os : List IOper) (s : St) : Bool → Prop
  | true => rwp P Q (⟨o.dst, o.op, none⟩ :: os) s
  | false => rwp P Q os ⟨updO s.T o.dst undef, s.H, s.c⟩
def cndK (P : Program) (N : Nat) (x y : IC) (s : St) (Q : Exit → St → Prop) (v : Value) : Prop := ∃ b, v = .bool b ∧ (b = true → wpI P N x s Q) ∧ (b = false → wpI P N y s Q)
def eqbK (neg : Bool) (x y : Value) : Option Value := match x, y with
  | .bool a, .bool b => some (.bool (neg != (a == b)))
  | _, _ => none
def norK (Q : Exit → St → Prop) : St → Prop := Q .normal

section
variable {P : Program} {N : Nat} {Q : Exit → St → Prop} {R : St → Prop} {s : St} {x y : IC} {os : List IOper} {T : Tm} {H : Hp} {c : Nat} {dst : Option Nat} {v : Value}
theorem k_seq : wpI P N (.seq x y) s Q = wpI P N x s (seqK P N y Q) := propext Iff.rfl
theorem k_reg : wpI P N (.reg os) s Q = rwp P (norK Q) os s := propext Iff.rfl
theorem k_nor : norK Q s = Q .normal s := propext Iff.rfl
theorem k_sn : seqK P N y Q .normal s = wpI P N y s Q := propext Iff.rfl
theorem k_sr : seqK P N y Q .ret s = Q .ret s := propext Iff.rfl
theorem k_se {i : Nat} : seqK P N y Q (.exit i) s = Q (.exit i) s := propext Iff.rfl
theorem k_nil : rwp P R [] s = R s := propext Iff.rfl
theorem k_pur {f : FOp} : rwp P R (⟨dst, .pur f, none⟩ :: os) ⟨T, H, c⟩ = purK P R os ⟨T, H, c⟩ dst (fev H (Opd.ev T) f) := by
  simp only [rwp, wantG, oneP, purK]
  cases fev H (Opd.ev T) f <;> rfl
theorem k_new {f : AOp} : rwp P R (⟨dst, .new f, none⟩ :: os) ⟨T, H, c⟩ = newK P R os ⟨T, H, c⟩ dst (aev (Opd.ev T) f) := by
  simp only [rwp, wantG, oneP, newK]
  cases aev (Opd.ev T) f <;> rfl
theorem k_eff {f : EOp} : rwp P R (⟨dst, .eff f, none⟩ :: os) ⟨T, H, c⟩ = effK P R os ⟨T, H, c⟩ dst (eev H c (Opd.ev T) f) := by
  simp only [rwp, wantG, oneP, effK]
  cases eev H c (Opd.ev T) f <;> rfl
theorem k_call {f : Nat} {as : List Opd} : rwp P R (⟨dst, .call f as, none⟩ :: os) ⟨T, H, c⟩ = AC P f (as.map (Opd.ev T)) H c (callK P R os T dst) := propext Iff.rfl
theorem k_some {v : Value} : purK P R os ⟨T, H, c⟩ dst (some v) = rwp P R os ⟨updO T dst v, H, c⟩ := propext Iff.rfl
theorem k_nsome {k : Option Nat} {b : Blk} : newK P R os ⟨T, H, c⟩ dst (some (k, b)) = rwp P R os ⟨updO T dst (mkv c k), H.upd c b, c + 1⟩ := propext Iff.rfl
theorem k_esome {H' : Hp} {c' : Nat} : effK P R os ⟨T, H, c⟩ dst (some (v, H', c')) = rwp P R os ⟨updO T dst v, H', c'⟩ := propext Iff.rfl
theorem k_ap {H' : Hp} {c' : Nat} : callK P R os T dst v H' c' = rwp P R os ⟨updO T dst v, H', c'⟩ := propext Iff.rfl
theorem k_grd {op : IOp} {t : Nat} {b : Bool} : rwp P R (⟨dst, op, some (t, b)⟩ :: os) ⟨T, H, c⟩ = grdK P R ⟨dst, op, none⟩ os ⟨T, H, c⟩ (wantV (T t) b) := by
  simp only [rwp, wantG, grdK]
  cases wantV (T t) b <;> rfl
theorem k_gt {op : IOp} : grdK P R ⟨dst, op, none⟩ os ⟨T, H, c⟩ true = rwp P R (⟨dst, op, none⟩ :: os) ⟨T, H, c⟩ := propext Iff.rfl
theorem k_gf {op : IOp} : grdK P R ⟨dst, op, none⟩ os ⟨T, H, c⟩ false = rwp P R os ⟨updO T dst undef, H, c⟩ := propext Iff.rfl
theorem k_want {b d : Bool} : wantV (.bool b) d = (b == d) := rfl
theorem k_cond {o : Opd} : wpI P N (.cond o x y) ⟨T, H, c⟩ Q = cndK P N x y ⟨T, H, c⟩ Q (o.ev T) := propext wpI_cond
theorem k_ct : cndK P N x y s Q (.bool true) = wpI P N x s Q := by
  apply propext
  constructor
  · rintro ⟨b, e, h, _⟩; cases e; exact h rfl
  · intro h; exact ⟨true, rfl, fun _ => h, fun e => (by cases e)⟩
theorem k_cf : cndK P N x y s Q (.bool false) = wpI P N y s Q := by
  apply propext
  constructor
  · rintro ⟨b, e, _, h⟩; cases e; exact h rfl
  · intro h; exact ⟨false, rfl, fun e => (by cases e), fun _ => h⟩
theorem k_cb {b : Bool} (h1 : b = true → wpI P N x s Q) (h2 : b = false → wpI P N y s Q) : cndK P N x y s Q (.bool b) := ⟨b, rfl, h1, h2⟩
theorem k_mid (mid : St → Prop) (hx : wpI P N x s (thenS mid Q)) (hy : ∀ s', mid s' → wpI P N y s' Q) : wpI P N (.seq x y) s Q := seq_mid mid hx hy
theorem u_some {d : Nat} : updO T (some d) v = T.upd d v := rfl
theorem u_none : updO T none v = T := rfl

theorem p_t {e : Opd → Value} {o a b : Opd} (h : e o = .bool true) : fev H e (.pick o a b) = some (e a) := by simp only [fev, h]
theorem p_f {e : Opd → Value} {o a b : Opd} (h : e o = .bool false) : fev H e (.pick o a b) = some (e b) := by simp only [fev, h]
theorem q_b {e : Opd → Value} {neg : Bool} {x y : Opd} : fev H e (.eqb neg x y) = eqbK neg (e x) (e y) := rfl
theorem q_c {neg a b : Bool} : eqbK neg (.bool a) (.bool b) = some (.bool (neg != (a == b))) := rfl
theorem k_wu {b : Bool} : wantV undef b = false := rfl
theorem f_mv {e : Opd → Value} {o : Opd} : fev H e (.mv o) = some (e o) := rfl
theorem f_bin {e : Opd → Value} {op : BinOp} {a b : Opd} : fev H e (.bin op a b) = binR op (e a) (e b) := rfl
theorem f_un {e : Opd → Value} {op : UnOp} {a : Opd} : fev H e (.un op a) = unR op (e a) := rfl
theorem n_neg {k : IntKind} {n : Int} : unR .neg (.int k n) = some (.int k (k.wrap (0 - n))) := rfl
theorem n_not {b : Bool} : unR .not (.bool b) = some (.bool (!b)) := rfl
end
end Go.Eng
