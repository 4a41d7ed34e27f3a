/-
  THE ENGINE, part A: names for memory. An abstract memory gives names to blocks; 'Ren' says which block of a world a name means; 'VRel' relates values, 'Rep' memories.
-/
import Derived.WalkKit
import Derived.ProofKit
set_option linter.unusedVariables false
set_option linter.unusedSimpArgs false
namespace Go.Eng

structure Tgt where
  block : Nat
  shift : Nat
  room : Nat
  unit : Nat

abbrev Ren := Nat → Option Tgt

inductive VRel (ρ : Ren) : Value → Value → Prop where
  | bool (b : Bool) : VRel ρ (.bool b) (.bool b)
  | int (k : IntKind) (n : Int) : VRel ρ (.int k n) (.int k n)
  | str (s : ByteArray) : VRel ρ (.string s) (.string s)
  | pnil : VRel ρ (.pointer none) (.pointer none)
  | ptr (id off : Nat) (t : Tgt) (h : ρ id = some t) : VRel ρ (.pointer (some ⟨id, off, none⟩)) (.pointer (some ⟨t.block, t.shift + off, none⟩))
  | snil : VRel ρ (.slice none 0 0) (.slice none 0 0)
  | slc (id off n c : Nat) (t : Tgt) (h : ρ id = some t) (hc : n ≤ c) (hm : c ≤ maxLen) (hr : t.unit = 0 ∨ off + c * t.unit ≤ t.room) :
      VRel ρ (.slice (some ⟨id, off, none⟩) n 0) (.slice (some ⟨t.block, t.shift + off, none⟩) n c)
  | tail (id off c : Nat) (a : Addr) : VRel ρ (.slice (some ⟨id, off, none⟩) 0 1) (.slice (some a) 0 c)
  | fnil : VRel ρ .nilFunc .nilFunc
  | inil : VRel ρ .nilIface .nilIface
  | iface (t : TypeId) (x y : Value) (h : VRel ρ x y) : VRel ρ (.iface t x) (.iface t y)
  | func (f : Fn) (a b c d : Array Value) (h1 : a.size = b.size) (h2 : ∀ (i : Nat) x y, a[i]? = some x → b[i]? = some y → VRel ρ x y)
      (h3 : c.size = d.size) (h4 : ∀ (i : Nat) x y, c[i]? = some x → d[i]? = some y → VRel ρ x y) : VRel ρ (.func f a c) (.func f b d)
  | agg (a b : Array Value) (h1 : a.size = b.size) (h2 : ∀ (i : Nat) x y, a[i]? = some x → b[i]? = some y → VRel ρ x y) : VRel ρ (.agg a) (.agg b)
  | tup (a b : Array Value) (h1 : a.size = b.size) (h2 : ∀ (i : Nat) x y, a[i]? = some x → b[i]? = some y → VRel ρ x y) : VRel ρ (.tuple a) (.tuple b)

/-- Two rows of values, place by place. -/
def ARel (ρ : Ren) (a b : Array Value) : Prop := a.size = b.size ∧ ∀ (i : Nat) x y, a[i]? = some x → b[i]? = some y → VRel ρ x y

def Ren.le (ρ ρ' : Ren) : Prop := ∀ id t, ρ id = some t → ρ' id = some t
theorem Ren.le_refl (ρ : Ren) : ρ.le ρ := fun _ _ h => h
theorem Ren.le_trans {a b c : Ren} (h : a.le b) (k : b.le c) : a.le c := fun id t e => k id t (h id t e)

theorem VRel.mono {ρ ρ' : Ren} (hl : ρ.le ρ') {v v' : Value} (h : VRel ρ v v') : VRel ρ' v v' := by
  induction h with
  | bool b => exact .bool b
  | int k n => exact .int k n
  | str s => exact .str s
  | pnil => exact .pnil
  | ptr id off t h => exact .ptr id off t (hl _ _ h)
  | snil => exact .snil
  | slc id off n c t h hc hm hr => exact .slc id off n c t (hl _ _ h) hc hm hr
  | tail id off c a => exact .tail id off c a
  | fnil => exact .fnil
  | inil => exact .inil
  | iface t x y _ ih => exact .iface t x y ih
  | func f a b c d h1 _ h3 _ ih1 ih2 => exact .func f a b c d h1 ih1 h3 ih2
  | agg a b h1 _ ih => exact .agg a b h1 ih
  | tup a b h1 _ ih => exact .tup a b h1 ih

theorem ARel.mono {ρ ρ' : Ren} (hl : ρ.le ρ') {a b : Array Value} (h : ARel ρ a b) : ARel ρ' a b :=
  ⟨h.1, fun i x y hx hy => (h.2 i x y hx hy).mono hl⟩

theorem ARel.get {ρ : Ren} {a b : Array Value} (h : ARel ρ a b) {i : Nat} {x : Value} (hx : a[i]? = some x) : ∃ y, b[i]? = some y ∧ VRel ρ x y := by
  have hi : i < a.size := (Array.getElem?_eq_some_iff.1 hx).1
  have hi' : i < b.size := h.1 ▸ hi
  exact ⟨b[i], by simp [hi'], h.2 i x _ hx (by simp [hi'])⟩

theorem ARel.none {ρ : Ren} {a b : Array Value} (h : ARel ρ a b) {i : Nat} (hx : a[i]? = .none) : b[i]? = .none := by
  rw [Array.getElem?_eq_none_iff] at *
  rw [← h.1]; exact hx

section inv
variable {ρ : Ren} {v : Value}
theorem VRel.bool_inv {b : Bool} (h : VRel ρ (.bool b) v) : v = .bool b := by cases h; rfl
theorem VRel.int_inv {k : IntKind} {n : Int} (h : VRel ρ (.int k n) v) : v = .int k n := by cases h; rfl
theorem VRel.str_inv {s : ByteArray} (h : VRel ρ (.string s) v) : v = .string s := by cases h; rfl
theorem VRel.ptr_inv {id off : Nat} {s : Option Nat} (h : VRel ρ (.pointer (some ⟨id, off, s⟩)) v) : s = none ∧ ∃ t, ρ id = some t ∧ v = .pointer (some ⟨t.block, t.shift + off, none⟩) := by
  cases h with
  | ptr _ _ t h => exact ⟨rfl, t, h, rfl⟩
theorem VRel.agg_inv {a : Array Value} (h : VRel ρ (.agg a) v) : ∃ b, v = .agg b ∧ ARel ρ a b := by
  cases h with
  | agg _ b h1 h2 => exact ⟨b, rfl, h1, h2⟩
theorem VRel.tup_inv {a : Array Value} (h : VRel ρ (.tuple a) v) : ∃ b, v = .tuple b ∧ ARel ρ a b := by
  cases h with
  | tup _ b h1 h2 => exact ⟨b, rfl, h1, h2⟩
theorem VRel.func_inv {f : Fn} {a c : Array Value} (h : VRel ρ (.func f a c) v) : ∃ b d, v = .func f b d ∧ ARel ρ a b ∧ ARel ρ c d := by
  cases h with
  | func _ _ b _ d h1 h2 h3 h4 => exact ⟨b, d, rfl, ⟨h1, h2⟩, ⟨h3, h4⟩⟩
theorem VRel.mkAgg {a b : Array Value} (h : ARel ρ a b) : VRel ρ (.agg a) (.agg b) := .agg a b h.1 h.2
theorem VRel.mkTup {a b : Array Value} (h : ARel ρ a b) : VRel ρ (.tuple a) (.tuple b) := .tup a b h.1 h.2
end inv

theorem VRel.one {ρ : Ren} {v v' : Value} (h : VRel ρ v v') : v'.oneCell' = v.oneCell' := by cases h <;> rfl

/-- The cells of a value. -/
theorem VRel.cells {ρ : Ren} {v v' : Value} (h : VRel ρ v v') : ARel ρ v.cells v'.cells := by
  have key : ∀ (x y : Value), VRel ρ x y → ARel ρ #[x] #[y] := fun x y hxy => ⟨rfl, fun i a b ha hb => by
    cases i with
    | zero => simp at ha hb; subst ha hb; exact hxy
    | succ i => simp at ha⟩
  cases h with
  | agg a b h1 h2 => exact ⟨h1, h2⟩
  | _ => refine key _ _ ?_; constructor <;> assumption

/-- Constants: no address in them. -/
def scal : Value → Bool
  | .bool _ | .int .. | .string _ | .pointer none | .nilFunc | .nilIface => true
  | .slice none 0 0 => true
  | _ => false
def flat : Value → Bool
  | .agg a | .tuple a => a.all scal
  | v => scal v

theorem VRel.of_scal {ρ : Ren} {v : Value} (h : scal v = true) : VRel ρ v v := by
  unfold scal at h
  split at h <;> first | (constructor; done) | (cases h; done)
theorem arel_of_scal {ρ : Ren} {a : Array Value} (h : a.all scal = true) : ARel ρ a a := by
  refine ⟨rfl, fun i x y hx hy => ?_⟩
  rw [hx] at hy; cases hy
  rw [Array.all_eq_true'] at h
  exact VRel.of_scal (h x (Array.mem_of_getElem? hx))
theorem VRel.of_flat {ρ : Ren} {v : Value} (h : flat v = true) : VRel ρ v v := by
  unfold flat at h
  split at h
  · exact .mkAgg (arel_of_scal h)
  · exact .mkTup (arel_of_scal h)
  · exact .of_scal h

/-- A block: how many cells an element of the slices over it has (0: none may be appended to), whether it is the walk's own, and its cells as far as they are known. -/
structure Blk where
  unit : Nat
  own : Bool
  cells : List Value

abbrev Hp := Nat → Option Blk

def Hp.upd (H : Hp) (id : Nat) (b : Blk) : Hp := fun j => if j = id then some b else H j
def Hp.del (H : Hp) (id : Nat) : Hp := fun j => if j = id then none else H j
def Ren.upd (ρ : Ren) (id : Nat) (t : Tgt) : Ren := fun j => if j = id then some t else ρ j

theorem Ren.le_upd {ρ : Ren} {id : Nat} {t : Tgt} (h : ρ id = none) : ρ.le (ρ.upd id t) := fun j u hj => by
  unfold Ren.upd
  by_cases e : j = id
  · subst e; rw [h] at hj; cases hj
  · simp [e, hj]

theorem Ren.upd_same (ρ : Ren) (id : Nat) (t : Tgt) : (ρ.upd id t) id = some t := by simp [Ren.upd]
theorem Hp.upd_same (H : Hp) (id : Nat) (b : Blk) : (H.upd id b) id = some b := by simp [Hp.upd]

/-- The known cells of a block, in a row of a world. -/
def CRel (ρ : Ren) (cells : List Value) (c : Array Value) (shift : Nat) : Prop :=
  ∀ (i : Nat) v, cells[i]? = some v → v.oneCell' = true ∧ ∃ v', c[shift + i]? = some v' ∧ VRel ρ v v'

def BRel (ρ : Ren) (b : Blk) (t : Tgt) (w : World) : Prop :=
  ∃ c e fr, w.heap[t.block]? = some (.cells c e fr) ∧ t.shift + t.room = c.size ∧ b.cells.length ≤ t.room ∧ t.unit = b.unit ∧ CRel ρ b.cells c t.shift ∧
    (b.own = true → fr = (0, 0) ∧ t.shift = 0)

structure Rep (ρ : Ren) (H : Hp) (w : World) : Prop where
  blk : ∀ id b, H id = some b → ∃ t, ρ id = some t ∧ BRel ρ b t w
  sep : ∀ i j bi bj ti tj, H i = some bi → H j = some bj → i ≠ j → ρ i = some ti → ρ j = some tj → bi.own = true → ti.block ≠ tj.block

theorem CRel.mono {ρ ρ' : Ren} (hl : ρ.le ρ') {cells : List Value} {c : Array Value} {s : Nat} (h : CRel ρ cells c s) : CRel ρ' cells c s :=
  fun i v hv => let ⟨h1, v', h2, h3⟩ := h i v hv; ⟨h1, v', h2, h3.mono hl⟩
theorem BRel.mono {ρ ρ' : Ren} (hl : ρ.le ρ') {b : Blk} {t : Tgt} {w : World} (h : BRel ρ b t w) : BRel ρ' b t w :=
  let ⟨c, e, fr, h1, h2, h3, h4, h5, h6⟩ := h; ⟨c, e, fr, h1, h2, h3, h4, h5.mono hl, h6⟩
theorem BRel.world {ρ : Ren} {b : Blk} {t : Tgt} {w w' : World} (h : BRel ρ b t w) (he : w'.heap[t.block]? = w.heap[t.block]?) : BRel ρ b t w' :=
  let ⟨c, e, fr, h1, h2⟩ := h; ⟨c, e, fr, he.trans h1, h2⟩
theorem BRel.lt {ρ : Ren} {b : Blk} {t : Tgt} {w : World} (h : BRel ρ b t w) : t.block < w.heap.size :=
  let ⟨_, _, _, h1, _⟩ := h; (Array.getElem?_eq_some_iff.1 h1).1

/-- What a piece of a walk does to memory: names stay, what was there and is not the walk's own stays, and what is the walk's own behind it is new or was its own. -/
structure Ext (ρ : Ren) (H : Hp) (w : World) (ρ' : Ren) (H' : Hp) (w' : World) : Prop where
  le : ρ.le ρ'
  os : w'.os = w.os
  tape : w'.tape = w.tape
  output : w'.output = w.output
  size : w.heap.size ≤ w'.heap.size
  keep : ∀ k, k < w.heap.size → (∀ id b t, H id = some b → b.own = true → ρ id = some t → t.block ≠ k) → w'.heap[k]? = w.heap[k]?
  mine : ∀ id b t, H' id = some b → ρ' id = some t → w.heap.size ≤ t.block ∨ ∃ i b0 t0, H i = some b0 ∧ (b.own = true → b0.own = true) ∧ ρ i = some t0 ∧ t0.block = t.block

theorem Ext.refl (ρ : Ren) (H : Hp) (w : World) : Ext ρ H w ρ H w :=
  ⟨Ren.le_refl _, rfl, rfl, rfl, Nat.le_refl _, fun _ _ _ => rfl, fun id b t h1 h3 => .inr ⟨id, b, t, h1, fun h => h, h3, rfl⟩⟩

theorem Ext.trans {ρ ρ' ρ'' : Ren} {H H' H'' : Hp} {w w' w'' : World} (h : Ext ρ H w ρ' H' w') (k : Ext ρ' H' w' ρ'' H'' w'') : Ext ρ H w ρ'' H'' w'' where
  le := Ren.le_trans h.le k.le
  os := k.os.trans h.os
  tape := k.tape.trans h.tape
  output := k.output.trans h.output
  size := Nat.le_trans h.size k.size
  keep := fun n hn hno => by
    rw [k.keep n (Nat.lt_of_lt_of_le hn h.size) ?_, h.keep n hn hno]
    intro id b t h1 h2 h3 h4
    rcases h.mine id b t h1 h3 with h5 | ⟨i, b0, t0, e1, e2, e3, e4⟩
    · omega
    · exact hno i b0 t0 e1 (e2 h2) e3 (e4.trans h4)
  mine := fun id b t h1 h3 => by
    rcases k.mine id b t h1 h3 with h5 | ⟨i, b0, t0, e1, e2, e3, e4⟩
    · exact .inl (Nat.le_trans h.size h5)
    · rcases h.mine i b0 t0 e1 e3 with h5 | ⟨i', b', t', f1, f2, f3, f4⟩
      · exact .inl (e4 ▸ h5)
      · exact .inr ⟨i', b', t', f1, fun ho => f2 (e2 ho), f3, f4.trans e4⟩

/-- A walk that stands in memory of which it names nothing of its own changes nothing that was there. -/
theorem Ext.below {ρ ρ' : Ren} {H H' : Hp} {w w' : World} (h : Ext ρ H w ρ' H' w') (hn : ∀ id b, H id = some b → b.own = false) : RowKit.Below w.heap.size w w' :=
  ⟨h.os, h.tape, h.output, h.size, fun k hk => h.keep k hk fun id b t h1 h2 _ => by rw [hn id b h1] at h2; cases h2⟩

end Go.Eng
