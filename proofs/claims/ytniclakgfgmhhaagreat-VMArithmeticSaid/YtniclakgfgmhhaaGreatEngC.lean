/-
  THE ENGINE, part C: the translation of the operations that read and reckon, and why it is right.
-/
import Derived.Test.YtniclakgfgmhhaaGreatEngB
set_option linter.unusedVariables false
set_option linter.unusedSimpArgs false
namespace Go.Eng

def isAggD : TypeDesc → Bool
  | .struct _ | .array _ _ => true
  | _ => false

def opdO : Option Operand → Option (Option Opd)
  | none => some none
  | some x => match opd x with
    | some y => some (some y)
    | none => none

/-- The places of a struct's fields. -/
def placesOf (P : Program) : List Field → Option (List (Nat × Nat))
  | [] => some []
  | f :: r => match P.info? f.type, placesOf P r with
    | some i, some s => some ((f.offset, i.size) :: s)
    | _, _ => none

def partsOf : List (Nat × Operand) → Option (List (Nat × Opd))
  | [] => some []
  | p :: r => match opd p.2, partsOf r with
    | some x, some s => some ((p.1, x) :: s)
    | _, _ => none

def kindOf : Option TypeDesc → Option Nat
  | some (.int _) => some 0
  | some .bool => some 1
  | some .string => some 2
  | _ => none

/-- A struct of plain cells, one a field, in order: their kinds. -/
def plainFields (P : Program) : Nat → List Field → Option (List Nat)
  | _, [] => some []
  | n, f :: r =>
    match kindOf (P.underlying f.type), plainFields P (n + 1) r with
    | some k, some ks => if f.offset = n ∧ f.name ≠ "_" then some (k :: ks) else none
    | _, _ => none

def nilKind : TypeDesc → Option Nat
  | .pointer _ => some 0
  | .slice _ => some 1
  | .func _ _ _ => some 2
  | _ => none

def trBin (P : Program) (op : BinOp) (t : TypeId) (x y : Opd) : Option FOp :=
  match P.underlying t with
  | some .bool => match op with
    | .eql => some (.eqb false x y)
    | .neq => some (.eqb true x y)
    | _ => none
  | some (.int _) | some .string => some (.bin op x y)
  | some (.struct fs) =>
    match plainFields P 0 fs.toList with
    | some ks => if P.stoodInHeld t = false ∧ P.eqGuardType P.depth t = false then
        match op with
        | .eql => some (.eqa false ks x y)
        | .neq => some (.eqa true ks x y)
        | _ => none
      else none
    | none => none
  | some D => match nilKind D, op with
    | some kd, .eql => some (.eqn false kd x y)
    | some kd, .neq => some (.eqn true kd x y)
    | _, _ => none
  | none => none

def trConv (P : Program) (s d : TypeId) (x : Opd) : Option FOp :=
  match P.underlying s, P.underlying d with
  | some (.int _), some (.int k) => some (.cvi k x)
  | some .string, some .string => some (.cvs x)
  | some (.slice e), some .string => match P.underlying e with
    | some (.int .u8) => match P.info? e with
      | some i => if i.size = 1 then some (.cvbs x) else none
      | none => none
    | _ => none
  | _, _ => none

def trF (P : Program) : Op → Option FOp
  | .move x => (opd x).map .mv
  | .assign x => (opd x).map .mv
  | .pick c a b => match opd c, opd a, opd b with
    | some c, some a, some b => some (.pick c a b)
    | _, _, _ => none
  | .load t x => match opd x, P.info? t, P.underlying t with
    | some x, some i, some u => some (.ld i.size (isAggD u) x)
    | _, _, _ => none
  | .fieldAddr s x k => match opd x, P.underlying s with
    | some x, some (.struct fs) => match fs[k]? with
      | some f => match P.info? f.type with
        | some i => if i.size = 0 then none else some (.fad f.offset x)
        | none => none
      | none => none
    | _, _ => none
  | .indexAddr t x i => match opd x, opd i, P.underlying t with
    | some x, some i, some (.slice e) => (P.info? e).map fun inf => .iad inf.size x i
    | some x, some i, some (.array n e) => (P.info? e).map fun inf => .iada n inf.size x i
    | _, _, _ => none
  | .index t x i => match opd x, opd i, P.underlying t with
    | some x, some i, some .string => some (.idx x i)
    | _, _, _ => none
  | .field t x k => match opd x, P.underlying t with
    | some x, some (.struct fs) => match fs[k]? with
      | some f => match P.info? f.type, P.underlying f.type with
        | some i, some u => some (.fld f.offset i.size (isAggD u) x)
        | _, _ => none
      | none => none
    | _, _ => none
  | .extract x i => (opd x).map fun x => .ext x i
  | .nilCheck x => (opd x).map .nck
  | .binOp op t x y _ => match opd x, opd y with
    | some x, some y => trBin P op t x y
    | _, _ => none
  | .unOp op _ x => (opd x).map (.un op)
  | .convert s d x => match opd x with
    | some x => trConv P s d x
    | none => none
  | .slice t x lo hi none => match opd x, opdO lo, opdO hi, P.underlying t with
    | some x, some lo, some hi, some (.slice e) => (P.info? e).map fun inf => .slc inf.size x lo hi
    | some x, some lo, some hi, some .string => some (.sls x lo hi)
    | _, _, _, _ => none
  | .makeFunc (.func f) a c => match opdL a.toList, opdL c.toList with
    | some a, some c => some (.mkf f a c)
    | _, _ => none
  | .build t ps => match P.info? t, P.underlying t, partsOf ps.toList with
    | some i, some (.struct fs), some ps => match i.zero, placesOf P fs.toList with
      | some z, some pl => if z.cells.all scal then some (.bld z.cells pl ps) else none
      | _, _ => none
    | _, _, _ => none
  | .call { callee := .builtin .len, args, argTypes } => match args.toList, argTypes.toList with
    | [x], [t] => match opd x, P.underlying t with
      | some x, some (.slice _) => some (.len x)
      | some x, some .string => some (.lens x)
      | _, _ => none
    | _, _ => none
  | .call { callee := .builtin .min, args, argTypes } => match args.toList with
    | [x, y] => match opd x, opd y with
      | some x, some y => some (.mn x y)
      | _, _ => none
    | _ => none
  | .call { callee := .builtin .max, args, argTypes } => match args.toList with
    | [x, y] => match opd x, opd y with
      | some x, some y => some (.mx x y)
      | _, _ => none
    | _ => none
  | _ => none

/-! ### why it is right -/
section
variable {P : Program} {ρ : Ren} {H : Hp} {w : World} {T : Tm} {a : Act}

theorem addr_add (b o n : Nat) : (⟨b, o, none⟩ : Addr).add n = ⟨b, o + n, none⟩ := by
  unfold Addr.add; split <;> simp_all

theorem run_loadCells_row {g off n : Nat} {c : Array Value} {e : TypeId} {fr : Nat × Nat} (hg : w.heap[g]? = some (.cells c e fr)) (hn : off + n ≤ c.size) :
    (loadCells ⟨g, off, none⟩ n).run P w = .ok ((c.toList.drop off).take n).toArray w := by
  have hl : ((c.toList.drop off).take n).length = n := by simp; omega
  have := run_loadCells_list (P := P) w ⟨g, off, none⟩ ((c.toList.drop off).take n) (fun j v hv => by
    rw [addr_add, cell_of_row w g _ c e fr hg]
    rw [List.getElem?_take] at hv
    split at hv
    · simpa [List.getElem?_drop] using hv
    · cases hv)
  rwa [hl] at this

theorem run_isAgg {t : TypeId} {u : TypeDesc} (hu : P.underlying t = some u) : (isAgg t).run P w = .ok (isAggD u) w := by
  unfold isAgg
  rw [Sem.run_bind, run_underlying hu w]
  cases u <;> rfl

theorem run_typeInfo {t : TypeId} {i : TypeInfo} (hi : P.info? t = some i) : (typeInfo t).run P w = .ok i w := by
  simp [typeInfo, hi]
theorem run_sizeOf {t : TypeId} {i : TypeInfo} (hi : P.info? t = some i) : (sizeOf t).run P w = .ok i.size w := by
  simp [sizeOf, typeInfo, hi]
theorem run_zeroValue {t : TypeId} {i : TypeInfo} {z : Value} (hi : P.info? t = some i) (hz : i.zero = some z) : (zeroValue t).run P w = .ok z w := by
  simp [zeroValue, typeInfo, hi, hz]

/-- Known cells of a block, in a world that it stands for. -/
theorem Rep.look (hR : Rep ρ H w) {id : Nat} {b : Blk} (hb : H id = some b) {t : Tgt} (ht : ρ id = some t) : BRel ρ b t w := by
  obtain ⟨t', h1, h2⟩ := hR.blk id b hb
  rw [ht] at h1; cases h1; exact h2

theorem CRel.get {cells : List Value} {c : Array Value} {s : Nat} (h : CRel ρ cells c s) {i : Nat} {v : Value} (hv : cells[i]? = some v) : ∃ v', c[s + i]? = some v' ∧ VRel ρ v v' := (h i v hv).2

theorem CRel.seg {cells : List Value} {c : Array Value} {s : Nat} (h : CRel ρ cells c s) {off n : Nat} (hn : off + n ≤ cells.length) (hc : s + cells.length ≤ c.size) :
    ARel ρ ((cells.drop off).take n).toArray ((c.toList.drop (s + off)).take n).toArray := by
  refine ⟨by simp; omega, fun i x y hx hy => ?_⟩
  simp only [List.getElem?_toArray, List.getElem?_take, List.getElem?_drop] at hx hy
  split at hx
  · rename_i hi
    simp only [hi, if_true] at hy
    obtain ⟨v', h1, h2⟩ := h.get hx
    rw [← Nat.add_assoc] at h1
    have : c[s + off + i]? = some y := by simpa using hy
    rw [h1] at this; cases this
    exact h2
  · cases hx

theorem ld_sound (hR : Rep ρ H w) {t : TypeId} {i : TypeInfo} {u : TypeDesc} (hi : P.info? t = some i) (hu : P.underlying t = some u) {p p' v : Value} (hp : VRel ρ p p')
    (h : ldv H i.size (isAggD u) p = some v) : ∃ v', (Instr.loadAt t p').run P w = .ok v' w ∧ VRel ρ v v' := by
  unfold ldv at h
  split at h
  · rename_i id off
    obtain ⟨-, tg, ht, rfl⟩ := hp.ptr_inv
    split at h
    · rename_i b hb
      obtain ⟨c, e, fr, h1, h2, h3, h4, h5, h6⟩ := hR.look hb ht
      split at h
      · rename_i hagg
        split at h
        · rename_i hle
          rw [Nat.ble_eq] at hle
          cases h
          refine ⟨_, ?_, .mkAgg (h5.seg hle (by omega))⟩
          simp only [Instr.loadAt, Instr.sureAddr, loadVar, Sem.run_bind, Sem.run_pure, Result.andThen_ok, run_isAgg hu, hagg, if_true, run_sizeOf hi,
            run_loadCells_row h1 (show tg.shift + off + i.size ≤ c.size by omega)]
        · cases h
      · rename_i hagg
        obtain ⟨v', g1, g2⟩ := h5.get h
        refine ⟨v', ?_, g2⟩
        have hc : w.cell? ⟨tg.block, tg.shift + off, none⟩ = some v' := by rw [cell_of_row w _ _ c e fr h1]; exact g1
        simp only [Instr.loadAt, Instr.sureAddr, loadVar, Sem.run_bind, Sem.run_pure, Result.andThen_ok, run_isAgg hu, hagg, Bool.false_eq_true, if_false, run_load, hc]
    · cases h
  · cases h


theorem opdO_sound (hT : TRel ρ T a) {o : Option Operand} {x : Option Opd} (h : opdO o = some x) :
    (x = none ∧ o = none) ∨ ∃ y z, x = some y ∧ o = some z ∧ VRel ρ (y.ev T) (a.eval z) := by
  cases o with
  | none => simp only [opdO, Option.some.injEq] at h; exact .inl ⟨h.symm, rfl⟩
  | some z =>
    simp only [opdO] at h
    split at h
    · rename_i y hy; cases h; exact .inr ⟨y, z, rfl, rfl, opd_sound hT hy⟩
    · cases h

theorem part_sound {t : TypeId} {i : TypeInfo} {u : TypeDesc} (hi : P.info? t = some i) (hu : P.underlying t = some u) {cs cs' : Array Value} (hc : ARel ρ cs cs') {off : Nat} {v : Value}
    (h : (match isAggD u with
      | true => match Nat.ble (off + i.size) cs.size with
        | true => some (Value.agg ((cs.toList.drop off).take i.size).toArray)
        | false => none
      | false => cs[off]?) = some v) : ∃ v', (part t cs' off).run P w = .ok v' w ∧ VRel ρ v v' := by
  split at h
  · rename_i hagg
    split at h
    · rename_i hle
      rw [Nat.ble_eq] at hle
      cases h
      refine ⟨.agg (cs'.extract off (off + i.size)), ?_, ?_⟩
      · simp [part, run_isAgg hu, hagg, run_sizeOf hi]
      · refine .mkAgg ⟨?_, fun j x y hx hy => ?_⟩
        · have := hc.1; simp; omega
        · simp only [List.getElem?_toArray, List.getElem?_take, List.getElem?_drop] at hx
          split at hx
          · rename_i hj
            rw [Array.getElem?_extract] at hy
            split at hy
            · exact hc.2 (off + j) x y (by simpa using hx) hy
            · cases hy
          · cases hx
    · cases h
  · rename_i hagg
    obtain ⟨y, hy, hr⟩ := hc.get h
    refine ⟨y, ?_, hr⟩
    simp [part, run_isAgg hu, hagg, hy]

theorem bin_sound {op : BinOp} {t : TypeId} {x y : Operand} {u v u' v' r : Value} (hx : VRel ρ u u') (hy : VRel ρ v v') (h : binR op u v = some r) :
    (do eqGuard op t x y u' v'; binOp op t u' v').run P w = .ok r w ∧ VRel ρ r r := by
  unfold binR at h
  split at h
  · rename_i k m j n
    cases hx.int_inv; cases hy.int_inv
    rw [Sem.run_bind, eqGuard_at_int, Sem.run_pure, Result.andThen_ok]
    split at h
    · split at h
      · cases h
      · rename_i hneg
        cases h
        exact ⟨by simp [binOp_shl, Op.shift, hneg], .int _ _⟩
    · split at h
      · cases h
      · rename_i hneg
        cases h
        exact ⟨by simp [binOp_shr, Op.shift, hneg], .int _ _⟩
    · rename_i hs1 hs2
      split at h
      · rename_i hkj
        subst hkj
        unfold intR at h
        split at h
        case h_1 => cases h; exact ⟨by simp [binOp_add, Op.intArith], .int _ _⟩
        case h_2 => cases h; exact ⟨by simp [binOp_sub, Op.intArith], .int _ _⟩
        case h_3 => cases h; exact ⟨by simp [binOp_mul, Op.intArith], .int _ _⟩
        case h_4 =>
          split at h
          · cases h
          · rename_i h0; cases h; exact ⟨by simp [binOp_quo, binOp_rem, Op.intDiv, h0], .int _ _⟩
        case h_5 =>
          split at h
          · cases h
          · rename_i h0; cases h; exact ⟨by simp [binOp_quo, binOp_rem, Op.intDiv, h0], .int _ _⟩
        all_goals first
          | (cases h; exact ⟨by simp [binOp_eql, binOp_neq, binOp_lss, binOp_leq, binOp_gtr, binOp_geq], by constructor⟩)
          | (cases h; exact ⟨by simp [binOp_and, binOp_or, binOp_xor, binOp_andNot, intBits_and, intBits_or, intBits_xor, intBits_andNot], by constructor⟩)
          | (cases h; done)
      · cases h
  · rename_i s s2
    cases hx.str_inv; cases hy.str_inv
    rw [Sem.run_bind, eqGuard_at_string, Sem.run_pure, Result.andThen_ok]
    unfold strR at h
    split at h
    · split at h
      · rename_i hle
        cases h
        refine ⟨?_, .str _⟩
        have hn : ¬ (9223372036854775807 < (s.size : Int) + (s2.size : Int)) := by
          have h1 : s.data.size = s.size := rfl
          have h2 : s2.data.size = s2.size := rfl
          simp only [maxLen] at hle
          omega
        have hap : s ++ s2 = ⟨s.data ++ s2.data⟩ := by
          apply ByteArray.ext; simp
        simp [binOp, Op.stringOp, hn, hap]
      · cases h
    all_goals first
      | (cases h; exact ⟨by simp [binOp, Op.stringOp, ByteArray.toList_eq, strL], by constructor⟩)
      | (cases h; done)
  · cases h

theorem un_sound {op : UnOp} {u u' r : Value} (hx : VRel ρ u u') (h : unR op u = some r) : (Op.unary op u').run P w = .ok r w ∧ VRel ρ r r := by
  unfold unR at h
  split at h
  · cases hx.int_inv; cases h; exact ⟨by simp [Op.unary, Op.intArith], .int _ _⟩
  · cases hx.int_inv; cases h; exact ⟨by simp [Op.unary, intBits_xor], .int _ _⟩
  · cases hx.bool_inv; cases h; exact ⟨by simp [Op.unary], .bool _⟩
  · cases h

theorem eqb_sound {t : TypeId} {x y : Operand} (ht : P.underlying t = some .bool) (b c : Bool) :
    (do eqGuard .eql t x y (.bool b) (.bool c); binOp .eql t (.bool b) (.bool c)).run P w = .ok (.bool (b == c)) w ∧
    (do eqGuard .neq t x y (.bool b) (.bool c); binOp .neq t (.bool b) (.bool c)).run P w = .ok (.bool (!(b == c))) w := by
  constructor
  · rw [Sem.run_bind, eqGuard_at_bool, Sem.run_pure, Result.andThen_ok, run_eql_bool w t b c ht]
  · rw [Sem.run_bind, eqGuard_at_bool, Sem.run_pure, Result.andThen_ok, run_neq_bool w t b c ht]

theorem equalIn_nil {d : Nat} {t : TypeId} {D : TypeDesc} (hu : P.underlying t = some D) {kd : Nat} (hD : nilKind D = some kd)
    {u v u' v' : Value} {r : Bool} (hx : VRel ρ u u') (hy : VRel ρ v v') (h : nilR kd u v = some r) : (Op.equalIn (d + 1) t u' v').run P w = .ok r w := by
  cases D <;> simp only [nilKind, Option.some.injEq, reduceCtorEq] at hD <;> subst hD <;> unfold nilR at h <;> split at h
  all_goals (first | (cases h; done) | (rename_i he; cases he; done) | skip)
  all_goals cases hx <;> cases hy <;> cases h <;> simp [Op.equalIn, run_underlying hu]

theorem eqn_sound {t : TypeId} {x y : Operand} {D : TypeDesc} (hu : P.underlying t = some D) {kd : Nat} (hD : nilKind D = some kd)
    {u v u' v' : Value} {r : Bool} (hx : VRel ρ u u') (hy : VRel ρ v v') (h : nilR kd u v = some r) :
    (do eqGuard .eql t x y u' v'; binOp .eql t u' v').run P w = .ok (.bool r) w ∧ (do eqGuard .neq t x y u' v'; binOp .neq t u' v').run P w = .ok (.bool (!r)) w := by
  have he := equalIn_nil (d := 9999) (w := w) hu hD hx hy h
  have hg : ∀ op, eqGuard op t x y u' v' = pure () := by
    intro op
    unfold nilR at h
    split at h
    all_goals (first | (cases h; done) | skip)
    all_goals cases hx <;> cases hy <;> cases op <;> rfl
  have hb : (binOp .eql t u' v').run P w = .ok (.bool r) w ∧ (binOp .neq t u' v').run P w = .ok (.bool (!r)) w := by
    unfold nilR at h
    split at h
    all_goals (first | (cases h; done) | skip)
    all_goals cases hx <;> cases hy <;> simp only [binOp] <;> simp [Op.equal, Op.maxDepth, he]
  rw [Sem.run_bind, Sem.run_bind, hg, hg, Sem.run_pure, Result.andThen_ok, Result.andThen_ok]
  exact hb

theorem ARel.set {a b : Array Value} (h : ARel ρ a b) {x y : Value} (hv : VRel ρ x y) (i : Nat) : ARel ρ (a.setIfInBounds i x) (b.setIfInBounds i y) := by
  refine ⟨by simpa using h.1, fun j u v hu hv' => ?_⟩
  rw [Array.getElem?_setIfInBounds] at hu hv'
  by_cases e : i = j
  · subst e
    simp only [if_true] at hu hv'
    split at hu
    · split at hv'
      · cases hu; cases hv'; exact hv
      · cases hv'
    · cases hu
  · simp only [e, if_false] at hu hv'
    exact h.2 j u v hu hv'

theorem setFold (off : Nat) : ∀ (xs ys : List Value) (k : Nat) (a b : Array Value), xs.length = ys.length → (∀ (i : Nat) x y, xs[i]? = some x → ys[i]? = some y → VRel ρ x y) → ARel ρ a b →
    ARel ρ ((xs.zipIdx k).foldl (fun cs (p : Value × Nat) => cs.setIfInBounds (off + p.2) p.1) a) ((ys.zipIdx k).foldl (fun cs (p : Value × Nat) => cs.setIfInBounds (off + p.2) p.1) b)
  | [], [], k, a, b, _, _, h => h
  | [], _ :: _, k, a, b, hl, _, h => by simp at hl
  | _ :: _, [], k, a, b, hl, _, h => by simp at hl
  | x :: xs, y :: ys, k, a, b, hl, hr, h => by
    simp only [List.zipIdx_cons, List.foldl_cons]
    exact setFold off xs ys (k + 1) _ _ (by simpa using hl) (fun i u v hu hv => hr (i + 1) u v (by simpa using hu) (by simpa using hv)) (h.set (hr 0 x y rfl rfl) _)

theorem fill_sound (pl : Nat → Option (Nat × Nat)) : ∀ (ps qs : List (Nat × Value)) (z z' c : Array Value), ps.length = qs.length →
    (∀ (i : Nat) p q, ps[i]? = some p → qs[i]? = some q → p.1 = q.1 ∧ VRel ρ p.2 q.2) → ARel ρ z z' → Instr.fill pl z ps = some c → ∃ c', Instr.fill pl z' qs = some c' ∧ ARel ρ c c'
  | [], [], z, z', c, _, _, h, hc => by simp only [Instr.fill, Option.some.injEq] at hc; subst hc; exact ⟨z', rfl, h⟩
  | [], _ :: _, z, z', c, hl, _, h, hc => by simp at hl
  | _ :: _, [], z, z', c, hl, _, h, hc => by simp at hl
  | p :: ps, q :: qs, z, z', c, hl, hr, h, hc => by
    obtain ⟨i, v⟩ := p
    obtain ⟨j, u⟩ := q
    obtain ⟨rfl, huv⟩ : i = j ∧ VRel ρ v u := hr 0 (i, v) (j, u) rfl rfl
    simp only [Instr.fill] at hc ⊢
    have hcs := huv.cells
    split at hc
    · cases hc
    · rename_i off size hpl
      split at hc
      · cases hc
      · rename_i hno
        simp only [Bool.or_eq_true, decide_eq_true_eq, not_or, bne_iff_ne, ne_eq, Decidable.not_not] at hno
        have hno' : ¬ ((u.cells.size != size || decide (off + u.cells.size > z'.size)) = true) := by
          rw [← hcs.1, ← h.1]
          simp only [Bool.or_eq_true, decide_eq_true_eq, not_or, bne_iff_ne, ne_eq, Decidable.not_not]
          exact hno
        rw [if_neg (by simpa using hno')]
        refine fill_sound pl ps qs _ _ c (by simpa using hl) (fun k a b ha hb => hr (k + 1) a b (by simpa using ha) (by simpa using hb)) ?_ hc
        rw [← Array.foldl_toList, ← Array.foldl_toList]
        simp only [Array.toList_zipIdx]
        exact setFold off v.cells.toList u.cells.toList 0 z z' (by simpa using hcs.1) (fun k a b ha hb => hcs.2 k a b (by simpa using ha) (by simpa using hb)) h

theorem cellEq_sound {d : Nat} {t : TypeId} {kd : Nat} (hk : kindOf (P.underlying t) = some kd) {x y x' y' : Value} {r : Bool} (hx : VRel ρ x x') (hy : VRel ρ y y') (h : cellEq kd x y = some r) :
    (Op.equalIn (d + 1) t x' y').run P w = .ok r w := by
  cases hu : P.underlying t with
  | none => rw [hu] at hk; cases hk
  | some D =>
    rw [hu] at hk
    cases D <;> simp only [kindOf, Option.some.injEq, reduceCtorEq] at hk <;> subst hk <;> unfold cellEq at h <;> split at h
    all_goals (first | (cases h; done) | (rename_i he; cases he; done) | skip)
    · cases hx.bool_inv; cases hy.bool_inv; cases h; simp [Op.equalIn, run_underlying hu]
    · cases hx.int_inv; cases hy.int_inv
      split at h
      · rename_i hjk; subst hjk; cases h; simp [Op.equalIn, run_underlying hu]
      · cases h
    · cases hx.str_inv; cases hy.str_inv; cases h; simp [Op.equalIn, run_underlying hu, beq_toListBytes, ByteArray.toList_eq, strL]

theorem cell_part {t : TypeId} {kd : Nat} (hk : kindOf (P.underlying t) = some kd) {cs : Array Value} {i : Nat} {v : Value} (h : cs[i]? = some v) : (part t cs i).run P w = .ok v w := by
  cases hu : P.underlying t with
  | none => rw [hu] at hk; cases hk
  | some D =>
    have : isAggD D = false := by rw [hu] at hk; cases D <;> simp [kindOf] at hk <;> rfl
    simp [part, run_isAgg hu, this, h]

theorem cellsEq_sound (d : Nat) {a b a' b' : Array Value} (ha : ARel ρ a a') (hb : ARel ρ b b') : ∀ (fs : List Field) (n : Nat) (ks : List Nat) (r : Bool),
    plainFields P n fs = some ks → cellsEq ks n a b = some r → (Op.eqFields (d + 1) a' b' fs).run P w = .ok r w
  | [], n, ks, r, hp, h => by
    simp only [plainFields, Option.some.injEq] at hp; subst hp
    simp only [cellsEq, Option.some.injEq] at h; subst h
    simp [Op.eqFields]
  | f :: fs, n, ks, r, hp, h => by
    simp only [plainFields] at hp
    split at hp
    · rename_i k ks' hk hks
      split at hp
      · rename_i hof
        obtain ⟨h1, h2⟩ := hof
        cases hp
        simp only [cellsEq] at h
        split at h
        · rename_i x y hx hy
          obtain ⟨x', hx', rx⟩ := ha.get hx
          obtain ⟨y', hy', ry⟩ := hb.get hy
          have e1 : (part f.type a' f.offset).run P w = .ok x' w := cell_part hk (by rw [h1]; exact hx')
          have e2 : (part f.type b' f.offset).run P w = .ok y' w := cell_part hk (by rw [h1]; exact hy')
          simp only [Op.eqFields, ne_eq, h2, not_false_eq_true, if_true, Sem.run_bind, e1, e2, Result.andThen_ok]
          split at h
          · rename_i hc
            rw [cellEq_sound hk rx ry hc]
            simp only [Result.andThen_ok, Bool.not_true, Bool.false_eq_true, if_false]
            exact cellsEq_sound d ha hb fs (n + 1) ks' r hks h
          · rename_i hc
            cases h
            rw [cellEq_sound hk rx ry hc]
            simp
          · cases h
        · cases h
      · cases hp
    · cases hp

theorem eqa_sound {t : TypeId} {x y : Operand} {fs : Array Field} (hu : P.underlying t = some (.struct fs)) {ks : List Nat} (hp : plainFields P 0 fs.toList = some ks) (h1 : P.stoodInHeld t = false)
    (h2 : P.eqGuardType P.depth t = false) {a b a' b' : Array Value} {r : Bool} (ha : ARel ρ a a') (hb : ARel ρ b b') (h : cellsEq ks 0 a b = some r) :
    (do eqGuard .eql t x y (.agg a') (.agg b'); binOp .eql t (.agg a') (.agg b')).run P w = .ok (.bool r) w ∧
    (do eqGuard .neq t x y (.agg a') (.agg b'); binOp .neq t (.agg a') (.agg b')).run P w = .ok (.bool (!r)) w := by
  have hf : P.fieldsOf t = fs := by simp [Program.fieldsOf, hu]
  have he : (Op.equalIn 10000 t (.agg a') (.agg b')).run P w = .ok r w := by
    rw [run_equalIn_agg w 9999 t a' b' (by rw [hf]; exact hu) h1, hf]
    exact cellsEq_sound 9998 ha hb fs.toList 0 ks r hp h
  constructor
  · rw [Sem.run_bind, run_eqGuard_agg w .eql t x y a' b' h2, Result.andThen_ok, run_eql_struct, he]; rfl
  · rw [Sem.run_bind, run_eqGuard_agg w .neq t x y a' b' h2, Result.andThen_ok, run_neq_struct, he]; rfl

end

end Go.Eng
