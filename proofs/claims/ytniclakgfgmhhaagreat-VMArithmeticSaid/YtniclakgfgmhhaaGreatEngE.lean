/-
  THE ENGINE, part E: the operations that make memory ('AOp') and those that write it ('EOp': a store, an append).
-/
import Derived.Test.YtniclakgfgmhhaaGreatEngD
set_option linter.unusedVariables false
set_option linter.unusedSimpArgs false
namespace Go.Eng

inductive AOp where
  | box (x : Opd)
  | bsl (sz n : Nat) (zero : Array Value) (parts : List (Nat × Opd))
  | msl (sz bytes : Nat) (zero : Array Value) (l c : Opd)

/-- What names the new block: a pointer, or a slice of so many elements. -/
def mkv (id : Nat) : Option Nat → Value
  | none => .pointer (some ⟨id, 0, none⟩)
  | some n => .slice (some ⟨id, 0, none⟩) n 0

def aev (e : Opd → Value) : AOp → Option (Option Nat × Blk)
  | .box x => match (e x).cells.all Value.oneCell' with
    | true => some (none, ⟨0, true, (e x).cells.toList⟩)
    | false => none
  | .bsl sz n zero parts => match Instr.fill (fun i => some (i * sz, sz)) (madeCells zero (n * sz)) (parts.map fun p => (p.1, e p.2)) with
    | some cs => match cs.all Value.oneCell' with
      | true => some (some n, ⟨sz, true, cs.toList⟩)
      | false => none
    | none => none
  | .msl sz bytes zero l c => match e l, e c with
    | .int _ l, .int _ c =>
      if 0 ≤ l ∧ l ≤ c ∧ (bytes : Int) * c ≤ 281474976710656 ∧ c ≤ 9223372036854775807 then
        some (some l.toNat, ⟨sz, true, (madeCells zero (c.toNat * sz)).toList⟩)
      else none
    | _, _ => none

def trA (P : Program) : Op → Option AOp
  | .alloc e => match P.info? e with
    | some i => match i.zero with
      | some z => if flat z then some (.box (.k z)) else none
      | none => none
    | none => none
  | .box _ x => (opd x).map .box
  | .buildSlice t n ps => match P.underlying t, partsOf ps.toList with
    | some (.slice e), some qs => match P.info? e with
      | some i => match i.zero with
        | some z => if z.cells.all scal = true ∧ z.cells.size = i.size ∧ n * i.size ≤ 16777216 ∧ n ≤ maxLen then some (.bsl i.size n z.cells qs) else none
        | none => none
      | none => none
    | _, _ => none
  | .makeSlice t l c => match P.underlying t, opd l, opd c with
    | some (.slice e), some l, some c => match P.info? e with
      | some i => match i.zero with
        | some z => if z.cells.all scal = true ∧ z.cells.size = i.size then some (.msl i.size i.bytes z.cells l c) else none
        | none => none
      | none => none
    | _, _, _ => none
  | _ => none

section
variable {P : Program} {ρ : Ren} {H : Hp} {w : World} {T : Tm} {a : Act}

theorem CRel.of_arel {xs c : Array Value} (h : ARel ρ xs c) (h1 : xs.all Value.oneCell' = true) : CRel ρ xs.toList c 0 := by
  intro i v hv
  rw [Array.all_eq_true'] at h1
  have hv' : xs[i]? = some v := by simpa using hv
  obtain ⟨y, hy, r⟩ := h.get hv'
  exact ⟨h1 v (Array.mem_of_getElem? hv'), y, by simpa using hy, r⟩

theorem madeCells_scal {z : Array Value} (h : z.all scal = true) (n : Nat) (hz : 0 < z.size ∨ n = 0) : (madeCells z n).all scal = true := by
  rw [Array.all_eq_true']
  intro x hx
  simp only [madeCells, Array.mem_map, Array.mem_range] at hx
  obtain ⟨i, hi, rfl⟩ := hx
  rcases hz with hz | rfl
  · have hlt : i % z.size < z.size := Nat.mod_lt _ hz
    rw [getElem!_pos z (i % z.size) hlt]
    rw [Array.all_eq_true'] at h
    exact h _ (Array.getElem_mem hlt)
  · omega

theorem scal_one {v : Value} (h : scal v = true) : v.oneCell' = true := by
  unfold scal at h
  split at h <;> first | rfl | (cases h; done)

/-- A new block, in the names. -/
theorem Rep.alloc (hR : Rep ρ H w) {id : Nat} (hid : ρ id = none) {b : Blk} {c : Array Value} {e : TypeId} (hc : CRel ρ b.cells c 0) (hl : b.cells.length ≤ c.size) {w' : World}
    (hw : w'.heap = (w.alloc (.cells c e)).heap) : Rep (ρ.upd id ⟨w.heap.size, 0, c.size, b.unit⟩) (H.upd id b) w' := by
  have hle : ρ.le (ρ.upd id ⟨w.heap.size, 0, c.size, b.unit⟩) := Ren.le_upd hid
  have hold : ∀ j bj tj, H j = some bj → (ρ.upd id ⟨w.heap.size, 0, c.size, b.unit⟩) j = some tj → j ≠ id ∧ ρ j = some tj ∧ tj.block < w.heap.size := by
    intro j bj tj h1 h2
    obtain ⟨t, g1, g2⟩ := hR.blk j bj h1
    have hj : j ≠ id := fun e => by rw [e, hid] at g1; cases g1
    simp only [Ren.upd, hj, if_false] at h2
    refine ⟨hj, h2, ?_⟩
    rw [g1] at h2; cases h2
    exact g2.lt
  constructor
  · intro j bj hj
    by_cases hji : j = id
    · subst hji
      simp only [Hp.upd, if_true, Option.some.injEq] at hj
      subst hj
      refine ⟨_, Ren.upd_same _ _ _, ?_⟩
      refine ⟨c, e, (0, 0), by rw [hw]; exact heap_alloc_new w _, by simp, hl, rfl, hc.mono hle, fun _ => ⟨rfl, rfl⟩⟩
    · simp only [Hp.upd, hji, if_false] at hj
      obtain ⟨t, g1, g2⟩ := hR.blk j bj hj
      refine ⟨t, hle _ _ g1, (g2.mono hle).world ?_⟩
      rw [hw]; exact heap_alloc_old w _ g2.lt
  · intro i j bi bj ti tj hi hj hij h1 h2 ho
    by_cases hii : i = id
    · subst hii
      have hji : j ≠ i := Ne.symm hij
      simp only [Hp.upd, hji, if_false] at hj
      obtain ⟨-, -, h3⟩ := hold j bj tj hj h2
      simp only [Ren.upd, if_true, Option.some.injEq] at h1
      subst h1
      simp only []
      omega
    · simp only [Hp.upd, hii, if_false] at hi
      obtain ⟨-, g1, g2⟩ := hold i bi ti hi h1
      by_cases hjj : j = id
      · subst hjj
        simp only [Ren.upd, if_true, Option.some.injEq] at h2
        subst h2
        simp only []
        omega
      · simp only [Hp.upd, hjj, if_false] at hj
        obtain ⟨-, g3, -⟩ := hold j bj tj hj h2
        exact hR.sep i j bi bj ti tj hi hj hij g1 g3 ho

theorem Ext.alloc (hR : Rep ρ H w) {id : Nat} (hid : ρ id = none) {b : Blk} {c : Array Value} {e : TypeId} {w' : World} (hw : w'.heap = (w.alloc (.cells c e)).heap)
    (ho : w'.os = w.os) (ht : w'.tape = w.tape) (hu : w'.output = w.output) : Ext ρ H w (ρ.upd id ⟨w.heap.size, 0, c.size, b.unit⟩) (H.upd id b) w' where
  le := Ren.le_upd hid
  os := ho
  tape := ht
  output := hu
  size := by rw [hw]; simp
  keep := fun k hk _ => by rw [hw]; exact heap_alloc_old w _ hk
  mine := fun j bj tj h1 h3 => by
    by_cases hji : j = id
    · subst hji
      simp only [Ren.upd, if_true, Option.some.injEq] at h3
      subst h3
      exact .inl (Nat.le_refl _)
    · simp only [Hp.upd, hji, if_false] at h1
      simp only [Ren.upd, hji, if_false] at h3
      exact .inr ⟨j, bj, tj, h1, fun h => h, h3, rfl⟩

theorem aev_sound (hT : TRel ρ T a) {id : Nat} (hid : ρ id = none) {o : Oper} {f : AOp} (htr : trA P o.op = some f) {k : Option Nat} {b : Blk} (h : aev (Opd.ev T) f = some (k, b)) :
    ∃ v' c e, (execOp a.eval o).run P w = .ok (.value v') (w.alloc (.cells c e)) ∧ VRel (ρ.upd id ⟨w.heap.size, 0, c.size, b.unit⟩) (mkv id k) v' ∧ b.cells.length ≤ c.size ∧ CRel ρ b.cells c 0 := by
  obtain ⟨dst, op, ty, pos, aft, guard⟩ := o
  have wrapS : ∀ {s : Sem Value} {v' : Value} {w' : World}, s.run P w = .ok v' w' → (do pure (Next.value (← s)) : Sem Next).run P w = .ok (.value v') w' := fun hs => by
    rw [Sem.run_bind, hs]; rfl
  cases op <;> simp only [trA] at htr <;> (try (cases htr; done))
  case alloc e =>
    split at htr
    · rename_i i hi
      split at htr
      · rename_i z hz
        split at htr
        · rename_i hf
          cases htr
          simp only [aev, Opd.ev] at h
          split at h
          · rename_i h1
            cases h
            have hr : VRel ρ z z := .of_flat hf
            refine ⟨_, z.cells, e, wrapS ?_, .ptr id 0 _ (Ren.upd_same _ _ _), by simp, CRel.of_arel hr.cells h1⟩
            simp [Instr.alloc, run_zeroValue hi hz, newVar, newRow]
          · cases h
        · cases htr
      · cases htr
    · cases htr
  case box e x =>
    simp only [Option.map_eq_some_iff] at htr
    obtain ⟨y, hy, rfl⟩ := htr
    have rx := opd_sound hT hy
    simp only [aev] at h
    split at h
    · rename_i h1
      cases h
      refine ⟨_, (a.eval x).cells, e, wrapS ?_, .ptr id 0 _ (Ren.upd_same _ _ _), ?_, CRel.of_arel rx.cells h1⟩
      · simp [Instr.box, newVar, newRow]
      · have := rx.cells.1; simp [this]
    · cases h
  case buildSlice t n ps =>
    split at htr
    · rename_i e qs ht hq
      split at htr
      · rename_i i hi
        split at htr
        · rename_i z hz
          split at htr
          · rename_i hg
            obtain ⟨g1, g2, g3, g4⟩ := hg
            cases htr
            simp only [aev] at h
            split at h
            · rename_i cs hcs
              split at h
              · rename_i h1
                cases h
                obtain ⟨hl, hr⟩ := partsOf_sound hT hq
                have hz0 : 0 < z.cells.size ∨ n * i.size = 0 := by
                  rcases Nat.eq_zero_or_pos z.cells.size with h0 | h0
                  · right; rw [← g2, h0]; simp
                  · exact .inl h0
                obtain ⟨c', h2, h3⟩ := fill_sound (fun j => some (j * i.size, i.size)) _ _ _ _ cs hl hr (arel_of_scal (madeCells_scal g1 (n * i.size) hz0)) hcs
                have hfs : ∀ (ps : List (Nat × Value)) (z0 c0 : Array Value), Instr.fill (fun j => some (j * i.size, i.size)) z0 ps = some c0 → c0.size = z0.size := by
                  intro ps
                  induction ps with
                  | nil => intro z0 c0 h; simp only [Instr.fill, Option.some.injEq] at h; rw [h]
                  | cons p ps ih =>
                    intro z0 c0 h
                    obtain ⟨j, v⟩ := p
                    simp only [Instr.fill] at h
                    split at h
                    · cases h
                    · rw [ih _ _ h]
                      have hsz : ∀ (l : List (Value × Nat)) (z1 : Array Value), (l.foldl (fun cs (p : Value × Nat) => cs.setIfInBounds (j * i.size + p.2) p.1) z1).size = z1.size := by
                        intro l
                        induction l with
                        | nil => intro z1; rfl
                        | cons q l ih2 => intro z1; rw [List.foldl_cons, ih2]; simp
                      rw [← Array.foldl_toList]
                      exact hsz _ _
                have hsz : c'.size = n * i.size := by rw [hfs _ _ _ h2]; exact size_madeCells _ _
                refine ⟨.slice (some ⟨w.heap.size, 0, none⟩) n n, c', e, wrapS ?_, ?_, by simp [h3.1], CRel.of_arel h3 h1⟩
                · have hlim : ¬ (n * i.size > 2 ^ 24) := by omega
                  have hps : (ps.map fun (i, x) => (i, a.eval x)).toList = ps.toList.map fun p => (p.1, a.eval p.2) := by simp
                  by_cases h0 : n * i.size = 0
                  · have e0 : (Array.range 0).map (fun i => (#[] : Array Value)[i % (#[] : Array Value).size]!) = madeCells z.cells (n * i.size) := by rw [h0]; simp [madeCells, Array.range_zero']
                    simp only [Instr.buildSlice, Sem.run_bind, run_underlying ht, Result.andThen_ok, run_sizeOf hi]
                    rw [if_neg hlim, if_pos h0]
                    rw [h0] at e0 h2
                    rw [Sem.run_bind, Sem.run_pure, Result.andThen_ok, h0, e0, hps, h2]
                    rfl
                  · simp only [Instr.buildSlice, Sem.run_bind, run_underlying ht, Result.andThen_ok, run_sizeOf hi]
                    rw [if_neg hlim, if_neg h0]
                    simp only [Sem.run_bind, run_zeroValue hi hz, Sem.run_pure, Result.andThen_ok]
                    have e1 : ((Array.range (n * i.size)).map fun i => z.cells[i % z.cells.size]!) = madeCells z.cells (n * i.size) := rfl
                    rw [e1, hps, h2]
                    rfl
                · refine .slc id 0 n n _ (Ren.upd_same _ _ _) (Nat.le_refl _) g4 (.inr ?_)
                  simp only []
                  omega
              · cases h
            · cases h
          · cases htr
        · cases htr
      · cases htr
    · cases htr
  case makeSlice t l c =>
    split at htr
    · rename_i e l' c' ht hl hc
      split at htr
      · rename_i i hi
        split at htr
        · rename_i z hz
          split at htr
          · rename_i hg
            obtain ⟨g1, g2⟩ := hg
            cases htr
            have rl := opd_sound hT hl
            have rc := opd_sound hT hc
            simp only [aev] at h
            split at h
            · rename_i k1 n k2 m e1 e2
              split at h
              · rename_i hb
                obtain ⟨b1, b2, b3, b4⟩ := hb
                cases h
                rw [e1] at rl; rw [e2] at rc
                have hrun := run_make (P := P) w t e i z ht hi hz k1 k2 n m b1 b2 b3 b4
                refine ⟨_, _, _, wrapS (by rw [rl.int_inv, rc.int_inv]; exact hrun), ?_, by simp, ?_⟩
                · refine .slc id 0 _ _ _ (Ren.upd_same _ _ _) (by omega) (by simp only [maxLen]; omega) (.inr ?_)
                  simp only [size_madeCells]
                  omega
                · have hz0 : 0 < z.cells.size ∨ m.toNat * i.size = 0 := by
                    rcases Nat.eq_zero_or_pos z.cells.size with h0 | h0
                    · right; rw [← g2, h0]; simp
                    · exact .inl h0
                  have hs := madeCells_scal g1 (m.toNat * i.size) hz0
                  refine CRel.of_arel (arel_of_scal hs) ?_
                  rw [Array.all_eq_true'] at hs ⊢
                  exact fun x hx => scal_one (hs x hx)
              · cases h
            · cases h
          · cases htr
        · cases htr
      · cases htr
    · cases htr
end

/-! ### what writes memory -/
inductive EOp where
  | st (n : Nat) (x v : Opd)
  | app (sz bytes : Nat) (s x : Opd)
  | apps (s x : Opd)

/-- The cells of a slice that is appended: its length, and they. -/
def srcOf (H : Hp) (sz : Nat) : Value → Option (Nat × List Value)
  | .slice none 0 0 => some (0, [])
  | .slice (some ⟨id, o, none⟩) m _ =>
    match m with
    | 0 => some (0, [])
    | _ => match H id with
      | some b => match Nat.ble (o + m * sz) b.cells.length with
        | true => some (m, (b.cells.drop o).take (m * sz))
        | false => none
      | none => none
  | _ => none

/-- An append onto s: the new block has the name c; the old one, if there was one, loses its name. -/
def appR (H : Hp) (c sz bytes : Nat) (s : Value) (m : Nat) (src : List Value) : Option (Value × Hp × Nat) :=
  match s with
  | .slice none 0 0 =>
    match m with
    | 0 => some (.slice none 0 0, H, c)
    | _ => match Nat.ble (m * bytes) 140737488355328, Nat.ble m maxLen with
      | true, true => some (.slice (some ⟨c, 0, none⟩) m 0, H.upd c ⟨sz, true, src⟩, c + 1)
      | _, _ => none
  | .slice (some ⟨id, 0, none⟩) n 0 =>
    match H id with
    | some b =>
      if b.own = true ∧ b.unit = sz ∧ n * sz ≤ b.cells.length ∧ (n + m) * bytes ≤ 140737488355328 ∧ n + m ≤ maxLen then
        some (.slice (some ⟨c, 0, none⟩) (n + m) 0, (H.del id).upd c ⟨sz, true, b.cells.take (n * sz) ++ src⟩, c + 1)
      else none
    | none => none
  | _ => none

def bytesV (s : ByteArray) : List Value := s.data.toList.map fun b => Value.int .u8 b.toNat

def eev (H : Hp) (c : Nat) (e : Opd → Value) : EOp → Option (Value × Hp × Nat)
  | .st n x v => match e x with
    | .pointer (some ⟨id, off, none⟩) => match H id with
      | some b =>
        if b.own = true ∧ (e v).cells.size = n ∧ off + n ≤ b.cells.length ∧ (e v).cells.all Value.oneCell' = true then
          some (undef, H.upd id ⟨b.unit, true, b.cells.take off ++ (e v).cells.toList ++ b.cells.drop (off + n)⟩, c)
        else none
      | none => none
    | _ => none
  | .app sz bytes s x => match srcOf H sz (e x) with
    | some (m, src) => appR H c sz bytes (e s) m src
    | none => none
  | .apps s x => match e x with
    | .string t => appR H c 1 1 (e s) t.data.toList.length (bytesV t)
    | _ => none

def trE (P : Program) : Op → Option EOp
  | .store t x v => match P.info? t, opd x, opd v with
    | some i, some x, some v => some (.st i.size x v)
    | _, _, _ => none
  | .call { callee := .builtin .append, args, argTypes } => match args.toList, argTypes.toList with
    | [s, x], [t, u] => match opd s, opd x, P.underlying t with
      | some s, some x, some (.slice e) => match P.info? e with
        | some i => match i.zero with
          | some z =>
            if z.cells.size = i.size ∧ 0 < i.size then
              if t = u then some (.app i.size i.bytes s x)
              else match P.underlying u with
                | some .string => if i.size = 1 ∧ i.bytes = 1 then some (.apps s x) else none
                | _ => none
            else none
          | none => none
        | none => none
      | _, _, _ => none
    | _, _ => none
  | _ => none

section
variable {P : Program} {ρ : Ren} {H : Hp} {w : World} {T : Tm} {a : Act}

/-- What a writing step gives. -/
structure Did (ρ : Ren) (H : Hp) (c : Nat) (w : World) (v' : Value) (w' : World) (v : Value) (H' : Hp) (c' : Nat) (ρ' : Ren) : Prop where
  val : VRel ρ' v v'
  rep : Rep ρ' H' w'
  fresh : ∀ id, c' ≤ id → ρ' id = none
  up : c ≤ c'
  dom : ∀ id, id < c → H' id ≠ none → H id ≠ none
  same : ∀ id, id < c → ρ' id = ρ id
  ext : Ext ρ H w ρ' H' w'

/-- A block of the walk's own is written: its new known cells. -/
theorem Rep.write (hR : Rep ρ H w) {id : Nat} {b : Blk} (hb : H id = some b) (ho : b.own = true) {t : Tgt} (ht : ρ id = some t) {c c' : Array Value} {e : TypeId}
    (hc : w.heap[t.block]? = some (.cells c e (0, 0))) (hs : c'.size = c.size) {cells : List Value} (hl : cells.length ≤ t.room) (hr : CRel ρ cells c' 0) {w' : World}
    (hw : ∀ k, k ≠ t.block → w'.heap[k]? = w.heap[k]?) (hw2 : w'.heap[t.block]? = some (.cells c' e (0, 0))) : Rep ρ (H.upd id ⟨b.unit, true, cells⟩) w' := by
  obtain ⟨c0, e0, fr, g1, g2, g3, g4, g5, g6⟩ := hR.look hb ht
  rw [hc] at g1
  obtain ⟨rfl, rfl, rfl⟩ : c = c0 ∧ e = e0 ∧ (0, 0) = fr := by simpa using g1
  obtain ⟨-, g7⟩ := g6 ho
  constructor
  · intro j bj hj
    by_cases hji : j = id
    · subst hji
      simp only [Hp.upd, if_true, Option.some.injEq] at hj
      subst hj
      exact ⟨t, ht, c', e, (0, 0), hw2, by rw [g7, hs]; rw [g7] at g2; exact g2, hl, g4, by rw [g7]; exact hr, fun _ => ⟨rfl, g7⟩⟩
    · simp only [Hp.upd, hji, if_false] at hj
      obtain ⟨tj, h1, h2⟩ := hR.blk j bj hj
      exact ⟨tj, h1, h2.world (hw _ (Ne.symm (hR.sep id j b bj t tj hb hj (Ne.symm hji) ht h1 ho)))⟩
  · intro i j bi bj ti tj hi hj hij h1 h2 ho'
    have back : ∀ k bk, (H.upd id ⟨b.unit, true, cells⟩) k = some bk → ∃ b0, H k = some b0 ∧ b0.own = bk.own := by
      intro k bk hk
      by_cases hki : k = id
      · subst hki
        simp only [Hp.upd, if_true, Option.some.injEq] at hk
        subst hk
        exact ⟨b, hb, ho⟩
      · simp only [Hp.upd, hki, if_false] at hk
        exact ⟨bk, hk, rfl⟩
    obtain ⟨b1, e1, o1⟩ := back i bi hi
    obtain ⟨b2, e2, o2⟩ := back j bj hj
    exact hR.sep i j b1 b2 ti tj e1 e2 hij h1 h2 (o1.trans ho')

theorem Ext.write {id : Nat} {b : Blk} {t : Tgt} (hb : H id = some b) (ho : b.own = true) (ht : ρ id = some t) {b' : Blk} {w' : World}
    (hw : ∀ k, k ≠ t.block → w'.heap[k]? = w.heap[k]?) (h1 : w'.os = w.os) (h2 : w'.tape = w.tape) (h3 : w'.output = w.output) (h4 : w.heap.size ≤ w'.heap.size) : Ext ρ H w ρ (H.upd id b') w' where
  le := Ren.le_refl _
  os := h1
  tape := h2
  output := h3
  size := h4
  keep := fun k hk hno => hw k (fun e => hno id b t hb ho ht e.symm)
  mine := fun j bj tj g1 g3 => by
    by_cases hji : j = id
    · subst hji
      rw [ht] at g3; cases g3
      exact .inr ⟨_, b, t, hb, fun _ => ho, ht, rfl⟩
    · simp only [Hp.upd, hji, if_false] at g1
      exact .inr ⟨j, bj, tj, g1, fun h => h, g3, rfl⟩

theorem st_sound (hR : Rep ρ H w) {c : Nat} (hf : ∀ id, c ≤ id → ρ id = none) {t : TypeId} {i : TypeInfo} (hi : P.info? t = some i) {p p' u u' : Value} (hp : VRel ρ p p') (hu : VRel ρ u u')
    {id off : Nat} (hpe : p = .pointer (some ⟨id, off, none⟩)) {b : Blk} (hb : H id = some b) (ho : b.own = true) (hn : u.cells.size = i.size) (hl : off + i.size ≤ b.cells.length)
    (h1 : u.cells.all Value.oneCell' = true) :
    ∃ w', (Instr.storeAt t p' u').run P w = .ok () w' ∧ Did ρ H c w undef w' undef (H.upd id ⟨b.unit, true, b.cells.take off ++ u.cells.toList ++ b.cells.drop (off + i.size)⟩) c ρ := by
  subst hpe
  obtain ⟨-, tg, ht, rfl⟩ := hp.ptr_inv
  obtain ⟨cc, e, fr, g1, g2, g3, g4, g5, g6⟩ := hR.look hb ht
  obtain ⟨rfl, g7⟩ := g6 ho
  rw [g7] at g2 g5
  have hcs := hu.cells
  have hlen : u'.cells.toList.length = i.size := by rw [Array.length_toList, ← hcs.1]; exact hn
  have hone : ∀ v ∈ u'.cells.toList, v.oneCell' = true := by
    intro v hv
    obtain ⟨j, hj, hvj⟩ := List.getElem_of_mem hv
    have hvj' : u'.cells[j]? = some v := by rw [← hvj]; simp at hj ⊢
    have hj' : j < u.cells.size := by rw [hcs.1]; simpa using hj
    have hr := hcs.2 j _ v (Array.getElem?_eq_getElem hj') hvj'
    rw [hr.one]
    rw [Array.all_eq_true'] at h1
    exact h1 _ (Array.getElem_mem hj')
  have hst := run_storeCells_at P tg.block off e u'.cells.toList 0 cc w g1 (by rw [hlen]; omega) hone
  rw [Nat.add_zero, hlen] at hst
  refine ⟨w.setRow tg.block (cc.toList.take off ++ u'.cells.toList ++ cc.toList.drop (off + i.size)).toArray, ?_, ?_⟩
  · have hsz : u'.cells.size = i.size := by rw [← hcs.1]; exact hn
    simp only [Instr.storeAt, Instr.sureAddr, Sem.run_bind, Sem.run_pure, Result.andThen_ok, storeVar, run_sizeOf hi, hsz, ne_eq, not_true_eq_false, if_false, g7, Nat.zero_add]
    exact hst
  · have hsz2 : (cc.toList.take off ++ u'.cells.toList ++ cc.toList.drop (off + i.size)).toArray.size = cc.size := by
      simp only [List.size_toArray, List.length_append, List.length_take, List.length_drop, Array.length_toList, hlen] at *
      have : u'.cells.size = i.size := by rw [← hcs.1]; exact hn
      omega
    have hwo : ∀ k, k ≠ tg.block → (w.setRow tg.block (cc.toList.take off ++ u'.cells.toList ++ cc.toList.drop (off + i.size)).toArray).heap[k]? = w.heap[k]? := fun k hk => setRow_other w _ k _ hk
    refine ⟨.tup _ _ rfl (by simp), ?_, hf, Nat.le_refl _, ?_, fun _ _ => rfl, Ext.write hb ho ht hwo rfl rfl rfl (by simp)⟩
    · refine hR.write hb ho ht g1 hsz2 ?_ ?_ hwo (setRow_heap w _ cc _ e _ g1)
      · simp only [List.length_append, List.length_take, List.length_drop, Array.length_toList]
        omega
      · intro j v hv
        rw [List.append_assoc, List.getElem?_append] at hv
        simp only [List.length_take] at hv
        have hmin : min off b.cells.length = off := by omega
        have hmin' : min off cc.size = off := by omega
        rw [hmin] at hv
        simp only [Nat.zero_add, List.getElem?_toArray]
        rw [List.append_assoc, List.getElem?_append]
        simp only [List.length_take, Array.length_toList, hmin']
        split at hv
        · rename_i hj
          rw [if_pos hj]
          rw [List.getElem?_take, if_pos hj] at hv
          obtain ⟨q1, v', q2, q3⟩ := g5 j v hv
          refine ⟨q1, v', ?_, q3⟩
          rw [List.getElem?_take, if_pos hj]
          simpa using q2
        · rename_i hj
          rw [if_neg hj]
          rw [List.getElem?_append] at hv ⊢
          simp only [Array.length_toList, hn] at hv
          simp only [hlen]
          split at hv
          · rename_i hj2
            rw [if_pos hj2]
            have hv' : u.cells[j - off]? = some v := by simpa using hv
            obtain ⟨y, q1, q2⟩ := hcs.get hv'
            refine ⟨?_, y, by simpa using q1, q2⟩
            rw [Array.all_eq_true'] at h1
            exact h1 v (Array.mem_of_getElem? hv')
          · rename_i hj2
            rw [if_neg hj2]
            rw [List.getElem?_drop] at hv ⊢
            obtain ⟨q1, v', q2, q3⟩ := g5 _ v hv
            exact ⟨q1, v', by simpa using q2, q3⟩
    · intro j hj hne
      by_cases hji : j = id
      · subst hji; rw [hb]; simp
      · simpa [Hp.upd, hji] using hne
end
end Go.Eng
