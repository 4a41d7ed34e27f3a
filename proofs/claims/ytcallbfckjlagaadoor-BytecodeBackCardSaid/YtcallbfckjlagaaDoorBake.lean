/-
  HELPERS of the claim: part 5 of its texts.
-/
import Derived.Test.YtcallbfckjlagaaDoorBakd
set_option linter.unusedVariables false
set_option linter.unusedSimpArgs false
namespace Go.Pb
open Go.Sym
theorem stK_ne {l : List UInt8} {rec : Nat → Nat → List Ins × Nat} {base k p : Nat} : 1 ≤ (stK l rec base k p).1.length := by
  unfold stK
  split <;> simp only [List.length_append, List.length_singleton] <;> omega
theorem stmtM_ne {l : List UInt8} {d base p : Nat} : 1 ≤ (stmtM l d base p).1.length := by
  cases d with
  | zero => simp only [stmtM]; exact stK_ne
  | succ d => simp only [stmtM]; exact stK_ne
def keysM : List Ent := [⟨0, 1, 0, 0⟩, ⟨0, 2, 0, 0⟩, ⟨0, 3, 3, 0⟩, ⟨0, 5, 1, 0⟩, ⟨0, 6, 0, 0⟩, ⟨1, 1, 0, 0⟩, ⟨1, 3, 3, 0⟩, ⟨1, 4, 63, 0⟩, ⟨1, 6, 1, 0⟩]
def mdB (l : List UInt8) : Nat → List Ins × Nat → List Ins × Nat
  | 0, x => x
  | n + 1, x => ((mdB l n x).1 ++ (stmtM l 2 (mdB l n x).1.length (mdB l n x).2).1, (stmtM l 2 (mdB l n x).1.length (mdB l n x).2).2)
structure MS where
  I : List Ins
  E : List Ent
  p : Nat
def mdH (l : List UInt8) (key : Ent) (x : MS) (p : Nat) : MS :=
  ⟨(mdB l (nextM l p 4).1 (x.I, (nextM l p 4).2)).1 ++ [⟨31, 0⟩], x.E ++ [⟨key.mode, key.trigger, key.index, (x.I.length : Int)⟩], (mdB l (nextM l p 4).1 (x.I, (nextM l p 4).2)).2⟩
def mdI (l : List UInt8) (key : Ent) (i : Nat) (x : MS) : MS :=
  if i = 0 then mdH l key x x.p else if (nextM l x.p 2).1 = 0 then ⟨x.I, x.E, (nextM l x.p 2).2⟩ else mdH l key x (nextM l x.p 2).2
def mdK (l : List UInt8) : Nat → MS
  | 0 => ⟨[], [], (nextM l (nextM l 0 4).2 4).2⟩
  | i + 1 => mdI l (keysM.getD i ⟨0, 0, 0, 0⟩) i (mdK l i)
def mdP (l : List UInt8) : List Int := [((nextM l 0 4).1 : Int), ((nextM l (nextM l 0 4).2 4).1 : Int)]
def mdS : List (List UInt8) := [[103, 111], [111, 118, 101, 114]]
def mdV : List Int := [0, 5, -3]
def madeT (t : List UInt8) : Prg := ⟨(mdK t 9).I, mdS, (mdK t 9).E, mdP t, mdV, 2, 2⟩
def madeM (l : List UInt8) : Prg := madeT (l.take 200)
theorem mdB_pos {l : List UInt8} {x : List Ins × Nat} (h : x.2 ≤ l.length) : ∀ n, (mdB l n x).2 ≤ l.length
  | 0 => h
  | n + 1 => stmtM_le l 2 _ _ (mdB_pos h n)
theorem mdB_len {l : List UInt8} {x : List Ins × Nat} : ∀ n, (mdB l n x).1.length ≤ x.1.length + 16 * n
  | 0 => by simp [mdB]
  | n + 1 => by
    have := mdB_len (l := l) (x := x) n
    have := stmtM_len l 2 (mdB l n x).1.length (mdB l n x).2
    simp only [mdB, List.length_append]; omega
theorem mdH_p {l : List UInt8} {key : Ent} {x : MS} {p : Nat} (h : p ≤ l.length) : (mdH l key x p).p ≤ l.length := mdB_pos (x := (x.I, (nextM l p 4).2)) (nextM_le h) _
theorem mdH_I {l : List UInt8} {key : Ent} {x : MS} {p : Nat} : (mdH l key x p).I.length ≤ x.I.length + 49 := by
  have := mdB_len (l := l) (x := (x.I, (nextM l p 4).2)) (nextM l p 4).1
  have := nextM_lt (l := l) (p := p) (n := 4) (by omega)
  simp only [mdH, List.length_append, List.length_singleton]; simp only at *; omega
theorem mdK_bd {l : List UInt8} : ∀ i, (mdK l i).p ≤ l.length ∧ (mdK l i).I.length ≤ 49 * i ∧ (mdK l i).E.length ≤ i
  | 0 => ⟨nextM_le (nextM_le (Nat.zero_le _)), by simp [mdK], by simp [mdK]⟩
  | i + 1 => by
    obtain ⟨a, b, c⟩ := mdK_bd (l := l) i
    simp only [mdK, mdI]
    split
    · exact ⟨mdH_p a, by have := mdH_I (l := l) (key := keysM.getD i ⟨0, 0, 0, 0⟩) (x := mdK l i) (p := (mdK l i).p); omega, by simp only [mdH, List.length_append, List.length_singleton]; omega⟩
    · split
      · exact ⟨nextM_le a, by simp only; omega, by simp only; omega⟩
      · exact ⟨mdH_p (nextM_le a), by have := mdH_I (l := l) (key := keysM.getD i ⟨0, 0, 0, 0⟩) (x := mdK l i) (p := (nextM l (mdK l i).p 2).2); omega, by simp only [mdH, List.length_append, List.length_singleton]; omega⟩
theorem entC_snoc (l : List Ent) (e : Ent) : cellsL ((l ++ [e]).map Ent.v) = cellsL (l.map Ent.v) ++ [I64 e.mode, I64 e.trigger, I64 e.index, I64 e.pos] := by
  rw [List.map_append, cellsL_append]; simp [cellsL, DV.cells]
theorem entC_nil {l : List Ent} (h : l = []) : cellsL (l.map Ent.v) = [] := by rw [h]; rfl
theorem insC_nil {l : List Ins} (h : l = []) : insC l = [] := by rw [h]; rfl
theorem len_nil {α : Type} {l : List α} (h : l = []) : l.length = 0 := by rw [h]; rfl
theorem slc_to {H : Hp} {sz n : Nat} {xs : List DV} (h : n ≤ xs.length) (hu : unit sz xs = true) : slcR H sz (.lst xs) none (some (.int .i64 (n : Int))) = some (.lst (xs.take n)) := by
  have h1 : boundOf xs.length (some (.int .i64 (n : Int))) = some n := by simp [boundOf]
  have h2 : boundOf 0 none = some 0 := by simp [boundOf]
  simp only [slcR, h1, h2, hu, h, Nat.zero_le, and_self, if_true, List.drop_zero, Nat.sub_zero]
theorem unit_bytes (l : List UInt8) : unit 1 (bytesC l) = true := unit_iff.2 (fun x hx => by obtain ⟨b, -, rfl⟩ := List.mem_map.1 hx; rfl)
theorem slc_bytes {H : Hp} {n : Nat} {l : List UInt8} (h : n ≤ l.length) : slcR H 1 (.lst (bytesC l)) none (some (.int .i64 (n : Int))) = some (.lst (bytesC (l.take n))) := by
  rw [slc_to (by rw [bytesC_len]; exact h) (unit_bytes l)]
  simp [bytesC, List.map_take]
def delO (H : Hp) : Option Nat → Hp
  | none => H
  | some i => H.del i
theorem r_lentodo {o : Option Nat} {n : Nat} (h : o = none → n = 0) : lenR (todoV o n) = some (I64 (n : Int)) := by
  cases o with
  | none => rw [h rfl]; rfl
  | some i => rfl
theorem r_apptodo {H : Hp} {c sz bytes n m : Nat} {o : Option Nat} {cs src : List DV} (hn : o = none → n = 0 ∧ cs = []) (hb : ∀ i, o = some i → H i = some ⟨sz, true, cs⟩) (hl : cs.length = n * sz) (hm : 1 ≤ m) (h2 : (n + m) * bytes ≤ 140737488355328) (h3 : n + m ≤ 9223372036854775807) :
    appR H c sz bytes (todoV o n) m src = some (.slc c 0 (n + m), (delO H o).upd c ⟨sz, true, cs ++ src⟩, c + 1) := by
  cases o with
  | none =>
    obtain ⟨rfl, rfl⟩ := hn rfl
    rw [todo_n, r_appn' (by omega) (by simpa using h2) (by omega)]
    simp [delO]
  | some i => rw [todo_s, r_apps, hb i rfl, b_appx hl h2 h3]; rfl
theorem delO_ne {H : Hp} {o : Option Nat} {j : Nat} (h : ∀ i, o = some i → ¬ j = i) : delO H o j = H j := by
  cases o with
  | none => rfl
  | some i => exact h_dne (h i rfl)
def MH (k : Nat) (l : List UInt8) (p : Nat) (S P V : DV) (I : List Ins) (E : List Ent) (o1 o2 : Option Nat) : Hp :=
  optH (optH (((Sym.nil.upd 0 ⟨0, true, [.snil, .snil, .snil, .snil, .snil, I64 0, I64 0]⟩).upd 1 (tapeB l p)).upd k ⟨0, true, [todoV o1 I.length, S, todoV o2 E.length, P, V, I64 2, I64 2]⟩) o1 ⟨2, true, insC I⟩) o2 ⟨4, true, cellsL (E.map Ent.v)⟩
structure MO (k : Nat) (o1 o2 : Option Nat) (cc : Nat) : Prop where
  k2 : 2 ≤ k
  kc : k < cc
  a : ∀ i, o1 = some i → k < i ∧ i < cc
  b : ∀ i, o2 = some i → k < i ∧ i < cc
  ne : ∀ i, o1 = some i → o2 ≠ some i
theorem optH_ne {H : Hp} {o : Option Nat} {b : Blk} {j : Nat} (h : ∀ i, o = some i → ¬ j = i) : optH H o b j = H j := by
  cases o with
  | none => rfl
  | some i => exact h_ne (h i rfl)
section
variable {l : List UInt8} {k p : Nat} {S P V : DV} {I : List Ins} {E : List Ent} {o1 o2 : Option Nat} {cc : Nat}
theorem MH_0 (h : MO k o1 o2 cc) : MH k l p S P V I E o1 o2 0 = some ⟨0, true, [.snil, .snil, .snil, .snil, .snil, I64 0, I64 0]⟩ := by
  have := h.k2
  unfold MH; rw [optH_ne (fun i hi => by have := h.b i hi; omega), optH_ne (fun i hi => by have := h.a i hi; omega), h_ne (by omega)]; rfl
theorem MH_1 (h : MO k o1 o2 cc) : MH k l p S P V I E o1 o2 1 = some (tapeB l p) := by
  have := h.k2
  unfold MH; rw [optH_ne (fun i hi => by have := h.b i hi; omega), optH_ne (fun i hi => by have := h.a i hi; omega), h_ne (by omega)]; rfl
theorem MH_k (h : MO k o1 o2 cc) : MH k l p S P V I E o1 o2 k = some ⟨0, true, [todoV o1 I.length, S, todoV o2 E.length, P, V, I64 2, I64 2]⟩ := by
  unfold MH; rw [optH_ne (fun i hi => by have := h.b i hi; omega), optH_ne (fun i hi => by have := h.a i hi; omega), h_same]
theorem MH_a (h : MO k o1 o2 cc) {i : Nat} (hi : o1 = some i) : MH k l p S P V I E o1 o2 i = some ⟨2, true, insC I⟩ := by
  unfold MH; rw [optH_ne (fun j hj e => h.ne i hi (by rw [e]; exact hj))]; subst hi; exact h_same
theorem MH_b {i : Nat} (hi : o2 = some i) : MH k l p S P V I E o1 o2 i = some ⟨4, true, cellsL (E.map Ent.v)⟩ := by
  unfold MH; subst hi; exact h_same
theorem MH_n (h : MO k o1 o2 cc) {j : Nat} (hc : cc ≤ j) : MH k l p S P V I E o1 o2 j = none := by
  have := h.k2
  have := h.kc
  unfold MH; rw [optH_ne (fun i hi => by have := h.b i hi; omega), optH_ne (fun i hi => by have := h.a i hi; omega), h_ne (by omega), h_ne (by omega), h_ne (by omega)]; rfl
theorem MH_t {p' : Nat} (h : MO k o1 o2 cc) : (MH k l p S P V I E o1 o2).upd 1 (tapeB l p') = MH k l p' S P V I E o1 o2 := by
  have hk := h.k2
  funext j
  by_cases e : j = 1
  · subst e; rw [h_same, MH_1 h]
  · rw [h_ne e]
    unfold MH
    by_cases e2 : o2 = some j
    · subst e2; simp only [optH, h_same]
    · have q2 : ∀ (X : Hp) b, optH X o2 b j = X j := fun X b => optH_ne (fun i hi e3 => e2 (by rw [e3]; exact hi))
      rw [q2, q2]
      by_cases e1 : o1 = some j
      · subst e1; simp only [optH, h_same]
      · have q1 : ∀ (X : Hp) b, optH X o1 b j = X j := fun X b => optH_ne (fun i hi e3 => e1 (by rw [e3]; exact hi))
        rw [q1, q1]
        by_cases ek : j = k
        · subst ek; rw [h_same, h_same]
        · rw [h_ne ek, h_ne ek, h_ne e, h_ne e]
theorem MH_sub {H : Hp} (h0 : H 0 = some ⟨0, true, [.snil, .snil, .snil, .snil, .snil, I64 0, I64 0]⟩) (h1 : H 1 = some (tapeB l p)) (hk : H k = some ⟨0, true, [todoV o1 I.length, S, todoV o2 E.length, P, V, I64 2, I64 2]⟩)
    (ha : ∀ i, o1 = some i → H i = some ⟨2, true, insC I⟩) (hb : ∀ i, o2 = some i → H i = some ⟨4, true, cellsL (E.map Ent.v)⟩) : Sub (MH k l p S P V I E o1 o2) H := by
  intro j b hj
  unfold MH at hj
  by_cases e2 : o2 = some j
  · subst e2; simp only [optH, h_same] at hj; rw [hb j rfl]; exact hj
  · rw [optH_ne (fun i hi e3 => e2 (by rw [e3]; exact hi))] at hj
    by_cases e1 : o1 = some j
    · subst e1; simp only [optH, h_same] at hj; rw [ha j rfl]; exact hj
    · rw [optH_ne (fun i hi e3 => e1 (by rw [e3]; exact hi))] at hj
      by_cases ek : j = k
      · subst ek; rw [h_same] at hj; rw [hk]; exact hj
      · rw [h_ne ek] at hj
        by_cases e : j = 1
        · subst e; rw [h_same] at hj; rw [h1]; exact hj
        · rw [h_ne e] at hj
          by_cases e0 : j = 0
          · subst e0; rw [h_same] at hj; rw [h0]; exact hj
          · rw [h_ne e0] at hj; cases hj
theorem MO.mono (h : MO k o1 o2 cc) {c2 : Nat} (hc : cc ≤ c2) : MO k o1 o2 c2 :=
  ⟨h.k2, by have := h.kc; omega, fun i hi => by have := h.a i hi; omega, fun i hi => by have := h.b i hi; omega, h.ne⟩
end
end Go.Pb
set_option linter.unusedVariables false
set_option linter.unusedSimpArgs false
namespace Go.Sym
variable {P : Program}
theorem AC.own {f : Nat} {args : List DV} {V : Nat → DV} {u : Nat} {cs : List DV} (h : AC P f args nil 0 (fun v H' _ => ∃ id, v = V id ∧ H' = nil.upd id ⟨u, true, cs⟩)) (hn : DV.nlL args = true) (hcs : ∀ d ∈ cs, d.nl = true)
    (hV : ∀ (ρ ρ' : Ren) (id id' : Nat) (v : Value), ρ.nm id = ρ'.nm id' → (∀ b r, ρ.fz b = some r → ρ'.fz b = some r) → VRel ρ (V id) v → VRel ρ' (V id') v) (H : Hp) (c : Nat) :
    AC P f args H c (fun v H' c' => v = V c ∧ H' = H.upd c ⟨u, true, cs⟩ ∧ c' = c + 1) := by
  refine ⟨h.1, fun ρ w vs hR hf hA => ?_⟩
  refine (h.2 ⟨fun _ => none, ρ.fz⟩ w vs hR.nil (fun _ _ => rfl) (hA.nl (ρ := ρ) (ρ' := ⟨fun _ => none, ρ.fz⟩) (fun _ _ h => h) hn)).mono ?_
  rintro e w' ⟨v, v', H1, c1, ρ1, rfl, ⟨id, rfl, rfl⟩, d⟩
  have hb := d.ext.below (fun id b hb => by cases hb)
  obtain ⟨b1, b2, b3, b4, b5⟩ := hb
  obtain ⟨t, ht, hbr⟩ := d.rep.blk id _ h_same
  have hsz : w.heap.size ≤ t.block := by
    rcases d.ext.mine id _ t h_same ht with h1 | ⟨i, b0, t0, e1, -⟩
    · exact h1
    · cases e1
  obtain ⟨ρ2, hρ⟩ : ∃ ρ2 : Ren, ρ2 = ⟨fun j => if j = c then some t else ρ.nm j, ρ1.fz⟩ := ⟨_, rfl⟩
  have n1 : ρ2.nm c = some t := by rw [hρ]; simp
  have n2 : ∀ {j}, ¬ j = c → ρ2.nm j = ρ.nm j := fun {j} hj => by rw [hρ]; simp [hj]
  have n3 : ρ2.fz = ρ1.fz := by rw [hρ]
  have hle : ρ.le ρ2 := ⟨fun j x hj => by
    rw [n2 (fun e => by subst e; rw [hf j (Nat.le_refl _)] at hj; cases hj)]; exact hj, fun b r hb => by rw [n3]; exact d.ext.le.fz b r hb⟩
  refine ⟨V c, v', _, _, ρ2, rfl, ⟨rfl, rfl, rfl⟩, hV ρ1 ρ2 id c v' (by rw [ht, n1]) (fun b r hb => by rw [n3]; exact hb) d.val, ?_, fun j hj => by rw [n2 (by omega)]; exact hf j (by omega), by omega,
    fun j hj hne => by rw [h_ne (by omega)] at hne; exact hne, fun j hj => n2 (by omega), ?_⟩
  · refine ⟨fun j b hb => ?_, fun i j bi bj ti tj hi hj hij h1 h2 ho => ?_, by rw [n3]; exact d.rep.frz, fun j b t2 hb ho ht2 => ?_⟩
    · by_cases e : j = c
      · subst e; rw [h_same] at hb; cases hb
        refine ⟨t, n1, ?_⟩
        obtain ⟨c0, e0, fr, g1, g2, g3, g4, g5, g6⟩ := hbr
        refine ⟨c0, e0, fr, g1, g2, g3, g4, fun i x hx => ?_, g6⟩
        obtain ⟨q1, x', q2, q3⟩ := g5 i x hx
        exact ⟨q1, x', q2, q3.nl (ρ := ρ1) (ρ' := ρ2) (fun b r hb => by rw [n3]; exact hb) (hcs x (List.mem_of_getElem? hx))⟩
      · rw [h_ne e] at hb
        obtain ⟨t2, ht2, hb2⟩ := hR.blk j b hb
        exact ⟨t2, by rw [n2 e]; exact ht2, (hb2.mono hle).world (b5 _ hb2.lt)⟩
    · by_cases e1 : i = c
      · subst e1
        have e2 : ¬ j = i := fun e => hij e.symm
        rw [h_ne e2] at hj
        rw [n1] at h1; cases h1
        rw [n2 e2] at h2
        have := (hR.blk j bj hj)
        obtain ⟨t2, ht2, hb2⟩ := this
        rw [h2] at ht2; cases ht2
        have := hb2.lt
        omega
      · rw [h_ne e1] at hi
        rw [n2 e1] at h1
        by_cases e2 : j = c
        · subst e2
          rw [n1] at h2; cases h2
          obtain ⟨t2, ht2, hb2⟩ := hR.blk i bi hi
          rw [h1] at ht2; cases ht2
          have := hb2.lt
          omega
        · rw [h_ne e2] at hj
          rw [n2 e2] at h2
          exact hR.sep i j bi bj ti tj hi hj hij h1 h2 ho
    · rw [n3]
      by_cases e : j = c
      · subst e; rw [h_same] at hb; cases hb
        rw [n1] at ht2; cases ht2
        exact d.rep.dis id _ t h_same rfl ht
      · rw [h_ne e] at hb
        rw [n2 e] at ht2
        cases hf1 : ρ1.fz t2.block with
        | none => rfl
        | some r =>
          rcases d.ext.fzn _ _ hf1 with h1 | h1 | ⟨i, b0, t0, e1, -⟩
          · rw [hR.dis j b t2 hb ho ht2] at h1; cases h1
          · have := (hR.look hb ht2).lt; omega
          · cases e1
  · refine ⟨hle, b1, b2, b3, b4, fun k hk _ => b5 k hk, fun j b t2 h1 h2 => ?_, fun k r hk => ?_⟩
    · by_cases e : j = c
      · subst e; rw [n1] at h2; cases h2; exact .inl hsz
      · rw [h_ne e] at h1
        rw [n2 e] at h2
        exact .inr ⟨j, b, t2, h1, fun h => h, h2, rfl⟩
    · rw [n3] at hk
      rcases d.ext.fzn k r hk with h1 | h1 | ⟨i, b0, t0, e1, -⟩
      · exact .inl h1
      · exact .inr (.inl h1)
      · cases e1
theorem VRel.head {ρ ρ' : Ren} {id id' n : Nat} {rest : List DV} (hn : DV.nlL rest = true) (hi : ρ.nm id = ρ'.nm id') (hf : ∀ b r, ρ.fz b = some r → ρ'.fz b = some r) {v : Value}
    (h : VRel ρ (.agg (.slc id 0 n :: rest)) v) : VRel ρ' (.agg (.slc id' 0 n :: rest)) v := by
  obtain ⟨b, rfl, hs, hA⟩ := h.agg_inv
  refine .mkAgg ⟨hs, fun i x y hx hy => ?_⟩
  cases i with
  | zero =>
    simp only [List.getElem?_cons_zero, Option.some.injEq] at hx
    subst hx
    have := hA 0 _ y rfl hy
    cases this with
    | slc _ _ _ c t h1 h2 h3 h4 => exact .slc id' 0 n c t (by rw [← hi]; exact h1) h2 h3 h4
  | succ i =>
    have := hA (i + 1) x y hx hy
    simp only [List.getElem?_cons_succ] at hx
    exact this.nl hf (nlL_mem hn x (List.mem_of_getElem? hx))
section
open Go.Eng (IC)
variable {N : Nat} {x : IC} {T : Tm} {H : Hp} {c : Nat} {Q : Exit → St → Prop}
theorem IW.gl {s : St} (h : IW P N x s (fun e s' => Q e s' ∨ ∃ (ks : List Nat) (ds' : List DV) (H2 : Hp), GL s'.H (ks.map s'.T) H2 ds' ∧ Q e ⟨tm (ks.zip ds'), H2, s'.c⟩)) : IW P N x s Q := by
  intro hm cd hc ρ a w hS
  refine wp_mono (h hm cd hc ρ a w hS) fun e a' w' hq => ?_
  obtain ⟨ρ2, s2, q, hS2, hst⟩ := hq
  rcases q with q | ⟨ks, ds', H2, g, q⟩
  · exact ⟨ρ2, s2, q, hS2, hst⟩
  have hA : ARel ρ2 (ks.map s2.T) ((ks.map fun k => a'.tmps.getD k undef)).toArray := by
    refine ⟨by simp, fun i x y hx hy => ?_⟩
    simp only [List.getElem?_map, Option.map_eq_some_iff, List.getElem?_toArray] at hx hy
    obtain ⟨k, hk, rfl⟩ := hx
    obtain ⟨k', hk', rfl⟩ := hy
    rw [hk] at hk'; cases hk'
    exact hS2.tm k
  obtain ⟨ρ1, e1, r1, a1, x1⟩ := g.2 ρ2 w' _ hS2.rep hA
  refine ⟨ρ1, ⟨tm (ks.zip ds'), H2, s2.c⟩, q, ⟨tm_of fun i k d hk hd => a1.2 i d _ hd (by simp [hk]), r1, by rw [e1]; exact hS2.fresh, hS2.size, hS2.dfr⟩, ?_⟩
  exact ⟨hst.up, fun id hid hne => hst.dom id hid (g.1 id hne), fun id hid => by rw [e1]; exact hst.same id hid, hst.ext.trans x1⟩
theorem tmLe_map : ∀ {L : List (Nat × DV)} {T : Tm}, tmLe L T → (L.map Prod.fst).map T = L.map Prod.snd
  | [], _, _ => rfl
  | (k, v) :: r, T, ⟨h1, h2⟩ => by simp only [List.map_cons, h1, tmLe_map h2]
theorem zip_fs (L : List (Nat × DV)) : (L.map Prod.fst).zip (L.map Prod.snd) = L := by
  induction L with
  | nil => rfl
  | cons a r ih => simp [ih]
def lpG {σ : Type} (L : σ → List (Nat × DV)) (h : σ → Hp) (I : σ → Nat → Prop) (μ : σ → Nat) (m : Nat) (Q : Exit → St → Prop) : Exit → St → Prop
  | .normal, ⟨T, H, c⟩ => ∃ b, tmLe (L b) T ∧ GL H ((L b).map Prod.snd) (h b) ((L b).map Prod.snd) ∧ I b c ∧ μ b < m
  | e, s => Q e s
theorem i_loopG {σ : Type} (L : σ → List (Nat × DV)) (h : σ → Hp) (I : σ → Nat → Prop) (μ : σ → Nat) (a : σ) (hL : ∀ b, tmLe (L b) (tm (L b))) (h0 : tmLe (L a) T) (hH : Sub (h a) H) (hI : I a c)
    (step : ∀ a c, I a c → IW P N x ⟨tm (L a), h a, c⟩ (lpG L h I μ (μ a) Q)) : IW P N (.loop x) ⟨T, H, c⟩ Q := by
  refine i_loop L h I μ a h0 hH hI fun a c hI => IW.gl ((step a c hI).mono fun e s' q => ?_)
  obtain ⟨T', H', c'⟩ := s'
  cases e with
  | normal =>
    obtain ⟨b, q1, q2, q3, q4⟩ := q
    refine .inr ⟨(L b).map Prod.fst, (L b).map Prod.snd, h b, by rw [tmLe_map q1]; exact q2, ?_⟩
    rw [zip_fs]
    exact ⟨b, hL b, Sub.refl _, q3, q4⟩
  | _ => exact .inl q
theorem k_lnG {σ : Type} {L : σ → List (Nat × DV)} {h : σ → Hp} {I : σ → Nat → Prop} {μ : σ → Nat} {m : Nat} : lpG L h I μ m Q .normal ⟨T, H, c⟩ = ∃ b, tmLe (L b) T ∧ GL H ((L b).map Prod.snd) (h b) ((L b).map Prod.snd) ∧ Keep I b c ∧ μ b < m := propext Iff.rfl
theorem k_leG {σ : Type} {L : σ → List (Nat × DV)} {h : σ → Hp} {I : σ → Nat → Prop} {μ : σ → Nat} {m i : Nat} : lpG L h I μ m Q (.exit i) ⟨T, H, c⟩ = Q (.exit i) ⟨T, H, c⟩ := propext Iff.rfl
end
section
open Go.Eng (AOp)
variable {c0 : Nat} {T : Tm} {H : Hp}
def agN (T : Tm) (H : Hp) (d n : Nat) : Option (Option Nat × Blk) → Prop
  | some (k, b) => T d = mkv n k ∧ H n = some b
  | none => False
theorem ag_n' {j d : Nat} {f : AOp} : agK c0 j T H (some d) (.new f) (some true) = agN T H d (c0 + j) (aev (ev T) f) := by
  simp only [agK, agN]
  cases aev (ev T) f with
  | none => simp
  | some x => obtain ⟨k, b⟩ := x; simp
theorem agN_s {d n : Nat} {k : Option Nat} {b : Blk} : agN T H d n (some (k, b)) = (T d = mkv n k ∧ H n = some b) := propext Iff.rfl
end
attribute [go_sem] ag_n' agN_s
attribute [go_sem] k_lnG k_leG
end Go.Sym
set_option maxHeartbeats 4000000
set_option maxRecDepth 100000
set_option linter.unusedSimpArgs false
set_option linter.unusedVariables false
namespace Go.Proofs.YtcallbfckjlagaaDoor
open Go.Eng (IC IOper DReg IFn IsFn)
open Go.Sym Go.Pb
noncomputable section
def u10_10 : IC := .cond (.t 37) .skip (.exit 0)
def u10_9r : List IOper := [⟨some 34, .pur (.mv (.t 6)), none⟩, ⟨some 35, .pur (.mv (.t 5)), none⟩, ⟨some 36, .pur (.len (.t 35)), none⟩, ⟨some 37, .pur (.bin .lss (.t 34) (.t 36)), none⟩]
def u10_9 : IC := .seq (.reg u10_9r) u10_10
def u10_14 : IC := .cond (.t 46) (.exit 1) .skip
def u10_13r : List IOper := [⟨some 40, .pur (.mv (.t 6)), none⟩, ⟨some 41, .pur (.bin .gtr (.t 40) (.k (.int .i64 0))), none⟩, ⟨some 42, .pur (.mv (.t 41)), none⟩, ⟨some 43, .pur (.mv (.t 3)), some (42, true)⟩, ⟨some 44, .call 27 [.t 43, .k (.int .i64 2)], some (42, true)⟩, ⟨some 45, .pur (.bin .eql (.t 44) (.k (.int .i64 0))), some (42, true)⟩, ⟨some 46, .pur (.pick (.t 42) (.t 45) (.k (.bool false))), none⟩]
def u10_13 : IC := .seq (.reg u10_13r) u10_14
def u10_23 : IC := .cond (.t 64) .skip (.exit 2)
def u10_22r : List IOper := [⟨some 63, .pur (.mv (.t 8)), none⟩, ⟨some 64, .pur (.bin .gtr (.t 63) (.k (.int .i64 0))), none⟩]
def u10_22 : IC := .seq (.reg u10_22r) u10_23
def u10_25r : DReg := ⟨[⟨some 67, .pur (.fad 0 (.t 4)), none⟩, ⟨some 68, .pur (.ld 1 false (.t 67)), none⟩, ⟨some 69, .pur (.mv (.t 3)), none⟩, ⟨some 70, .pur (.fad 0 (.t 4)), none⟩, ⟨some 71, .pur (.ld 1 false (.t 70)), none⟩, ⟨some 72, .pur (.len (.t 71)), none⟩, ⟨some 73, .call 28 [.t 69, .t 72, .k (.int .i64 2)], none⟩, ⟨some 74, .eff (.app 2 16 (.t 68) (.t 73)), none⟩, ⟨some 75, .pur (.fad 0 (.t 4)), none⟩, ⟨none, .eff (.st 1 (.t 75) (.t 74)), none⟩], [[], [0], [], [], [3], [4, 3], [2, 5, 4, 3], [1, 6, 0, 2, 5, 4, 3], [0, 1, 2, 3, 4, 5, 6, 7], [8, 7, 0, 1, 2, 3, 4, 5, 6]], [(0, none), (1, none), (2, none), (3, none), (4, none), (5, none), (6, some [0, 1]), (7, some []), (8, none), (9, some [])]⟩
def u10_25 : IC := .drw 10 u10_25r
def u10_26r : List IOper := [⟨some 65, .pur (.mv (.t 8)), none⟩, ⟨some 66, .pur (.bin .sub (.t 65) (.k (.int .i64 1))), none⟩, ⟨some 8, .pur (.mv (.t 66)), none⟩]
def u10_26 : IC := .reg u10_26r
def u10_24 : IC := .seq (.blk 3 u10_25) u10_26
def u10_21 : IC := .seq u10_22 u10_24
def u10_20 : IC := .blk 2 (.loop u10_21)
def u10_19r : List IOper := [⟨some 61, .pur (.mv (.t 3)), none⟩, ⟨some 62, .call 27 [.t 61, .k (.int .i64 4)], none⟩, ⟨some 8, .pur (.mv (.t 62)), none⟩]
def u10_19 : IC := .seq (.reg u10_19r) u10_20
def u10_27r : List IOper := [⟨some 76, .pur (.fad 0 (.t 4)), none⟩, ⟨some 77, .pur (.ld 1 false (.t 76)), none⟩, ⟨some 78, .pur (.bld #[.int .i64 0, .int .i64 0] [(0, 1), (1, 1)] [(0, .k (.int .i64 31))]), none⟩, ⟨some 79, .new (.bsl 2 1 #[.int .i64 0, .int .i64 0] [(0, .t 78)]), none⟩, ⟨some 80, .eff (.app 2 16 (.t 77) (.t 79)), none⟩, ⟨some 81, .pur (.fad 0 (.t 4)), none⟩, ⟨none, .eff (.st 1 (.t 81) (.t 80)), none⟩]
def u10_27 : IC := .reg u10_27r
def u10_18 : IC := .seq u10_19 u10_27
def u10_17r : List IOper := [⟨some 55, .pur (.fad 2 (.t 4)), none⟩, ⟨some 56, .pur (.ld 1 false (.t 55)), none⟩, ⟨some 57, .pur (.ld 4 true (.t 7)), none⟩, ⟨some 58, .new (.bsl 4 1 #[.int .i64 0, .int .i64 0, .int .i64 0, .int .i64 0] [(0, .t 57)]), none⟩, ⟨some 59, .eff (.app 4 32 (.t 56) (.t 58)), none⟩, ⟨some 60, .pur (.fad 2 (.t 4)), none⟩, ⟨none, .eff (.st 1 (.t 60) (.t 59)), none⟩]
def u10_17 : IC := .seq (.reg u10_17r) u10_18
def u10_16r : List IOper := [⟨some 51, .pur (.fad 0 (.t 4)), none⟩, ⟨some 52, .pur (.ld 1 false (.t 51)), none⟩, ⟨some 53, .pur (.len (.t 52)), none⟩, ⟨some 54, .pur (.fad 3 (.t 7)), none⟩, ⟨none, .eff (.st 1 (.t 54) (.t 53)), none⟩]
def u10_16 : IC := .seq (.reg u10_16r) u10_17
def u10_15r : List IOper := [⟨some 47, .pur (.mv (.t 5)), none⟩, ⟨some 48, .pur (.mv (.t 6)), none⟩, ⟨some 49, .pur (.iad 4 (.t 47) (.t 48)), none⟩, ⟨some 50, .pur (.ld 4 true (.t 49)), none⟩, ⟨some 7, .new (.box (.k (.agg #[.int .i64 0, .int .i64 0, .int .i64 0, .int .i64 0]))), none⟩, ⟨none, .eff (.st 4 (.t 7) (.t 50)), none⟩]
def u10_15 : IC := .seq (.reg u10_15r) u10_16
def u10_12 : IC := .seq u10_13 u10_15
def u10_28r : List IOper := [⟨some 38, .pur (.mv (.t 6)), none⟩, ⟨some 39, .pur (.bin .add (.t 38) (.k (.int .i64 1))), none⟩, ⟨some 6, .pur (.mv (.t 39)), none⟩]
def u10_28 : IC := .reg u10_28r
def u10_11 : IC := .seq (.blk 1 u10_12) u10_28
def u10_8 : IC := .seq u10_9 u10_11
def u10_7 : IC := .blk 0 (.loop u10_8)
def u10_6r : List IOper := [⟨some 6, .pur (.mv (.k (.int .i64 0))), none⟩]
def u10_6 : IC := .seq (.reg u10_6r) u10_7
def u10_29r : List IOper := [⟨some 82, .pur (.ld 7 true (.t 4)), none⟩, ⟨none, .eff (.st 7 (.t 2) (.t 82)), none⟩]
def u10_29 : IC := .seq (.reg u10_29r) .ret
def u10_5 : IC := .seq u10_6 u10_29
def u10_4r : List IOper := [⟨some 24, .pur (.bld #[.int .i64 0, .int .i64 0, .int .i64 0, .int .i64 0] [(0, 1), (1, 1), (2, 1), (3, 1)] [(1, .k (.int .i64 1))]), none⟩, ⟨some 25, .pur (.bld #[.int .i64 0, .int .i64 0, .int .i64 0, .int .i64 0] [(0, 1), (1, 1), (2, 1), (3, 1)] [(1, .k (.int .i64 2))]), none⟩, ⟨some 26, .pur (.bld #[.int .i64 0, .int .i64 0, .int .i64 0, .int .i64 0] [(0, 1), (1, 1), (2, 1), (3, 1)] [(1, .k (.int .i64 3)), (2, .k (.int .i64 3))]), none⟩, ⟨some 27, .pur (.bld #[.int .i64 0, .int .i64 0, .int .i64 0, .int .i64 0] [(0, 1), (1, 1), (2, 1), (3, 1)] [(1, .k (.int .i64 5)), (2, .k (.int .i64 1))]), none⟩, ⟨some 28, .pur (.bld #[.int .i64 0, .int .i64 0, .int .i64 0, .int .i64 0] [(0, 1), (1, 1), (2, 1), (3, 1)] [(1, .k (.int .i64 6))]), none⟩, ⟨some 29, .pur (.bld #[.int .i64 0, .int .i64 0, .int .i64 0, .int .i64 0] [(0, 1), (1, 1), (2, 1), (3, 1)] [(0, .k (.int .i64 1)), (1, .k (.int .i64 1))]), none⟩, ⟨some 30, .pur (.bld #[.int .i64 0, .int .i64 0, .int .i64 0, .int .i64 0] [(0, 1), (1, 1), (2, 1), (3, 1)] [(0, .k (.int .i64 1)), (1, .k (.int .i64 3)), (2, .k (.int .i64 3))]), none⟩, ⟨some 31, .pur (.bld #[.int .i64 0, .int .i64 0, .int .i64 0, .int .i64 0] [(0, 1), (1, 1), (2, 1), (3, 1)] [(0, .k (.int .i64 1)), (1, .k (.int .i64 4)), (2, .k (.int .i64 63))]), none⟩, ⟨some 32, .pur (.bld #[.int .i64 0, .int .i64 0, .int .i64 0, .int .i64 0] [(0, 1), (1, 1), (2, 1), (3, 1)] [(0, .k (.int .i64 1)), (1, .k (.int .i64 6)), (2, .k (.int .i64 1))]), none⟩, ⟨some 33, .new (.bsl 4 9 #[.int .i64 0, .int .i64 0, .int .i64 0, .int .i64 0] [(0, .t 24), (1, .t 25), (2, .t 26), (3, .t 27), (4, .t 28), (5, .t 29), (6, .t 30), (7, .t 31), (8, .t 32)]), none⟩, ⟨some 5, .pur (.mv (.t 33)), none⟩]
def u10_4 : IC := .seq (.reg u10_4r) u10_5
def u10_3r : List IOper := [⟨some 16, .new (.bsl 1 2 #[.string ⟨#[]⟩] [(0, .k (.string ⟨#[103, 111]⟩)), (1, .k (.string ⟨#[111, 118, 101, 114]⟩))]), none⟩, ⟨some 17, .pur (.mv (.t 3)), none⟩, ⟨some 18, .call 27 [.t 17, .k (.int .i64 4)], none⟩, ⟨some 19, .pur (.mv (.t 3)), none⟩, ⟨some 20, .call 27 [.t 19, .k (.int .i64 4)], none⟩, ⟨some 21, .new (.bsl 1 2 #[.int .i64 0] [(0, .t 18), (1, .t 20)]), none⟩, ⟨some 22, .new (.bsl 1 3 #[.int .i64 0] [(0, .k (.int .i64 0)), (1, .k (.int .i64 5)), (2, .k (.int .i64 (-3)))]), none⟩, ⟨some 23, .pur (.bld #[.slice none 0 0, .slice none 0 0, .slice none 0 0, .slice none 0 0, .slice none 0 0, .int .i64 0, .int .i64 0] [(0, 1), (1, 1), (2, 1), (3, 1), (4, 1), (5, 1), (6, 1)] [(1, .t 16), (3, .t 21), (4, .t 22), (5, .k (.int .i64 2)), (6, .k (.int .i64 2))]), none⟩, ⟨some 4, .new (.box (.k (.agg #[.slice none 0 0, .slice none 0 0, .slice none 0 0, .slice none 0 0, .slice none 0 0, .int .i64 0, .int .i64 0]))), none⟩, ⟨none, .eff (.st 7 (.t 4) (.t 23)), none⟩]
def u10_3 : IC := .seq (.reg u10_3r) u10_4
def u10_2r : List IOper := [⟨some 9, .pur (.mv (.t 0)), none⟩, ⟨some 10, .pur (.mv (.t 0)), none⟩, ⟨some 11, .pur (.len (.t 10)), none⟩, ⟨some 12, .pur (.mn (.t 11) (.k (.int .i64 200))), none⟩, ⟨some 13, .pur (.slc 1 (.t 9) none (some (.t 12))), none⟩, ⟨some 14, .pur (.bld #[.slice none 0 0, .int .i64 0] [(0, 1), (1, 1)] [(0, .t 13)]), none⟩, ⟨some 15, .new (.box (.t 14)), none⟩, ⟨some 3, .pur (.mv (.t 15)), none⟩]
def u10_2 : IC := .seq (.reg u10_2r) u10_3
def u10_1r : List IOper := [⟨some 2, .new (.box (.k (.agg #[.slice none 0 0, .slice none 0 0, .slice none 0 0, .slice none 0 0, .slice none 0 0, .int .i64 0, .int .i64 0]))), none⟩]
def u10_1 : IC := .seq (.reg u10_1r) u10_2
def u10 : IFn := ⟨83, u10_1, [.cell 2 7 true]⟩
end
theorem isU10 : IsFn Tryd.prog 10 u10 := by unfold IsFn; kernel_rfl
instance i10_10 : WR Tryd.prog 83 u10_10 (rCE (.t 37) .skip (.exit 0) [2, 3, 4, 5, 6, 37]) := ⟨mkCE⟩
instance i10_9 : WR Tryd.prog 83 u10_9 (rS u10_9r u10_10 [2, 3, 4, 5, 6]) := ⟨mkS⟩
instance i10_14 : WR Tryd.prog 83 u10_14 (rCE (.t 46) (.exit 1) .skip [2, 3, 4, 5, 6, 46]) := ⟨mkCE⟩
instance i10_13 : WR Tryd.prog 83 u10_13 (rS u10_13r u10_14 [2, 3, 4, 5, 6]) := ⟨mkS⟩
instance i10_23 : WR Tryd.prog 83 u10_23 (rCE (.t 64) .skip (.exit 2) [2, 3, 4, 5, 6, 8, 64]) := ⟨mkCE⟩
instance i10_22 : WR Tryd.prog 83 u10_22 (rS u10_22r u10_23 [2, 3, 4, 5, 6, 8]) := ⟨mkS⟩
instance i10_25 : WR Tryd.prog 83 u10_25 (rDE 10 u10_25r [2, 3, 4, 5, 6, 8]) := ⟨mkDE⟩
instance i10_26 : WR Tryd.prog 83 u10_26 (rE u10_26r [2, 3, 4, 5, 6, 8]) := ⟨mkE⟩
instance i10_24 : WR Tryd.prog 83 u10_24 (rB 3 u10_25 u10_26 [2, 3, 4, 5, 6, 8]) := ⟨mkB⟩
instance i10_21 : WR Tryd.prog 83 u10_21 (rQ u10_22 u10_24 [2, 3, 4, 5, 6, 8]) := ⟨mkQ⟩
instance i10_20 : WR Tryd.prog 83 u10_20 (rBE 2 (.loop u10_21) [2, 3, 4, 5, 6, 8]) := ⟨mkBE⟩
instance i10_19 : WR Tryd.prog 83 u10_19 (rS u10_19r u10_20 [2, 3, 4, 5, 6]) := ⟨mkS⟩
instance i10_27 : WR Tryd.prog 83 u10_27 (rE u10_27r [2, 3, 4, 5, 6]) := ⟨mkE⟩
instance i10_18 : WR Tryd.prog 83 u10_18 (rQ u10_19 u10_27 [2, 3, 4, 5, 6]) := ⟨mkQ⟩
instance i10_17 : WR Tryd.prog 83 u10_17 (rS u10_17r u10_18 [2, 3, 4, 5, 6, 7]) := ⟨mkS⟩
instance i10_16 : WR Tryd.prog 83 u10_16 (rS u10_16r u10_17 [2, 3, 4, 5, 6, 7]) := ⟨mkS⟩
instance i10_15 : WR Tryd.prog 83 u10_15 (rS u10_15r u10_16 [2, 3, 4, 5, 6]) := ⟨mkS⟩
instance i10_12 : WR Tryd.prog 83 u10_12 (rQ u10_13 u10_15 [2, 3, 4, 5, 6]) := ⟨mkQ⟩
instance i10_28 : WR Tryd.prog 83 u10_28 (rE u10_28r [2, 3, 4, 5, 6]) := ⟨mkE⟩
instance i10_11 : WR Tryd.prog 83 u10_11 (rB 1 u10_12 u10_28 [2, 3, 4, 5, 6]) := ⟨mkB⟩
instance i10_8 : WR Tryd.prog 83 u10_8 (rQ u10_9 u10_11 [2, 3, 4, 5, 6]) := ⟨mkQ⟩
instance i10_7 : WR Tryd.prog 83 u10_7 (rBE 0 (.loop u10_8) [2, 3, 4, 5, 6]) := ⟨mkBE⟩
instance i10_6 : WR Tryd.prog 83 u10_6 (rS u10_6r u10_7 [2, 3, 4, 5]) := ⟨mkS⟩
instance i10_29 : WR Tryd.prog 83 u10_29 (rS u10_29r .ret [2, 4]) := ⟨mkS⟩
instance i10_5 : WR Tryd.prog 83 u10_5 (rQ u10_6 u10_29 [2, 3, 4, 5]) := ⟨mkQ⟩
instance i10_4 : WR Tryd.prog 83 u10_4 (rS u10_4r u10_5 [2, 3, 4]) := ⟨mkS⟩
instance i10_3 : WR Tryd.prog 83 u10_3 (rS u10_3r u10_4 [2, 3]) := ⟨mkS⟩
instance i10_2 : WR Tryd.prog 83 u10_2 (rS u10_2r u10_3 [0, 2]) := ⟨mkS⟩
instance i10_1 : WR Tryd.prog 83 u10_1 (rS u10_1r u10_2 [0]) := ⟨mkS⟩
attribute [go_sem] u10_9r u10_13r u10_22r u10_25r u10_26r u10_19r u10_27r u10_17r u10_16r u10_15r u10_28r u10_6r u10_29r u10_4r u10_3r u10_2r u10_1r
def madeO (l : List UInt8) (id : Nat) : DV := .agg (.slc id 0 (madeM l).instrs.length :: [strs mdS, entsV (madeM l).entries, ints (mdP (l.take 200)), ints mdV, I64 2, I64 2])
theorem c_MadeN (l : List UInt8) (hl : l.length ≤ 9223372036854775807) : AC Tryd.prog 10 [.lst (bytesC l)] nil 0 (fun v H' _ => ∃ id, v = madeO l id ∧ H' = nil.upd id ⟨2, true, insC (madeM l).instrs⟩) := by
  refine AC.body mixedU isU10 (Nat.le_of_ble_eq_true rfl) fun hfr => ?_
  show IW Tryd.prog 83 u10_1 ⟨argT _, _, _⟩ (rt [.cell 2 7 true] _)
  have hlen := bytesC_len l
  obtain ⟨t, ht⟩ : ∃ t, t = l.take 200 := ⟨_, rfl⟩
  have htl : t.length ≤ 200 := by rw [ht, List.length_take]; omega
  have hmn : (if (200 : Int) < ((l.length : Nat) : Int) then (200 : Int) else ((l.length : Nat) : Int)) = ((t.length : Nat) : Int) := by
    rw [ht, List.length_take]; split <;> omega
  have hsl : ∀ H, slcR H 1 (.lst (bytesC l)) none (some (I64 (t.length : Int))) = some (.lst (bytesC t)) := fun H => by
    have e : l.take t.length = t := by rw [ht, List.length_take]; by_cases h : 200 ≤ l.length
                                       · rw [Nat.min_eq_left h]
                                       · rw [Nat.min_eq_right (by omega), List.take_of_length_le (Nat.le_refl _), List.take_of_length_le (by omega)]
    rw [slc_bytes (by rw [ht, List.length_take]; omega), e]
  repeat' ((first | (with_reducible first | refine wr ?_ | refine i_ret ?_ | refine i_skip ?_ | refine i_exit ?_) | ((with_reducible first | refine k_cb ?_ ?_ | refine k_gb ?_ ?_ | refine k_gb' ?_ ?_) <;> (intro hb; try simp only [hb]))) <;> try simp only [go_sem, Nat.reduceAdd, Nat.reduceLeDiff, Nat.reduceEqDiff, Nat.reduceMul, Nat.reduceSub, ↓reduceIte, Int.reduceLT, Int.reduceLE, Int.reduceGT, Int.reduceGE, Nat.reduceLT, Nat.reduceGT, Int.reduceToNat, reduceCtorEq, Nat.reduceBEq, Int.reduceBEq, Int.reduceBNe, Int.reduceEq, Int.reduceNe, decide_true, decide_false, hlen, hmn, hsl])
  refine AC.call (c_next t (by omega) 0 (by omega) 4 (by omega) (by omega) _ _ 1 rfl (by omega)) ?_
  rintro v H' c1 ⟨rfl, rfl⟩ hc1
  have hp1 := nextM_le (l := t) (p := 0) (n := 4) (by omega)
  simp only [go_sem, Nat.reduceAdd, Nat.reduceLeDiff, Nat.reduceEqDiff, Nat.reduceMul, Nat.reduceSub, ↓reduceIte, Int.reduceLT, Int.reduceLE, Int.reduceGT, Int.reduceGE, Nat.reduceLT, Nat.reduceGT, Int.reduceToNat, reduceCtorEq, Nat.reduceBEq, Int.reduceBEq, Int.reduceBNe, Int.reduceEq, Int.reduceNe, decide_true, decide_false]
  repeat' ((first | (with_reducible first | refine wr ?_ | refine i_ret ?_ | refine i_skip ?_ | refine i_exit ?_) | ((with_reducible first | refine k_cb ?_ ?_ | refine k_gb ?_ ?_ | refine k_gb' ?_ ?_) <;> (intro hb; try simp only [hb]))) <;> try simp only [go_sem, Nat.reduceAdd, Nat.reduceLeDiff, Nat.reduceEqDiff, Nat.reduceMul, Nat.reduceSub, ↓reduceIte, Int.reduceLT, Int.reduceLE, Int.reduceGT, Int.reduceGE, Nat.reduceLT, Nat.reduceGT, Int.reduceToNat, reduceCtorEq, Nat.reduceBEq, Int.reduceBEq, Int.reduceBNe, Int.reduceEq, Int.reduceNe, decide_true, decide_false])
  refine AC.call (c_next t (by omega) _ hp1 4 (by omega) (by omega) _ _ 1 h_same (by omega)) ?_
  rintro v H' c2 ⟨rfl, rfl⟩ hc2
  have hp2 := nextM_le (l := t) (p := (nextM t 0 4).2) (n := 4) hp1
  rw [h_upd2]
  have ne0 : ¬ 0 = c2 := by omega
  have ne1 : ¬ 0 = c2 + 1 := by omega
  have ne2 : ¬ 0 = c2 + 2 := by omega
  have ne3 : ¬ 0 = c2 + 3 := by omega
  have ne4 : ¬ 1 = c2 := by omega
  have ne5 : ¬ 1 = c2 + 1 := by omega
  have ne6 : ¬ 1 = c2 + 2 := by omega
  have ne7 : ¬ 1 = c2 + 3 := by omega
  have ne8 : ¬ 2 = c2 := by omega
  have ne9 : ¬ 2 = c2 + 1 := by omega
  have ne10 : ¬ 2 = c2 + 2 := by omega
  have ne11 : ¬ 2 = c2 + 3 := by omega
  have ne12 : ¬ c2 = 0 := by omega
  have ne13 : ¬ c2 = 1 := by omega
  have ne14 : ¬ c2 = 2 := by omega
  have ne15 : ¬ c2 = c2 + 1 := by omega
  have ne16 : ¬ c2 = c2 + 2 := by omega
  have ne17 : ¬ c2 = c2 + 3 := by omega
  have ne18 : ¬ c2 + 1 = 0 := by omega
  have ne19 : ¬ c2 + 1 = 1 := by omega
  have ne20 : ¬ c2 + 1 = 2 := by omega
  have ne21 : ¬ c2 + 1 = c2 := by omega
  have ne22 : ¬ c2 + 1 = c2 + 2 := by omega
  have ne23 : ¬ c2 + 1 = c2 + 3 := by omega
  have ne24 : ¬ c2 + 2 = 0 := by omega
  have ne25 : ¬ c2 + 2 = 1 := by omega
  have ne26 : ¬ c2 + 2 = 2 := by omega
  have ne27 : ¬ c2 + 2 = c2 := by omega
  have ne28 : ¬ c2 + 2 = c2 + 1 := by omega
  have ne29 : ¬ c2 + 2 = c2 + 3 := by omega
  have ne30 : ¬ c2 + 3 = 0 := by omega
  have ne31 : ¬ c2 + 3 = 1 := by omega
  have ne32 : ¬ c2 + 3 = 2 := by omega
  have ne33 : ¬ c2 + 3 = c2 := by omega
  have ne34 : ¬ c2 + 3 = c2 + 1 := by omega
  have ne35 : ¬ c2 + 3 = c2 + 2 := by omega
  simp only [go_sem, Nat.reduceAdd, Nat.reduceLeDiff, Nat.reduceEqDiff, Nat.reduceMul, Nat.reduceSub, ↓reduceIte, Int.reduceLT, Int.reduceLE, Int.reduceGT, Int.reduceGE, Nat.reduceLT, Nat.reduceGT, Int.reduceToNat, reduceCtorEq, Nat.reduceBEq, Int.reduceBEq, Int.reduceBNe, Int.reduceEq, Int.reduceNe, decide_true, decide_false, ne0, ne1, ne2, ne3, ne4, ne5, ne6, ne7, ne8, ne9, ne10, ne11, ne12, ne13, ne14, ne15, ne16, ne17, ne18, ne19, ne20, ne21, ne22, ne23, ne24, ne25, ne26, ne27, ne28, ne29, ne30, ne31, ne32, ne33, ne34, ne35]
  repeat' ((first | (with_reducible first | refine wr ?_ | refine i_ret ?_ | refine i_skip ?_ | refine i_exit ?_) | ((with_reducible first | refine k_cb ?_ ?_ | refine k_gb ?_ ?_ | refine k_gb' ?_ ?_) <;> (intro hb; try simp only [hb]))) <;> try simp only [go_sem, Nat.reduceAdd, Nat.reduceLeDiff, Nat.reduceEqDiff, Nat.reduceMul, Nat.reduceSub, ↓reduceIte, Int.reduceLT, Int.reduceLE, Int.reduceGT, Int.reduceGE, Nat.reduceLT, Nat.reduceGT, Int.reduceToNat, reduceCtorEq, Nat.reduceBEq, Int.reduceBEq, Int.reduceBNe, Int.reduceEq, Int.reduceNe, decide_true, decide_false, ne0, ne1, ne2, ne3, ne4, ne5, ne6, ne7, ne8, ne9, ne10, ne11, ne12, ne13, ne14, ne15, ne16, ne17, ne18, ne19, ne20, ne21, ne22, ne23, ne24, ne25, ne26, ne27, ne28, ne29, ne30, ne31, ne32, ne33, ne34, ne35])
  have hkk : ∃ k, k = c2 + 1 + 1 := ⟨_, rfl⟩
  have hkeys : (entsV keysM) = entsV keysM := rfl
  refine IW.keep [2, 3, 4, 5, 6] [.ptr 0 0, .ptr 1 0, .ptr (c2 + 1 + 1) 0, entsV keysM, I64 0]
    (H' := MH (c2 + 1 + 1) t (nextM t (nextM t 0 4).2 4).2 (strs mdS) (ints (mdP t)) (ints mdV) [] [] none none)
    ((g_cell (a := 2) (k := c2 + 1 + 1) (u := 1) (u' := 1) (pre := [.snil]) (suf := [.snil, .slc c2 0 2, .slc (c2 + 1) 0 3, I64 2, I64 2]) (xs := mdS.map DV.str) (junk := []) (by simp only [go_sem, ne0, ne1, ne2, ne3, ne4, ne5, ne6, ne7, ne8, ne9, ne10, ne11, ne12, ne13, ne14, ne15, ne16, ne17, ne18, ne19, ne20, ne21, ne22, ne23, ne24, ne25, ne26, ne27, ne28, ne29, ne30, ne31, ne32, ne33, ne34, ne35, List.cons_append, List.nil_append]; rfl) (by simp only [go_sem, ne0, ne1, ne2, ne3, ne4, ne5, ne6, ne7, ne8, ne9, ne10, ne11, ne12, ne13, ne14, ne15, ne16, ne17, ne18, ne19, ne20, ne21, ne22, ne23, ne24, ne25, ne26, ne27, ne28, ne29, ne30, ne31, ne32, ne33, ne34, ne35]; rfl) (by simp [DV.one]) rfl (str_unit _) (by omega)).trans
    ((g_cell (a := c2) (k := c2 + 1 + 1) (u := 1) (u' := 1) (pre := [.snil, strs mdS, .snil]) (suf := [.slc (c2 + 1) 0 3, I64 2, I64 2]) (xs := (mdP t).map I64) (junk := []) (by simp only [go_sem, ne0, ne1, ne2, ne3, ne4, ne5, ne6, ne7, ne8, ne9, ne10, ne11, ne12, ne13, ne14, ne15, ne16, ne17, ne18, ne19, ne20, ne21, ne22, ne23, ne24, ne25, ne26, ne27, ne28, ne29, ne30, ne31, ne32, ne33, ne34, ne35, List.cons_append, List.nil_append]; rfl) (by simp only [go_sem, ne0, ne1, ne2, ne3, ne4, ne5, ne6, ne7, ne8, ne9, ne10, ne11, ne12, ne13, ne14, ne15, ne16, ne17, ne18, ne19, ne20, ne21, ne22, ne23, ne24, ne25, ne26, ne27, ne28, ne29, ne30, ne31, ne32, ne33, ne34, ne35]; rfl) (by simp [DV.one]) rfl (ints_unit _) (by omega)).trans
    ((g_cell (a := c2 + 1) (k := c2 + 1 + 1) (u := 1) (u' := 1) (pre := [.snil, strs mdS, .snil, ints (mdP t)]) (suf := [I64 2, I64 2]) (xs := mdV.map I64) (junk := []) (by simp only [go_sem, ne0, ne1, ne2, ne3, ne4, ne5, ne6, ne7, ne8, ne9, ne10, ne11, ne12, ne13, ne14, ne15, ne16, ne17, ne18, ne19, ne20, ne21, ne22, ne23, ne24, ne25, ne26, ne27, ne28, ne29, ne30, ne31, ne32, ne33, ne34, ne35, List.cons_append, List.nil_append]; rfl) (by simp only [go_sem, ne0, ne1, ne2, ne3, ne4, ne5, ne6, ne7, ne8, ne9, ne10, ne11, ne12, ne13, ne14, ne15, ne16, ne17, ne18, ne19, ne20, ne21, ne22, ne23, ne24, ne25, ne26, ne27, ne28, ne29, ne30, ne31, ne32, ne33, ne34, ne35]; rfl) (by simp [DV.one]) rfl (ints_unit _) (by omega)).trans
    (GL.frzS (id := c2 + 1 + 1 + 1) (b := ⟨4, true, cellsL (keysM.map Ent.v)⟩) (by simp only [go_sem, ne0, ne1, ne2, ne3, ne4, ne5, ne6, ne7, ne8, ne9, ne10, ne11, ne12, ne13, ne14, ne15, ne16, ne17, ne18, ne19, ne20, ne21, ne22, ne23, ne24, ne25, ne26, ne27, ne28, ne29, ne30, ne31, ne32, ne33, ne34, ne35]; rfl) rfl (fun j => ?_) (.cons _ _ _ _ (.same _) (.cons _ _ _ _ (.same _) (.cons _ _ _ _ (.same _) (.cons _ _ _ _ (fz_slc (u := 4) rfl (ent_unit _) ⟨[], by simp⟩) (.cons _ _ _ _ (.same _) .nil))))))))) ?_
  · by_cases e1 : j = c2 + 1 + 1
    · subst e1; right; refine ⟨by omega, ?_⟩; rw [h_same]; unfold MH; simp only [optH]; rw [h_same]; rfl
    · by_cases e2 : j = 1
      · subst e2; right; refine ⟨by omega, ?_⟩; rw [h_ne (by omega), h_dne (by omega), h_ne (by omega), h_dne (by omega), h_ne (by omega), h_dne (by omega)]; simp only [go_sem, ne0, ne1, ne2, ne3, ne4, ne5, ne6, ne7, ne8, ne9, ne10, ne11, ne12, ne13, ne14, ne15, ne16, ne17, ne18, ne19, ne20, ne21, ne22, ne23, ne24, ne25, ne26, ne27, ne28, ne29, ne30, ne31, ne32, ne33, ne34, ne35]; rfl
      · by_cases e3 : j = 0
        · subst e3; right; refine ⟨by omega, ?_⟩; rw [h_ne (by omega), h_dne (by omega), h_ne (by omega), h_dne (by omega), h_ne (by omega), h_dne (by omega)]; simp only [go_sem, ne0, ne1, ne2, ne3, ne4, ne5, ne6, ne7, ne8, ne9, ne10, ne11, ne12, ne13, ne14, ne15, ne16, ne17, ne18, ne19, ne20, ne21, ne22, ne23, ne24, ne25, ne26, ne27, ne28, ne29, ne30, ne31, ne32, ne33, ne34, ne35]; rfl
        · left; unfold MH; simp only [optH]; rw [h_ne e1, h_ne e2, h_ne e3]; rfl
  obtain ⟨k, hk⟩ : ∃ k, k = c2 + 1 + 1 := ⟨_, rfl⟩
  rw [← hk]
  have hkl : keysM.length = 9 := rfl
  refine i_loop (fun q : Nat × Option Nat × Option Nat => [(2, .ptr 0 0), (3, .ptr 1 0), (4, .ptr k 0), (5, entsV keysM), (6, I64 q.1)]) (fun q => MH k t (mdK t q.1).p (strs mdS) (ints (mdP t)) (ints mdV) (mdK t q.1).I (mdK t q.1).E q.2.1 q.2.2)
    (fun q cc => MO k q.2.1 q.2.2 cc ∧ q.1 ≤ 9 ∧ (q.2.1 = none → (mdK t q.1).I = []) ∧ (q.2.2 = none → (mdK t q.1).E = []) ∧ (q.1 ≠ 0 → q.2.1 ≠ none ∧ q.2.2 ≠ none)) (fun q => 9 - q.1) (0, none, none)
    (by simp [tmLe, tm, Tm.upd]) (Sub.refl _) ⟨⟨by omega, by omega, by simp, by simp, by simp⟩, by simp, fun _ => rfl, fun _ => rfl, by simp⟩ ?_
  clear hkeys hkk
  rintro ⟨i, o1, o2⟩ cc ⟨hO, hi9, hn1, hn2, hne⟩
  simp only at hO hi9 hn1 hn2 hne
  obtain ⟨B1, B2, B3⟩ := mdK_bd (l := t) i
  by_cases hlt : i < 9
  · have hd : decide ((i : Int) < ((9 : Nat) : Int)) = true := by simp; omega
    have hw : IntKind.i64.wrap ((i : Int) + 1) = ((i + 1 : Nat) : Int) := by rw [w64 (by omega) (by omega)]; omega
    obtain ⟨e, he⟩ : ∃ e, e = keysM.getD i ⟨0, 0, 0, 0⟩ := ⟨_, rfl⟩
    have hg : keysM[i]? = some e := by rw [he, List.getD, List.getElem?_eq_getElem (by rw [hkl]; exact hlt)]; rfl
    obtain ⟨x, hx⟩ : ∃ x, x = mdK t i := ⟨_, rfl⟩
    have hmd : mdK t (i + 1) = mdI t e i x := by rw [he, hx]; rfl
    rw [← hx] at B1 B2 B3 hn1 hn2
    simp only
    rw [← hx]
    obtain ⟨I, E, p⟩ := x
    simp only at B1 B2 B3 hn1 hn2 ⊢
    by_cases hi0 : i = 0
    · have hgt : decide ((i : Int) > 0) = false := by simp; omega
      obtain ⟨pp, hpp⟩ : ∃ pp, pp = p := ⟨_, rfl⟩
      have hmd2 : mdK t (i + 1) = mdH t e ⟨I, E, p⟩ pp := by rw [hmd, mdI, if_pos hi0, hpp]
      have Hpp : pp ≤ t.length := by rw [hpp]; exact B1
      rw [← hpp]
      have hlt1 := r_lentodo (o := o1) (n := I.length) (fun e => len_nil (hn1 e))
      have hD := fun (p : Nat) => MH_k (l := t) (p := p) (S := strs mdS) (P := ints (mdP t)) (V := ints mdV) (I := I) (E := E) hO
      have hcc := hO.kc
      have hk2 := hO.k2
      have hdk : ∀ X, delO X o2 k = X k := fun X => delO_ne (fun i hi e => by have := hO.b i hi; omega)
      have hd1 : ∀ X, delO X o2 1 = X 1 := fun X => delO_ne (fun i hi e => by have := hO.b i hi; omega)
      have hd0 : ∀ X, delO X o2 0 = X 0 := fun X => delO_ne (fun i hi e => by have := hO.b i hi; omega)
      have hda : ∀ X j, o1 = some j → delO X o2 j = X j := fun X j hj => delO_ne (fun i hi e => hO.ne j hj (by rw [e]; exact hi))
      have ne0 : ¬ 0 = k := by omega
      have ne1 : ¬ 0 = cc := by omega
      have ne2 : ¬ 0 = cc + 1 := by omega
      have ne3 : ¬ 0 = cc + 2 := by omega
      have ne4 : ¬ 1 = k := by omega
      have ne5 : ¬ 1 = cc := by omega
      have ne6 : ¬ 1 = cc + 1 := by omega
      have ne7 : ¬ 1 = cc + 2 := by omega
      have ne8 : ¬ k = 0 := by omega
      have ne9 : ¬ k = 1 := by omega
      have ne10 : ¬ k = cc := by omega
      have ne11 : ¬ k = cc + 1 := by omega
      have ne12 : ¬ k = cc + 2 := by omega
      have ne13 : ¬ cc = 0 := by omega
      have ne14 : ¬ cc = 1 := by omega
      have ne15 : ¬ cc = k := by omega
      have ne16 : ¬ cc = cc + 1 := by omega
      have ne17 : ¬ cc = cc + 2 := by omega
      have ne18 : ¬ cc + 1 = 0 := by omega
      have ne19 : ¬ cc + 1 = 1 := by omega
      have ne20 : ¬ cc + 1 = k := by omega
      have ne21 : ¬ cc + 1 = cc := by omega
      have ne22 : ¬ cc + 1 = cc + 2 := by omega
      have ne23 : ¬ cc + 2 = 0 := by omega
      have ne24 : ¬ cc + 2 = 1 := by omega
      have ne25 : ¬ cc + 2 = k := by omega
      have ne26 : ¬ cc + 2 = cc := by omega
      have ne27 : ¬ cc + 2 = cc + 1 := by omega
      repeat' ((first | (with_reducible first | refine wr ?_ | refine i_ret ?_ | refine i_skip ?_ | refine i_exit ?_) | ((with_reducible first | refine k_cb ?_ ?_ | refine k_gb ?_ ?_ | refine k_gb' ?_ ?_) <;> (intro hb; try simp only [hb]))) <;> try simp only [go_sem, Nat.reduceAdd, Nat.reduceLeDiff, Nat.reduceEqDiff, Nat.reduceMul, Nat.reduceSub, ↓reduceIte, Int.reduceLT, Int.reduceLE, Int.reduceGT, Int.reduceGE, Nat.reduceLT, Nat.reduceGT, Int.reduceToNat, reduceCtorEq, Nat.reduceBEq, Int.reduceBEq, Int.reduceBNe, Int.reduceEq, Int.reduceNe, decide_true, decide_false, hkl, hd, hgt, hg, hlt1, hD, ne0, ne1, ne2, ne3, ne4, ne5, ne6, ne7, ne8, ne9, ne10, ne11, ne12, ne13, ne14, ne15, ne16, ne17, ne18, ne19, ne20, ne21, ne22, ne23, ne24, ne25, ne26, ne27])
      refine k_eval (r_apptodo (cs := cellsL (E.map Ent.v)) (fun e => ⟨len_nil (hn2 e), entC_nil (hn2 e)⟩) (fun i hi => ?_) (entC_len' E) (by omega) (by omega) (by omega)) ?_
      · have := hO.b i hi
        rw [h_ne (by omega), h_ne (by omega), h_ne (by omega), h_ne (by omega)]; exact MH_b hi
      simp only [go_sem, Nat.reduceAdd, Nat.reduceLeDiff, Nat.reduceEqDiff, Nat.reduceMul, Nat.reduceSub, ↓reduceIte, Int.reduceLT, Int.reduceLE, Int.reduceGT, Int.reduceGE, Nat.reduceLT, Nat.reduceGT, Int.reduceToNat, reduceCtorEq, Nat.reduceBEq, Int.reduceBEq, Int.reduceBNe, Int.reduceEq, Int.reduceNe, decide_true, decide_false, hdk, hD, ne0, ne1, ne2, ne3, ne4, ne5, ne6, ne7, ne8, ne9, ne10, ne11, ne12, ne13, ne14, ne15, ne16, ne17, ne18, ne19, ne20, ne21, ne22, ne23, ne24, ne25, ne26, ne27]
      repeat' ((first | (with_reducible first | refine wr ?_ | refine i_ret ?_ | refine i_skip ?_ | refine i_exit ?_) | ((with_reducible first | refine k_cb ?_ ?_ | refine k_gb ?_ ?_ | refine k_gb' ?_ ?_) <;> (intro hb; try simp only [hb]))) <;> try simp only [go_sem, Nat.reduceAdd, Nat.reduceLeDiff, Nat.reduceEqDiff, Nat.reduceMul, Nat.reduceSub, ↓reduceIte, Int.reduceLT, Int.reduceLE, Int.reduceGT, Int.reduceGE, Nat.reduceLT, Nat.reduceGT, Int.reduceToNat, reduceCtorEq, Nat.reduceBEq, Int.reduceBEq, Int.reduceBNe, Int.reduceEq, Int.reduceNe, decide_true, decide_false, hdk, hD, ne0, ne1, ne2, ne3, ne4, ne5, ne6, ne7, ne8, ne9, ne10, ne11, ne12, ne13, ne14, ne15, ne16, ne17, ne18, ne19, ne20, ne21, ne22, ne23, ne24, ne25, ne26, ne27])
      refine AC.call (c_next t (by omega) pp Hpp 4 (by omega) (by omega) _ _ 1 (by repeat (first | exact MH_1 hO | rw [h_ne (by omega)] | rw [hd1])) (by omega)) ?_
      rintro v H' c4 ⟨rfl, rfl⟩ hc4
      have hq4 := nextM_lt (l := t) (p := pp) (n := 4) (by omega)
      have hp4 := nextM_le (l := t) (p := pp) (n := 4) Hpp
      obtain ⟨n, hn⟩ : ∃ n, n = (nextM t pp 4).1 := ⟨_, rfl⟩
      obtain ⟨p2, hp2⟩ : ∃ p2, p2 = (nextM t pp 4).2 := ⟨_, rfl⟩
      rw [← hn, ← hp2]
      rw [← hn] at hq4
      rw [← hp2] at hp4
      simp only [go_sem, Nat.reduceAdd, Nat.reduceLeDiff, Nat.reduceEqDiff, Nat.reduceMul, Nat.reduceSub, ↓reduceIte, Int.reduceLT, Int.reduceLE, Int.reduceGT, Int.reduceGE, Nat.reduceLT, Nat.reduceGT, Int.reduceToNat, reduceCtorEq, Nat.reduceBEq, Int.reduceBEq, Int.reduceBNe, Int.reduceEq, Int.reduceNe, decide_true, decide_false]
      repeat' ((first | (with_reducible first | refine wr ?_ | refine i_ret ?_ | refine i_skip ?_ | refine i_exit ?_) | ((with_reducible first | refine k_cb ?_ ?_ | refine k_gb ?_ ?_ | refine k_gb' ?_ ?_) <;> (intro hb; try simp only [hb]))) <;> try simp only [go_sem, Nat.reduceAdd, Nat.reduceLeDiff, Nat.reduceEqDiff, Nat.reduceMul, Nat.reduceSub, ↓reduceIte, Int.reduceLT, Int.reduceLE, Int.reduceGT, Int.reduceGE, Nat.reduceLT, Nat.reduceGT, Int.reduceToNat, reduceCtorEq, Nat.reduceBEq, Int.reduceBEq, Int.reduceBNe, Int.reduceEq, Int.reduceNe, decide_true, decide_false])
      obtain ⟨e', he'⟩ : ∃ e' : Ent, e' = ⟨e.mode, e.trigger, e.index, (I.length : Int)⟩ := ⟨_, rfl⟩
      have hE' : cellsL ((E ++ [e']).map Ent.v) = cellsL (E.map Ent.v) ++ [I64 e.mode, I64 e.trigger, I64 e.index, I64 (I.length : Int)] := by rw [entC_snoc, he']
      refine i_loop (fun q : Nat × Option Nat => [(2, .ptr 0 0), (3, .ptr 1 0), (4, .ptr k 0), (5, entsV keysM), (6, I64 i), (8, I64 ((n - q.1 : Nat) : Int))]) (fun q => MH k t (mdB t q.1 (I, p2)).2 (strs mdS) (ints (mdP t)) (ints mdV) (mdB t q.1 (I, p2)).1 (E ++ [e']) q.2 (some (cc + 1 + 1)))
        (fun q c => MO k q.2 (some (cc + 1 + 1)) c ∧ q.1 ≤ n ∧ (q.2 = none → (mdB t q.1 (I, p2)).1 = [])) (fun q => n - q.1) (0, o1) (by simp [tmLe, tm, Tm.upd]) ?_ ?_ ?_
      · refine MH_sub (by repeat (first | exact MH_0 hO | rw [h_ne (by omega)] | rw [hd0])) h_same ?_ (fun j hj => ?_) (fun j hj => ?_)
        · rw [h_ne (by omega), h_same, List.length_append]; rfl
        · have := hO.a j hj
          rw [h_ne (by omega), h_ne (by omega), h_ne (by omega), hda _ j hj, h_ne (by omega), h_ne (by omega), h_ne (by omega), h_ne (by omega)]; exact MH_a hO hj
        · cases hj
          rw [h_ne (by omega), h_ne (by omega), h_same, hE']
      · exact ⟨⟨hk2, by omega, fun j hj => by have := hO.a j hj; omega, fun j hj => by cases hj; omega, fun j hj e => by cases e; have := hO.a _ hj; omega⟩, by simp, hn1⟩
      rintro ⟨j, oj⟩ cj ⟨hOj, hjn, hnj⟩
      simp only at hOj hjn hnj
      have hbl := mdB_len (l := t) (x := (I, p2)) j
      have hbp := mdB_pos (l := t) (x := (I, p2)) hp4 j
      simp only at hbl
      obtain ⟨Ij, hIj⟩ : ∃ x, x = (mdB t j (I, p2)).1 := ⟨_, rfl⟩
      obtain ⟨pj, hpj⟩ : ∃ x, x = (mdB t j (I, p2)).2 := ⟨_, rfl⟩
      simp only
      rw [← hIj, ← hpj]
      rw [← hIj] at hbl hnj
      rw [← hpj] at hbp
      have hDj := fun (p : Nat) => MH_k (l := t) (p := p) (S := strs mdS) (P := ints (mdP t)) (V := ints mdV) (I := Ij) (E := E ++ [e']) hOj
      have hltj := r_lentodo (o := oj) (n := Ij.length) (fun e => len_nil (hnj e))
      have hckj := hOj.kc
      by_cases hj0 : j < n
      · have hgj : decide (((n - j : Nat) : Int) > 0) = true := by simp; omega
        have hwj : IntKind.i64.wrap (((n - j : Nat) : Int) - 1) = ((n - (j + 1) : Nat) : Int) := by rw [w64 (by omega) (by omega)]; omega
        have f0 := MH_n (l := t) (p := pj) (S := strs mdS) (P := ints (mdP t)) (V := ints mdV) (I := Ij) (E := E ++ [e']) hOj (j := cj) (by omega)
        have f1 := MH_n (l := t) (p := pj) (S := strs mdS) (P := ints (mdP t)) (V := ints mdV) (I := Ij) (E := E ++ [e']) hOj (j := cj + 1) (by omega)
        have ne0 : ¬ 0 = k := by omega
        have ne1 : ¬ 0 = cj := by omega
        have ne2 : ¬ 0 = cj + 1 := by omega
        have ne3 : ¬ 1 = k := by omega
        have ne4 : ¬ 1 = cj := by omega
        have ne5 : ¬ 1 = cj + 1 := by omega
        have ne6 : ¬ k = 0 := by omega
        have ne7 : ¬ k = 1 := by omega
        have ne8 : ¬ k = cj := by omega
        have ne9 : ¬ k = cj + 1 := by omega
        have ne10 : ¬ cj = 0 := by omega
        have ne11 : ¬ cj = 1 := by omega
        have ne12 : ¬ cj = k := by omega
        have ne13 : ¬ cj = cj + 1 := by omega
        have ne14 : ¬ cj + 1 = 0 := by omega
        have ne15 : ¬ cj + 1 = 1 := by omega
        have ne16 : ¬ cj + 1 = k := by omega
        have ne17 : ¬ cj + 1 = cj := by omega
        repeat' ((first | (with_reducible first | refine wr ?_ | refine i_ret ?_ | refine i_skip ?_ | refine i_exit ?_) | ((with_reducible first | refine k_cb ?_ ?_ | refine k_gb ?_ ?_ | refine k_gb' ?_ ?_) <;> (intro hb; try simp only [hb]))) <;> try simp only [go_sem, Nat.reduceAdd, Nat.reduceLeDiff, Nat.reduceEqDiff, Nat.reduceMul, Nat.reduceSub, ↓reduceIte, Int.reduceLT, Int.reduceLE, Int.reduceGT, Int.reduceGE, Nat.reduceLT, Nat.reduceGT, Int.reduceToNat, reduceCtorEq, Nat.reduceBEq, Int.reduceBEq, Int.reduceBNe, Int.reduceEq, Int.reduceNe, decide_true, decide_false, hgj, hDj, hltj, ne0, ne1, ne2, ne3, ne4, ne5, ne6, ne7, ne8, ne9, ne10, ne11, ne12, ne13, ne14, ne15, ne16, ne17])
        refine AC.call (c_stmt t (by omega) 2 (by omega) Ij.length pj (by omega) hbp _ _ 1 (MH_1 hOj) (by omega)) ?_
        rintro v H' c5 ⟨id, ia, ib, rfl, rfl⟩ hc5
        have hsl := stmtM_len t 2 Ij.length pj
        have hs1 : 1 ≤ (stmtM t 2 Ij.length pj).1.length := stmtM_ne
        have ne0 : ¬ 0 = k := by omega
        have ne1 : ¬ 0 = cj := by omega
        have ne2 : ¬ 0 = cj + 1 := by omega
        have ne3 : ¬ 0 = id := by omega
        have ne4 : ¬ 0 = c5 := by omega
        have ne5 : ¬ 1 = k := by omega
        have ne6 : ¬ 1 = cj := by omega
        have ne7 : ¬ 1 = cj + 1 := by omega
        have ne8 : ¬ 1 = id := by omega
        have ne9 : ¬ 1 = c5 := by omega
        have ne10 : ¬ k = 0 := by omega
        have ne11 : ¬ k = 1 := by omega
        have ne12 : ¬ k = cj := by omega
        have ne13 : ¬ k = cj + 1 := by omega
        have ne14 : ¬ k = id := by omega
        have ne15 : ¬ k = c5 := by omega
        have ne16 : ¬ cj = 0 := by omega
        have ne17 : ¬ cj = 1 := by omega
        have ne18 : ¬ cj = k := by omega
        have ne19 : ¬ cj = cj + 1 := by omega
        have ne20 : ¬ cj = id := by omega
        have ne21 : ¬ cj = c5 := by omega
        have ne22 : ¬ cj + 1 = 0 := by omega
        have ne23 : ¬ cj + 1 = 1 := by omega
        have ne24 : ¬ cj + 1 = k := by omega
        have ne25 : ¬ cj + 1 = cj := by omega
        have ne26 : ¬ cj + 1 = id := by omega
        have ne27 : ¬ cj + 1 = c5 := by omega
        have ne28 : ¬ id = 0 := by omega
        have ne29 : ¬ id = 1 := by omega
        have ne30 : ¬ id = k := by omega
        have ne31 : ¬ id = cj := by omega
        have ne32 : ¬ id = cj + 1 := by omega
        have ne33 : ¬ id = c5 := by omega
        have ne34 : ¬ c5 = 0 := by omega
        have ne35 : ¬ c5 = 1 := by omega
        have ne36 : ¬ c5 = k := by omega
        have ne37 : ¬ c5 = cj := by omega
        have ne38 : ¬ c5 = cj + 1 := by omega
        have ne39 : ¬ c5 = id := by omega
        have hl2 := insC_len2 (stmtM t 2 Ij.length pj).1
        have hle2 : (stmtM t 2 Ij.length pj).1.length * 2 ≤ (insC (stmtM t 2 Ij.length pj).1).length := by omega
        have htk := List.take_of_length_le (l := insC (stmtM t 2 Ij.length pj).1) (i := (stmtM t 2 Ij.length pj).1.length * 2) (by omega)
        have hdkj : ∀ X, delO X oj k = X k := fun X => delO_ne (fun i hi e => by have := hOj.a i hi; omega)
        simp only [go_sem, Nat.reduceAdd, Nat.reduceLeDiff, Nat.reduceEqDiff, Nat.reduceMul, Nat.reduceSub, ↓reduceIte, Int.reduceLT, Int.reduceLE, Int.reduceGT, Int.reduceGE, Nat.reduceLT, Nat.reduceGT, Int.reduceToNat, reduceCtorEq, Nat.reduceBEq, Int.reduceBEq, Int.reduceBNe, Int.reduceEq, Int.reduceNe, decide_true, decide_false, f0, f1, hDj, hltj, hle2, htk, ne0, ne1, ne2, ne3, ne4, ne5, ne6, ne7, ne8, ne9, ne10, ne11, ne12, ne13, ne14, ne15, ne16, ne17, ne18, ne19, ne20, ne21, ne22, ne23, ne24, ne25, ne26, ne27, ne28, ne29, ne30, ne31, ne32, ne33, ne34, ne35, ne36, ne37, ne38, ne39]
        repeat' ((first | (with_reducible first | refine wr ?_ | refine i_ret ?_ | refine i_skip ?_ | refine i_exit ?_) | ((with_reducible first | refine k_cb ?_ ?_ | refine k_gb ?_ ?_ | refine k_gb' ?_ ?_) <;> (intro hb; try simp only [hb]))) <;> try simp only [go_sem, Nat.reduceAdd, Nat.reduceLeDiff, Nat.reduceEqDiff, Nat.reduceMul, Nat.reduceSub, ↓reduceIte, Int.reduceLT, Int.reduceLE, Int.reduceGT, Int.reduceGE, Nat.reduceLT, Nat.reduceGT, Int.reduceToNat, reduceCtorEq, Nat.reduceBEq, Int.reduceBEq, Int.reduceBNe, Int.reduceEq, Int.reduceNe, decide_true, decide_false, f0, f1, hDj, hltj, hle2, htk, ne0, ne1, ne2, ne3, ne4, ne5, ne6, ne7, ne8, ne9, ne10, ne11, ne12, ne13, ne14, ne15, ne16, ne17, ne18, ne19, ne20, ne21, ne22, ne23, ne24, ne25, ne26, ne27, ne28, ne29, ne30, ne31, ne32, ne33, ne34, ne35, ne36, ne37, ne38, ne39])
        refine x_eval (r_apptodo (cs := insC Ij) (fun e => ⟨len_nil (hnj e), insC_nil (hnj e)⟩) (fun i hi => ?_) (insC_len2 Ij) (by omega) (by omega) (by omega)) ?_
        · have := hOj.a i hi
          rw [h_ne (by omega), h_ne (by omega)]; exact MH_a hOj hi
        simp only [go_sem, Nat.reduceAdd, Nat.reduceLeDiff, Nat.reduceEqDiff, Nat.reduceMul, Nat.reduceSub, ↓reduceIte, Int.reduceLT, Int.reduceLE, Int.reduceGT, Int.reduceGE, Nat.reduceLT, Nat.reduceGT, Int.reduceToNat, reduceCtorEq, Nat.reduceBEq, Int.reduceBEq, Int.reduceBNe, Int.reduceEq, Int.reduceNe, decide_true, decide_false, hdkj, hDj, ne0, ne1, ne2, ne3, ne4, ne5, ne6, ne7, ne8, ne9, ne10, ne11, ne12, ne13, ne14, ne15, ne16, ne17, ne18, ne19, ne20, ne21, ne22, ne23, ne24, ne25, ne26, ne27, ne28, ne29, ne30, ne31, ne32, ne33, ne34, ne35, ne36, ne37, ne38, ne39]
        repeat' ((first | (with_reducible first | refine wr ?_ | refine i_ret ?_ | refine i_skip ?_ | refine i_exit ?_) | ((with_reducible first | refine k_cb ?_ ?_ | refine k_gb ?_ ?_ | refine k_gb' ?_ ?_) <;> (intro hb; try simp only [hb]))) <;> try simp only [go_sem, Nat.reduceAdd, Nat.reduceLeDiff, Nat.reduceEqDiff, Nat.reduceMul, Nat.reduceSub, ↓reduceIte, Int.reduceLT, Int.reduceLE, Int.reduceGT, Int.reduceGE, Nat.reduceLT, Nat.reduceGT, Int.reduceToNat, reduceCtorEq, Nat.reduceBEq, Int.reduceBEq, Int.reduceBNe, Int.reduceEq, Int.reduceNe, decide_true, decide_false, hdkj, hDj, hwj, ne0, ne1, ne2, ne3, ne4, ne5, ne6, ne7, ne8, ne9, ne10, ne11, ne12, ne13, ne14, ne15, ne16, ne17, ne18, ne19, ne20, ne21, ne22, ne23, ne24, ne25, ne26, ne27, ne28, ne29, ne30, ne31, ne32, ne33, ne34, ne35, ne36, ne37, ne38, ne39])
        have hOb := hOj.b _ rfl
        have hd0j : ∀ X, delO X oj 0 = X 0 := fun X => delO_ne (fun i hi e => by have := hOj.a i hi; omega)
        have hd1j : ∀ X, delO X oj 1 = X 1 := fun X => delO_ne (fun i hi e => by have := hOj.a i hi; omega)
        have hdej : ∀ X, delO X oj (cc + 1 + 1) = X (cc + 1 + 1) := fun X => delO_ne (fun i hi e => hOj.ne i hi (by rw [← e]))
        have m1 : (mdB t (j + 1) (I, p2)).1 = Ij ++ (stmtM t 2 Ij.length pj).1 := by simp only [mdB]; rw [← hIj, ← hpj]
        have m2 : (mdB t (j + 1) (I, p2)).2 = (stmtM t 2 Ij.length pj).2 := by simp only [mdB]; rw [← hIj, ← hpj]
        refine ⟨(j + 1, some c5), rfl, ?_, inv ⟨⟨hk2, by omega, fun i hi => by cases hi; omega, fun i hi => by cases hi; omega, fun i hi e => by cases hi; cases e; omega⟩, hj0, by simp⟩, by simp only; omega⟩
        simp only [m1, m2]
        refine MH_sub ?_ ?_ ?_ (fun i hi => ?_) (fun i hi => ?_)
        · rw [h_ne (by omega), h_ne (by omega), hd0j, h_ne (by omega), h_ne (by omega)]; exact MH_0 hOj
        · rw [h_ne (by omega), h_ne (by omega), hd1j, h_ne (by omega), h_same]
        · rw [h_same]; simp only [todo_s, List.length_append, List.length_singleton]
        · cases hi; rw [h_ne (by omega), h_same, insC_app]
        · cases hi; rw [h_ne (by omega), h_ne (by omega), hdej, h_ne (by omega), h_ne (by omega)]; exact MH_b rfl
      · have hjn2 : j = n := by omega
        have hgj : decide (((n - j : Nat) : Int) > 0) = false := by simp; omega
        have hdkj : ∀ X, delO X oj k = X k := fun X => delO_ne (fun i hi e => by have := hOj.a i hi; omega)
        have ne0 : ¬ 0 = k := by omega
        have ne1 : ¬ 0 = cj := by omega
        have ne2 : ¬ 0 = cj + 1 := by omega
        have ne3 : ¬ 1 = k := by omega
        have ne4 : ¬ 1 = cj := by omega
        have ne5 : ¬ 1 = cj + 1 := by omega
        have ne6 : ¬ k = 0 := by omega
        have ne7 : ¬ k = 1 := by omega
        have ne8 : ¬ k = cj := by omega
        have ne9 : ¬ k = cj + 1 := by omega
        have ne10 : ¬ cj = 0 := by omega
        have ne11 : ¬ cj = 1 := by omega
        have ne12 : ¬ cj = k := by omega
        have ne13 : ¬ cj = cj + 1 := by omega
        have ne14 : ¬ cj + 1 = 0 := by omega
        have ne15 : ¬ cj + 1 = 1 := by omega
        have ne16 : ¬ cj + 1 = k := by omega
        have ne17 : ¬ cj + 1 = cj := by omega
        repeat' ((first | (with_reducible first | refine wr ?_ | refine i_ret ?_ | refine i_skip ?_ | refine i_exit ?_) | ((with_reducible first | refine k_cb ?_ ?_ | refine k_gb ?_ ?_ | refine k_gb' ?_ ?_) <;> (intro hb; try simp only [hb]))) <;> try simp only [go_sem, Nat.reduceAdd, Nat.reduceLeDiff, Nat.reduceEqDiff, Nat.reduceMul, Nat.reduceSub, ↓reduceIte, Int.reduceLT, Int.reduceLE, Int.reduceGT, Int.reduceGE, Nat.reduceLT, Nat.reduceGT, Int.reduceToNat, reduceCtorEq, Nat.reduceBEq, Int.reduceBEq, Int.reduceBNe, Int.reduceEq, Int.reduceNe, decide_true, decide_false, hgj, hDj, ne0, ne1, ne2, ne3, ne4, ne5, ne6, ne7, ne8, ne9, ne10, ne11, ne12, ne13, ne14, ne15, ne16, ne17])
        refine k_eval (r_apptodo (cs := insC Ij) (fun e => ⟨len_nil (hnj e), insC_nil (hnj e)⟩) (fun i hi => ?_) (insC_len2 Ij) (by omega) (by omega) (by omega)) ?_
        · have := hOj.a i hi
          rw [h_ne (by omega)]; exact MH_a hOj hi
        simp only [go_sem, Nat.reduceAdd, Nat.reduceLeDiff, Nat.reduceEqDiff, Nat.reduceMul, Nat.reduceSub, ↓reduceIte, Int.reduceLT, Int.reduceLE, Int.reduceGT, Int.reduceGE, Nat.reduceLT, Nat.reduceGT, Int.reduceToNat, reduceCtorEq, Nat.reduceBEq, Int.reduceBEq, Int.reduceBNe, Int.reduceEq, Int.reduceNe, decide_true, decide_false, hdkj, hDj, ne0, ne1, ne2, ne3, ne4, ne5, ne6, ne7, ne8, ne9, ne10, ne11, ne12, ne13, ne14, ne15, ne16, ne17]
        repeat' ((first | (with_reducible first | refine wr ?_ | refine i_ret ?_ | refine i_skip ?_ | refine i_exit ?_) | ((with_reducible first | refine k_cb ?_ ?_ | refine k_gb ?_ ?_ | refine k_gb' ?_ ?_) <;> (intro hb; try simp only [hb]))) <;> try simp only [go_sem, Nat.reduceAdd, Nat.reduceLeDiff, Nat.reduceEqDiff, Nat.reduceMul, Nat.reduceSub, ↓reduceIte, Int.reduceLT, Int.reduceLE, Int.reduceGT, Int.reduceGE, Nat.reduceLT, Nat.reduceGT, Int.reduceToNat, reduceCtorEq, Nat.reduceBEq, Int.reduceBEq, Int.reduceBNe, Int.reduceEq, Int.reduceNe, decide_true, decide_false, hdkj, hDj, hw, ne0, ne1, ne2, ne3, ne4, ne5, ne6, ne7, ne8, ne9, ne10, ne11, ne12, ne13, ne14, ne15, ne16, ne17])
        have hOb := hOj.b _ rfl
        have hd0j : ∀ X, delO X oj 0 = X 0 := fun X => delO_ne (fun i hi e => by have := hOj.a i hi; omega)
        have hd1j : ∀ X, delO X oj 1 = X 1 := fun X => delO_ne (fun i hi e => by have := hOj.a i hi; omega)
        have hdej : ∀ X, delO X oj (cc + 1 + 1) = X (cc + 1 + 1) := fun X => delO_ne (fun i hi e => hOj.ne i hi (by rw [← e]))
        have M1 : (mdK t (i + 1)).I = Ij ++ [⟨31, 0⟩] := by rw [hmd2]; simp only [mdH]; rw [← hn, ← hp2, ← hjn2, ← hIj]
        have M2 : (mdK t (i + 1)).E = E ++ [e'] := by rw [hmd2, he']; rfl
        have M3 : (mdK t (i + 1)).p = pj := by rw [hmd2]; simp only [mdH]; rw [← hn, ← hp2, ← hjn2, ← hpj]
        refine ⟨(i + 1, some (cj + 1), some (cc + 1 + 1)), rfl, ?_, inv ⟨⟨hk2, by omega, fun i hi => by cases hi; omega, fun i hi => by cases hi; omega, fun i hi e => by cases hi; cases e; omega⟩, hlt, by simp, by simp, by simp⟩, by simp only; omega⟩
        simp only [M1, M2, M3]
        refine MH_sub ?_ ?_ ?_ (fun i hi => ?_) (fun i hi => ?_)
        · rw [h_ne (by omega), h_ne (by omega), hd0j, h_ne (by omega)]; exact MH_0 hOj
        · rw [h_ne (by omega), h_ne (by omega), hd1j, h_ne (by omega)]; exact MH_1 hOj
        · rw [h_same]; simp only [todo_s, List.length_append, List.length_singleton]
        · cases hi; rw [h_ne (by omega), h_same, insC_app, insC_one]
        · cases hi; rw [h_ne (by omega), h_ne (by omega), hdej, h_ne (by omega)]; exact MH_b rfl
    · have hgt : decide ((i : Int) > 0) = true := by simp; omega
      repeat' ((first | (with_reducible first | refine wr ?_ | refine i_ret ?_ | refine i_skip ?_ | refine i_exit ?_) | ((with_reducible first | refine k_cb ?_ ?_ | refine k_gb ?_ ?_ | refine k_gb' ?_ ?_) <;> (intro hb; try simp only [hb]))) <;> try simp only [go_sem, Nat.reduceAdd, Nat.reduceLeDiff, Nat.reduceEqDiff, Nat.reduceMul, Nat.reduceSub, ↓reduceIte, Int.reduceLT, Int.reduceLE, Int.reduceGT, Int.reduceGE, Nat.reduceLT, Nat.reduceGT, Int.reduceToNat, reduceCtorEq, Nat.reduceBEq, Int.reduceBEq, Int.reduceBNe, Int.reduceEq, Int.reduceNe, decide_true, decide_false, hkl, hd, hgt])
      refine AC.call (c_next t (by omega) p B1 2 (by omega) (by omega) _ _ 1 (MH_1 hO) (by have := hO.kc; have := hO.k2; omega)) ?_
      rintro v H' c3 ⟨rfl, rfl⟩ hc3
      rw [MH_t hO]
      replace hO := hO.mono hc3
      by_cases hz : (nextM t p 2).1 = 0
      · have hz1 : (((nextM t p 2).1 : Int) == 0) = true := by simp [hz]
        have hmd2 : mdK t (i + 1) = ⟨I, E, (nextM t p 2).2⟩ := by rw [hmd, mdI, if_neg hi0, if_pos hz]
        simp only [go_sem, Nat.reduceAdd, Nat.reduceLeDiff, Nat.reduceEqDiff, Nat.reduceMul, Nat.reduceSub, ↓reduceIte, Int.reduceLT, Int.reduceLE, Int.reduceGT, Int.reduceGE, Nat.reduceLT, Nat.reduceGT, Int.reduceToNat, reduceCtorEq, Nat.reduceBEq, Int.reduceBEq, Int.reduceBNe, Int.reduceEq, Int.reduceNe, decide_true, decide_false, hz1]
        repeat' ((first | (with_reducible first | refine wr ?_ | refine i_ret ?_ | refine i_skip ?_ | refine i_exit ?_) | ((with_reducible first | refine k_cb ?_ ?_ | refine k_gb ?_ ?_ | refine k_gb' ?_ ?_) <;> (intro hb; try simp only [hb]))) <;> try simp only [go_sem, Nat.reduceAdd, Nat.reduceLeDiff, Nat.reduceEqDiff, Nat.reduceMul, Nat.reduceSub, ↓reduceIte, Int.reduceLT, Int.reduceLE, Int.reduceGT, Int.reduceGE, Nat.reduceLT, Nat.reduceGT, Int.reduceToNat, reduceCtorEq, Nat.reduceBEq, Int.reduceBEq, Int.reduceBNe, Int.reduceEq, Int.reduceNe, decide_true, decide_false, hz1, hw])
        refine ⟨(i + 1, o1, o2), rfl, ?_, inv ⟨hO, hlt, ?_, ?_, fun _ => hne hi0⟩, by simp only; omega⟩
        · simp only [hmd2]; exact Sub.refl _
        · simp only [hmd2]; exact hn1
        · simp only [hmd2]; exact hn2
      · have hz1 : (((nextM t p 2).1 : Int) == 0) = false := by simp [hz]
        obtain ⟨pp, hpp⟩ : ∃ pp, pp = (nextM t p 2).2 := ⟨_, rfl⟩
        have hmd2 : mdK t (i + 1) = mdH t e ⟨I, E, p⟩ pp := by rw [hmd, mdI, if_neg hi0, if_neg hz, hpp]
        have Hpp : pp ≤ t.length := by rw [hpp]; exact nextM_le B1
        rw [← hpp]
        have hlt1 := r_lentodo (o := o1) (n := I.length) (fun e => len_nil (hn1 e))
        have hD := fun (p : Nat) => MH_k (l := t) (p := p) (S := strs mdS) (P := ints (mdP t)) (V := ints mdV) (I := I) (E := E) hO
        have hcc := hO.kc
        have hk2 := hO.k2
        have hdk : ∀ X, delO X o2 k = X k := fun X => delO_ne (fun i hi e => by have := hO.b i hi; omega)
        have hd1 : ∀ X, delO X o2 1 = X 1 := fun X => delO_ne (fun i hi e => by have := hO.b i hi; omega)
        have hd0 : ∀ X, delO X o2 0 = X 0 := fun X => delO_ne (fun i hi e => by have := hO.b i hi; omega)
        have hda : ∀ X j, o1 = some j → delO X o2 j = X j := fun X j hj => delO_ne (fun i hi e => hO.ne j hj (by rw [e]; exact hi))
        have ne0 : ¬ 0 = k := by omega
        have ne1 : ¬ 0 = c3 := by omega
        have ne2 : ¬ 0 = c3 + 1 := by omega
        have ne3 : ¬ 0 = c3 + 2 := by omega
        have ne4 : ¬ 1 = k := by omega
        have ne5 : ¬ 1 = c3 := by omega
        have ne6 : ¬ 1 = c3 + 1 := by omega
        have ne7 : ¬ 1 = c3 + 2 := by omega
        have ne8 : ¬ k = 0 := by omega
        have ne9 : ¬ k = 1 := by omega
        have ne10 : ¬ k = c3 := by omega
        have ne11 : ¬ k = c3 + 1 := by omega
        have ne12 : ¬ k = c3 + 2 := by omega
        have ne13 : ¬ c3 = 0 := by omega
        have ne14 : ¬ c3 = 1 := by omega
        have ne15 : ¬ c3 = k := by omega
        have ne16 : ¬ c3 = c3 + 1 := by omega
        have ne17 : ¬ c3 = c3 + 2 := by omega
        have ne18 : ¬ c3 + 1 = 0 := by omega
        have ne19 : ¬ c3 + 1 = 1 := by omega
        have ne20 : ¬ c3 + 1 = k := by omega
        have ne21 : ¬ c3 + 1 = c3 := by omega
        have ne22 : ¬ c3 + 1 = c3 + 2 := by omega
        have ne23 : ¬ c3 + 2 = 0 := by omega
        have ne24 : ¬ c3 + 2 = 1 := by omega
        have ne25 : ¬ c3 + 2 = k := by omega
        have ne26 : ¬ c3 + 2 = c3 := by omega
        have ne27 : ¬ c3 + 2 = c3 + 1 := by omega
        simp only [go_sem, Nat.reduceAdd, Nat.reduceLeDiff, Nat.reduceEqDiff, Nat.reduceMul, Nat.reduceSub, ↓reduceIte, Int.reduceLT, Int.reduceLE, Int.reduceGT, Int.reduceGE, Nat.reduceLT, Nat.reduceGT, Int.reduceToNat, reduceCtorEq, Nat.reduceBEq, Int.reduceBEq, Int.reduceBNe, Int.reduceEq, Int.reduceNe, decide_true, decide_false, hz1, hkl, hg, hlt1, hD, ne0, ne1, ne2, ne3, ne4, ne5, ne6, ne7, ne8, ne9, ne10, ne11, ne12, ne13, ne14, ne15, ne16, ne17, ne18, ne19, ne20, ne21, ne22, ne23, ne24, ne25, ne26, ne27]
        repeat' ((first | (with_reducible first | refine wr ?_ | refine i_ret ?_ | refine i_skip ?_ | refine i_exit ?_) | ((with_reducible first | refine k_cb ?_ ?_ | refine k_gb ?_ ?_ | refine k_gb' ?_ ?_) <;> (intro hb; try simp only [hb]))) <;> try simp only [go_sem, Nat.reduceAdd, Nat.reduceLeDiff, Nat.reduceEqDiff, Nat.reduceMul, Nat.reduceSub, ↓reduceIte, Int.reduceLT, Int.reduceLE, Int.reduceGT, Int.reduceGE, Nat.reduceLT, Nat.reduceGT, Int.reduceToNat, reduceCtorEq, Nat.reduceBEq, Int.reduceBEq, Int.reduceBNe, Int.reduceEq, Int.reduceNe, decide_true, decide_false, hz1, hkl, hd, hg, hlt1, hD, ne0, ne1, ne2, ne3, ne4, ne5, ne6, ne7, ne8, ne9, ne10, ne11, ne12, ne13, ne14, ne15, ne16, ne17, ne18, ne19, ne20, ne21, ne22, ne23, ne24, ne25, ne26, ne27])
        refine k_eval (r_apptodo (cs := cellsL (E.map Ent.v)) (fun e => ⟨len_nil (hn2 e), entC_nil (hn2 e)⟩) (fun i hi => ?_) (entC_len' E) (by omega) (by omega) (by omega)) ?_
        · have := hO.b i hi
          rw [h_ne (by omega), h_ne (by omega), h_ne (by omega), h_ne (by omega)]; exact MH_b hi
        simp only [go_sem, Nat.reduceAdd, Nat.reduceLeDiff, Nat.reduceEqDiff, Nat.reduceMul, Nat.reduceSub, ↓reduceIte, Int.reduceLT, Int.reduceLE, Int.reduceGT, Int.reduceGE, Nat.reduceLT, Nat.reduceGT, Int.reduceToNat, reduceCtorEq, Nat.reduceBEq, Int.reduceBEq, Int.reduceBNe, Int.reduceEq, Int.reduceNe, decide_true, decide_false, hdk, hD, ne0, ne1, ne2, ne3, ne4, ne5, ne6, ne7, ne8, ne9, ne10, ne11, ne12, ne13, ne14, ne15, ne16, ne17, ne18, ne19, ne20, ne21, ne22, ne23, ne24, ne25, ne26, ne27]
        repeat' ((first | (with_reducible first | refine wr ?_ | refine i_ret ?_ | refine i_skip ?_ | refine i_exit ?_) | ((with_reducible first | refine k_cb ?_ ?_ | refine k_gb ?_ ?_ | refine k_gb' ?_ ?_) <;> (intro hb; try simp only [hb]))) <;> try simp only [go_sem, Nat.reduceAdd, Nat.reduceLeDiff, Nat.reduceEqDiff, Nat.reduceMul, Nat.reduceSub, ↓reduceIte, Int.reduceLT, Int.reduceLE, Int.reduceGT, Int.reduceGE, Nat.reduceLT, Nat.reduceGT, Int.reduceToNat, reduceCtorEq, Nat.reduceBEq, Int.reduceBEq, Int.reduceBNe, Int.reduceEq, Int.reduceNe, decide_true, decide_false, hdk, hD, ne0, ne1, ne2, ne3, ne4, ne5, ne6, ne7, ne8, ne9, ne10, ne11, ne12, ne13, ne14, ne15, ne16, ne17, ne18, ne19, ne20, ne21, ne22, ne23, ne24, ne25, ne26, ne27])
        refine AC.call (c_next t (by omega) pp Hpp 4 (by omega) (by omega) _ _ 1 (by repeat (first | exact MH_1 hO | rw [h_ne (by omega)] | rw [hd1])) (by omega)) ?_
        rintro v H' c4 ⟨rfl, rfl⟩ hc4
        have hq4 := nextM_lt (l := t) (p := pp) (n := 4) (by omega)
        have hp4 := nextM_le (l := t) (p := pp) (n := 4) Hpp
        obtain ⟨n, hn⟩ : ∃ n, n = (nextM t pp 4).1 := ⟨_, rfl⟩
        obtain ⟨p2, hp2⟩ : ∃ p2, p2 = (nextM t pp 4).2 := ⟨_, rfl⟩
        rw [← hn, ← hp2]
        rw [← hn] at hq4
        rw [← hp2] at hp4
        simp only [go_sem, Nat.reduceAdd, Nat.reduceLeDiff, Nat.reduceEqDiff, Nat.reduceMul, Nat.reduceSub, ↓reduceIte, Int.reduceLT, Int.reduceLE, Int.reduceGT, Int.reduceGE, Nat.reduceLT, Nat.reduceGT, Int.reduceToNat, reduceCtorEq, Nat.reduceBEq, Int.reduceBEq, Int.reduceBNe, Int.reduceEq, Int.reduceNe, decide_true, decide_false]
        repeat' ((first | (with_reducible first | refine wr ?_ | refine i_ret ?_ | refine i_skip ?_ | refine i_exit ?_) | ((with_reducible first | refine k_cb ?_ ?_ | refine k_gb ?_ ?_ | refine k_gb' ?_ ?_) <;> (intro hb; try simp only [hb]))) <;> try simp only [go_sem, Nat.reduceAdd, Nat.reduceLeDiff, Nat.reduceEqDiff, Nat.reduceMul, Nat.reduceSub, ↓reduceIte, Int.reduceLT, Int.reduceLE, Int.reduceGT, Int.reduceGE, Nat.reduceLT, Nat.reduceGT, Int.reduceToNat, reduceCtorEq, Nat.reduceBEq, Int.reduceBEq, Int.reduceBNe, Int.reduceEq, Int.reduceNe, decide_true, decide_false])
        obtain ⟨e', he'⟩ : ∃ e' : Ent, e' = ⟨e.mode, e.trigger, e.index, (I.length : Int)⟩ := ⟨_, rfl⟩
        have hE' : cellsL ((E ++ [e']).map Ent.v) = cellsL (E.map Ent.v) ++ [I64 e.mode, I64 e.trigger, I64 e.index, I64 (I.length : Int)] := by rw [entC_snoc, he']
        refine i_loop (fun q : Nat × Option Nat => [(2, .ptr 0 0), (3, .ptr 1 0), (4, .ptr k 0), (5, entsV keysM), (6, I64 i), (8, I64 ((n - q.1 : Nat) : Int))]) (fun q => MH k t (mdB t q.1 (I, p2)).2 (strs mdS) (ints (mdP t)) (ints mdV) (mdB t q.1 (I, p2)).1 (E ++ [e']) q.2 (some (c3 + 1 + 1)))
          (fun q c => MO k q.2 (some (c3 + 1 + 1)) c ∧ q.1 ≤ n ∧ (q.2 = none → (mdB t q.1 (I, p2)).1 = [])) (fun q => n - q.1) (0, o1) (by simp [tmLe, tm, Tm.upd]) ?_ ?_ ?_
        · refine MH_sub (by repeat (first | exact MH_0 hO | rw [h_ne (by omega)] | rw [hd0])) h_same ?_ (fun j hj => ?_) (fun j hj => ?_)
          · rw [h_ne (by omega), h_same, List.length_append]; rfl
          · have := hO.a j hj
            rw [h_ne (by omega), h_ne (by omega), h_ne (by omega), hda _ j hj, h_ne (by omega), h_ne (by omega), h_ne (by omega), h_ne (by omega)]; exact MH_a hO hj
          · cases hj
            rw [h_ne (by omega), h_ne (by omega), h_same, hE']
        · exact ⟨⟨hk2, by omega, fun j hj => by have := hO.a j hj; omega, fun j hj => by cases hj; omega, fun j hj e => by cases e; have := hO.a _ hj; omega⟩, by simp, hn1⟩
        rintro ⟨j, oj⟩ cj ⟨hOj, hjn, hnj⟩
        simp only at hOj hjn hnj
        have hbl := mdB_len (l := t) (x := (I, p2)) j
        have hbp := mdB_pos (l := t) (x := (I, p2)) hp4 j
        simp only at hbl
        obtain ⟨Ij, hIj⟩ : ∃ x, x = (mdB t j (I, p2)).1 := ⟨_, rfl⟩
        obtain ⟨pj, hpj⟩ : ∃ x, x = (mdB t j (I, p2)).2 := ⟨_, rfl⟩
        simp only
        rw [← hIj, ← hpj]
        rw [← hIj] at hbl hnj
        rw [← hpj] at hbp
        have hDj := fun (p : Nat) => MH_k (l := t) (p := p) (S := strs mdS) (P := ints (mdP t)) (V := ints mdV) (I := Ij) (E := E ++ [e']) hOj
        have hltj := r_lentodo (o := oj) (n := Ij.length) (fun e => len_nil (hnj e))
        have hckj := hOj.kc
        by_cases hj0 : j < n
        · have hgj : decide (((n - j : Nat) : Int) > 0) = true := by simp; omega
          have hwj : IntKind.i64.wrap (((n - j : Nat) : Int) - 1) = ((n - (j + 1) : Nat) : Int) := by rw [w64 (by omega) (by omega)]; omega
          have f0 := MH_n (l := t) (p := pj) (S := strs mdS) (P := ints (mdP t)) (V := ints mdV) (I := Ij) (E := E ++ [e']) hOj (j := cj) (by omega)
          have f1 := MH_n (l := t) (p := pj) (S := strs mdS) (P := ints (mdP t)) (V := ints mdV) (I := Ij) (E := E ++ [e']) hOj (j := cj + 1) (by omega)
          have ne0 : ¬ 0 = k := by omega
          have ne1 : ¬ 0 = cj := by omega
          have ne2 : ¬ 0 = cj + 1 := by omega
          have ne3 : ¬ 1 = k := by omega
          have ne4 : ¬ 1 = cj := by omega
          have ne5 : ¬ 1 = cj + 1 := by omega
          have ne6 : ¬ k = 0 := by omega
          have ne7 : ¬ k = 1 := by omega
          have ne8 : ¬ k = cj := by omega
          have ne9 : ¬ k = cj + 1 := by omega
          have ne10 : ¬ cj = 0 := by omega
          have ne11 : ¬ cj = 1 := by omega
          have ne12 : ¬ cj = k := by omega
          have ne13 : ¬ cj = cj + 1 := by omega
          have ne14 : ¬ cj + 1 = 0 := by omega
          have ne15 : ¬ cj + 1 = 1 := by omega
          have ne16 : ¬ cj + 1 = k := by omega
          have ne17 : ¬ cj + 1 = cj := by omega
          repeat' ((first | (with_reducible first | refine wr ?_ | refine i_ret ?_ | refine i_skip ?_ | refine i_exit ?_) | ((with_reducible first | refine k_cb ?_ ?_ | refine k_gb ?_ ?_ | refine k_gb' ?_ ?_) <;> (intro hb; try simp only [hb]))) <;> try simp only [go_sem, Nat.reduceAdd, Nat.reduceLeDiff, Nat.reduceEqDiff, Nat.reduceMul, Nat.reduceSub, ↓reduceIte, Int.reduceLT, Int.reduceLE, Int.reduceGT, Int.reduceGE, Nat.reduceLT, Nat.reduceGT, Int.reduceToNat, reduceCtorEq, Nat.reduceBEq, Int.reduceBEq, Int.reduceBNe, Int.reduceEq, Int.reduceNe, decide_true, decide_false, hgj, hDj, hltj, ne0, ne1, ne2, ne3, ne4, ne5, ne6, ne7, ne8, ne9, ne10, ne11, ne12, ne13, ne14, ne15, ne16, ne17])
          refine AC.call (c_stmt t (by omega) 2 (by omega) Ij.length pj (by omega) hbp _ _ 1 (MH_1 hOj) (by omega)) ?_
          rintro v H' c5 ⟨id, ia, ib, rfl, rfl⟩ hc5
          have hsl := stmtM_len t 2 Ij.length pj
          have hs1 : 1 ≤ (stmtM t 2 Ij.length pj).1.length := stmtM_ne
          have ne0 : ¬ 0 = k := by omega
          have ne1 : ¬ 0 = cj := by omega
          have ne2 : ¬ 0 = cj + 1 := by omega
          have ne3 : ¬ 0 = id := by omega
          have ne4 : ¬ 0 = c5 := by omega
          have ne5 : ¬ 1 = k := by omega
          have ne6 : ¬ 1 = cj := by omega
          have ne7 : ¬ 1 = cj + 1 := by omega
          have ne8 : ¬ 1 = id := by omega
          have ne9 : ¬ 1 = c5 := by omega
          have ne10 : ¬ k = 0 := by omega
          have ne11 : ¬ k = 1 := by omega
          have ne12 : ¬ k = cj := by omega
          have ne13 : ¬ k = cj + 1 := by omega
          have ne14 : ¬ k = id := by omega
          have ne15 : ¬ k = c5 := by omega
          have ne16 : ¬ cj = 0 := by omega
          have ne17 : ¬ cj = 1 := by omega
          have ne18 : ¬ cj = k := by omega
          have ne19 : ¬ cj = cj + 1 := by omega
          have ne20 : ¬ cj = id := by omega
          have ne21 : ¬ cj = c5 := by omega
          have ne22 : ¬ cj + 1 = 0 := by omega
          have ne23 : ¬ cj + 1 = 1 := by omega
          have ne24 : ¬ cj + 1 = k := by omega
          have ne25 : ¬ cj + 1 = cj := by omega
          have ne26 : ¬ cj + 1 = id := by omega
          have ne27 : ¬ cj + 1 = c5 := by omega
          have ne28 : ¬ id = 0 := by omega
          have ne29 : ¬ id = 1 := by omega
          have ne30 : ¬ id = k := by omega
          have ne31 : ¬ id = cj := by omega
          have ne32 : ¬ id = cj + 1 := by omega
          have ne33 : ¬ id = c5 := by omega
          have ne34 : ¬ c5 = 0 := by omega
          have ne35 : ¬ c5 = 1 := by omega
          have ne36 : ¬ c5 = k := by omega
          have ne37 : ¬ c5 = cj := by omega
          have ne38 : ¬ c5 = cj + 1 := by omega
          have ne39 : ¬ c5 = id := by omega
          have hl2 := insC_len2 (stmtM t 2 Ij.length pj).1
          have hle2 : (stmtM t 2 Ij.length pj).1.length * 2 ≤ (insC (stmtM t 2 Ij.length pj).1).length := by omega
          have htk := List.take_of_length_le (l := insC (stmtM t 2 Ij.length pj).1) (i := (stmtM t 2 Ij.length pj).1.length * 2) (by omega)
          have hdkj : ∀ X, delO X oj k = X k := fun X => delO_ne (fun i hi e => by have := hOj.a i hi; omega)
          simp only [go_sem, Nat.reduceAdd, Nat.reduceLeDiff, Nat.reduceEqDiff, Nat.reduceMul, Nat.reduceSub, ↓reduceIte, Int.reduceLT, Int.reduceLE, Int.reduceGT, Int.reduceGE, Nat.reduceLT, Nat.reduceGT, Int.reduceToNat, reduceCtorEq, Nat.reduceBEq, Int.reduceBEq, Int.reduceBNe, Int.reduceEq, Int.reduceNe, decide_true, decide_false, f0, f1, hDj, hltj, hle2, htk, ne0, ne1, ne2, ne3, ne4, ne5, ne6, ne7, ne8, ne9, ne10, ne11, ne12, ne13, ne14, ne15, ne16, ne17, ne18, ne19, ne20, ne21, ne22, ne23, ne24, ne25, ne26, ne27, ne28, ne29, ne30, ne31, ne32, ne33, ne34, ne35, ne36, ne37, ne38, ne39]
          repeat' ((first | (with_reducible first | refine wr ?_ | refine i_ret ?_ | refine i_skip ?_ | refine i_exit ?_) | ((with_reducible first | refine k_cb ?_ ?_ | refine k_gb ?_ ?_ | refine k_gb' ?_ ?_) <;> (intro hb; try simp only [hb]))) <;> try simp only [go_sem, Nat.reduceAdd, Nat.reduceLeDiff, Nat.reduceEqDiff, Nat.reduceMul, Nat.reduceSub, ↓reduceIte, Int.reduceLT, Int.reduceLE, Int.reduceGT, Int.reduceGE, Nat.reduceLT, Nat.reduceGT, Int.reduceToNat, reduceCtorEq, Nat.reduceBEq, Int.reduceBEq, Int.reduceBNe, Int.reduceEq, Int.reduceNe, decide_true, decide_false, f0, f1, hDj, hltj, hle2, htk, ne0, ne1, ne2, ne3, ne4, ne5, ne6, ne7, ne8, ne9, ne10, ne11, ne12, ne13, ne14, ne15, ne16, ne17, ne18, ne19, ne20, ne21, ne22, ne23, ne24, ne25, ne26, ne27, ne28, ne29, ne30, ne31, ne32, ne33, ne34, ne35, ne36, ne37, ne38, ne39])
          refine x_eval (r_apptodo (cs := insC Ij) (fun e => ⟨len_nil (hnj e), insC_nil (hnj e)⟩) (fun i hi => ?_) (insC_len2 Ij) (by omega) (by omega) (by omega)) ?_
          · have := hOj.a i hi
            rw [h_ne (by omega), h_ne (by omega)]; exact MH_a hOj hi
          simp only [go_sem, Nat.reduceAdd, Nat.reduceLeDiff, Nat.reduceEqDiff, Nat.reduceMul, Nat.reduceSub, ↓reduceIte, Int.reduceLT, Int.reduceLE, Int.reduceGT, Int.reduceGE, Nat.reduceLT, Nat.reduceGT, Int.reduceToNat, reduceCtorEq, Nat.reduceBEq, Int.reduceBEq, Int.reduceBNe, Int.reduceEq, Int.reduceNe, decide_true, decide_false, hdkj, hDj, ne0, ne1, ne2, ne3, ne4, ne5, ne6, ne7, ne8, ne9, ne10, ne11, ne12, ne13, ne14, ne15, ne16, ne17, ne18, ne19, ne20, ne21, ne22, ne23, ne24, ne25, ne26, ne27, ne28, ne29, ne30, ne31, ne32, ne33, ne34, ne35, ne36, ne37, ne38, ne39]
          repeat' ((first | (with_reducible first | refine wr ?_ | refine i_ret ?_ | refine i_skip ?_ | refine i_exit ?_) | ((with_reducible first | refine k_cb ?_ ?_ | refine k_gb ?_ ?_ | refine k_gb' ?_ ?_) <;> (intro hb; try simp only [hb]))) <;> try simp only [go_sem, Nat.reduceAdd, Nat.reduceLeDiff, Nat.reduceEqDiff, Nat.reduceMul, Nat.reduceSub, ↓reduceIte, Int.reduceLT, Int.reduceLE, Int.reduceGT, Int.reduceGE, Nat.reduceLT, Nat.reduceGT, Int.reduceToNat, reduceCtorEq, Nat.reduceBEq, Int.reduceBEq, Int.reduceBNe, Int.reduceEq, Int.reduceNe, decide_true, decide_false, hdkj, hDj, hwj, ne0, ne1, ne2, ne3, ne4, ne5, ne6, ne7, ne8, ne9, ne10, ne11, ne12, ne13, ne14, ne15, ne16, ne17, ne18, ne19, ne20, ne21, ne22, ne23, ne24, ne25, ne26, ne27, ne28, ne29, ne30, ne31, ne32, ne33, ne34, ne35, ne36, ne37, ne38, ne39])
          have hOb := hOj.b _ rfl
          have hd0j : ∀ X, delO X oj 0 = X 0 := fun X => delO_ne (fun i hi e => by have := hOj.a i hi; omega)
          have hd1j : ∀ X, delO X oj 1 = X 1 := fun X => delO_ne (fun i hi e => by have := hOj.a i hi; omega)
          have hdej : ∀ X, delO X oj (c3 + 1 + 1) = X (c3 + 1 + 1) := fun X => delO_ne (fun i hi e => hOj.ne i hi (by rw [← e]))
          have m1 : (mdB t (j + 1) (I, p2)).1 = Ij ++ (stmtM t 2 Ij.length pj).1 := by simp only [mdB]; rw [← hIj, ← hpj]
          have m2 : (mdB t (j + 1) (I, p2)).2 = (stmtM t 2 Ij.length pj).2 := by simp only [mdB]; rw [← hIj, ← hpj]
          refine ⟨(j + 1, some c5), rfl, ?_, inv ⟨⟨hk2, by omega, fun i hi => by cases hi; omega, fun i hi => by cases hi; omega, fun i hi e => by cases hi; cases e; omega⟩, hj0, by simp⟩, by simp only; omega⟩
          simp only [m1, m2]
          refine MH_sub ?_ ?_ ?_ (fun i hi => ?_) (fun i hi => ?_)
          · rw [h_ne (by omega), h_ne (by omega), hd0j, h_ne (by omega), h_ne (by omega)]; exact MH_0 hOj
          · rw [h_ne (by omega), h_ne (by omega), hd1j, h_ne (by omega), h_same]
          · rw [h_same]; simp only [todo_s, List.length_append, List.length_singleton]
          · cases hi; rw [h_ne (by omega), h_same, insC_app]
          · cases hi; rw [h_ne (by omega), h_ne (by omega), hdej, h_ne (by omega), h_ne (by omega)]; exact MH_b rfl
        · have hjn2 : j = n := by omega
          have hgj : decide (((n - j : Nat) : Int) > 0) = false := by simp; omega
          have hdkj : ∀ X, delO X oj k = X k := fun X => delO_ne (fun i hi e => by have := hOj.a i hi; omega)
          have ne0 : ¬ 0 = k := by omega
          have ne1 : ¬ 0 = cj := by omega
          have ne2 : ¬ 0 = cj + 1 := by omega
          have ne3 : ¬ 1 = k := by omega
          have ne4 : ¬ 1 = cj := by omega
          have ne5 : ¬ 1 = cj + 1 := by omega
          have ne6 : ¬ k = 0 := by omega
          have ne7 : ¬ k = 1 := by omega
          have ne8 : ¬ k = cj := by omega
          have ne9 : ¬ k = cj + 1 := by omega
          have ne10 : ¬ cj = 0 := by omega
          have ne11 : ¬ cj = 1 := by omega
          have ne12 : ¬ cj = k := by omega
          have ne13 : ¬ cj = cj + 1 := by omega
          have ne14 : ¬ cj + 1 = 0 := by omega
          have ne15 : ¬ cj + 1 = 1 := by omega
          have ne16 : ¬ cj + 1 = k := by omega
          have ne17 : ¬ cj + 1 = cj := by omega
          repeat' ((first | (with_reducible first | refine wr ?_ | refine i_ret ?_ | refine i_skip ?_ | refine i_exit ?_) | ((with_reducible first | refine k_cb ?_ ?_ | refine k_gb ?_ ?_ | refine k_gb' ?_ ?_) <;> (intro hb; try simp only [hb]))) <;> try simp only [go_sem, Nat.reduceAdd, Nat.reduceLeDiff, Nat.reduceEqDiff, Nat.reduceMul, Nat.reduceSub, ↓reduceIte, Int.reduceLT, Int.reduceLE, Int.reduceGT, Int.reduceGE, Nat.reduceLT, Nat.reduceGT, Int.reduceToNat, reduceCtorEq, Nat.reduceBEq, Int.reduceBEq, Int.reduceBNe, Int.reduceEq, Int.reduceNe, decide_true, decide_false, hgj, hDj, ne0, ne1, ne2, ne3, ne4, ne5, ne6, ne7, ne8, ne9, ne10, ne11, ne12, ne13, ne14, ne15, ne16, ne17])
          refine k_eval (r_apptodo (cs := insC Ij) (fun e => ⟨len_nil (hnj e), insC_nil (hnj e)⟩) (fun i hi => ?_) (insC_len2 Ij) (by omega) (by omega) (by omega)) ?_
          · have := hOj.a i hi
            rw [h_ne (by omega)]; exact MH_a hOj hi
          simp only [go_sem, Nat.reduceAdd, Nat.reduceLeDiff, Nat.reduceEqDiff, Nat.reduceMul, Nat.reduceSub, ↓reduceIte, Int.reduceLT, Int.reduceLE, Int.reduceGT, Int.reduceGE, Nat.reduceLT, Nat.reduceGT, Int.reduceToNat, reduceCtorEq, Nat.reduceBEq, Int.reduceBEq, Int.reduceBNe, Int.reduceEq, Int.reduceNe, decide_true, decide_false, hdkj, hDj, ne0, ne1, ne2, ne3, ne4, ne5, ne6, ne7, ne8, ne9, ne10, ne11, ne12, ne13, ne14, ne15, ne16, ne17]
          repeat' ((first | (with_reducible first | refine wr ?_ | refine i_ret ?_ | refine i_skip ?_ | refine i_exit ?_) | ((with_reducible first | refine k_cb ?_ ?_ | refine k_gb ?_ ?_ | refine k_gb' ?_ ?_) <;> (intro hb; try simp only [hb]))) <;> try simp only [go_sem, Nat.reduceAdd, Nat.reduceLeDiff, Nat.reduceEqDiff, Nat.reduceMul, Nat.reduceSub, ↓reduceIte, Int.reduceLT, Int.reduceLE, Int.reduceGT, Int.reduceGE, Nat.reduceLT, Nat.reduceGT, Int.reduceToNat, reduceCtorEq, Nat.reduceBEq, Int.reduceBEq, Int.reduceBNe, Int.reduceEq, Int.reduceNe, decide_true, decide_false, hdkj, hDj, hw, ne0, ne1, ne2, ne3, ne4, ne5, ne6, ne7, ne8, ne9, ne10, ne11, ne12, ne13, ne14, ne15, ne16, ne17])
          have hOb := hOj.b _ rfl
          have hd0j : ∀ X, delO X oj 0 = X 0 := fun X => delO_ne (fun i hi e => by have := hOj.a i hi; omega)
          have hd1j : ∀ X, delO X oj 1 = X 1 := fun X => delO_ne (fun i hi e => by have := hOj.a i hi; omega)
          have hdej : ∀ X, delO X oj (c3 + 1 + 1) = X (c3 + 1 + 1) := fun X => delO_ne (fun i hi e => hOj.ne i hi (by rw [← e]))
          have M1 : (mdK t (i + 1)).I = Ij ++ [⟨31, 0⟩] := by rw [hmd2]; simp only [mdH]; rw [← hn, ← hp2, ← hjn2, ← hIj]
          have M2 : (mdK t (i + 1)).E = E ++ [e'] := by rw [hmd2, he']; rfl
          have M3 : (mdK t (i + 1)).p = pj := by rw [hmd2]; simp only [mdH]; rw [← hn, ← hp2, ← hjn2, ← hpj]
          refine ⟨(i + 1, some (cj + 1), some (c3 + 1 + 1)), rfl, ?_, inv ⟨⟨hk2, by omega, fun i hi => by cases hi; omega, fun i hi => by cases hi; omega, fun i hi e => by cases hi; cases e; omega⟩, hlt, by simp, by simp, by simp⟩, by simp only; omega⟩
          simp only [M1, M2, M3]
          refine MH_sub ?_ ?_ ?_ (fun i hi => ?_) (fun i hi => ?_)
          · rw [h_ne (by omega), h_ne (by omega), hd0j, h_ne (by omega)]; exact MH_0 hOj
          · rw [h_ne (by omega), h_ne (by omega), hd1j, h_ne (by omega)]; exact MH_1 hOj
          · rw [h_same]; simp only [todo_s, List.length_append, List.length_singleton]
          · cases hi; rw [h_ne (by omega), h_same, insC_app, insC_one]
          · cases hi; rw [h_ne (by omega), h_ne (by omega), hdej, h_ne (by omega)]; exact MH_b rfl
  · have hi : i = 9 := by omega
    have hd : decide ((i : Int) < ((9 : Nat) : Int)) = false := by simp; omega
    obtain ⟨n1, n2⟩ := hne (by omega)
    have hD := MH_k (l := t) (p := (mdK t i).p) (S := strs mdS) (P := ints (mdP t)) (V := ints mdV) (I := (mdK t i).I) (E := (mdK t i).E) hO
    have hD0 := MH_0 (l := t) (p := (mdK t i).p) (S := strs mdS) (P := ints (mdP t)) (V := ints mdV) (I := (mdK t i).I) (E := (mdK t i).E) hO
    rcases o1 with _ | a
    · exact absurd rfl n1
    rcases o2 with _ | b
    · exact absurd rfl n2
    have hDa := MH_a (l := t) (p := (mdK t i).p) (S := strs mdS) (P := ints (mdP t)) (V := ints mdV) (I := (mdK t i).I) (E := (mdK t i).E) hO rfl
    have hDb := MH_b (k := k) (l := t) (p := (mdK t i).p) (S := strs mdS) (P := ints (mdP t)) (V := ints mdV) (I := (mdK t i).I) (E := (mdK t i).E) (o1 := some a) (o2 := some b) rfl
    simp only [todo_s] at hD
    repeat' ((first | (with_reducible first | refine wr ?_ | refine i_ret ?_ | refine i_skip ?_ | refine i_exit ?_) | ((with_reducible first | refine k_cb ?_ ?_ | refine k_gb ?_ ?_ | refine k_gb' ?_ ?_) <;> (intro hb; try simp only [hb]))) <;> try simp only [go_sem, Nat.reduceAdd, Nat.reduceLeDiff, Nat.reduceEqDiff, Nat.reduceMul, Nat.reduceSub, ↓reduceIte, Int.reduceLT, Int.reduceLE, Int.reduceGT, Int.reduceGE, Nat.reduceLT, Nat.reduceGT, Int.reduceToNat, reduceCtorEq, Nat.reduceBEq, Int.reduceBEq, Int.reduceBNe, Int.reduceEq, Int.reduceNe, decide_true, decide_false, hkl, hd, hD, hD0])
    rw [k_rv (v := .agg [.slc a 0 (mdK t i).I.length, strs mdS, .slc b 0 (mdK t i).E.length, ints (mdP t), ints mdV, I64 2, I64 2]) rfl]
    have ha := hO.a a rfl
    have hb := hO.b b rfl
    have hab : ¬ a = b := fun e => hO.ne a rfl (by rw [e])
    have hm : madeM l = madeT t := by rw [madeM, ht]
    have hI : (madeM l).instrs = (mdK t i).I := by rw [hm, hi]; rfl
    have hE : (madeM l).entries = (mdK t i).E := by rw [hm, hi]; rfl
    refine ⟨_, _, (g_one (a := b) (k := 0) (u := 4) (u' := 4) (pre := [.slc a 0 (mdK t i).I.length, strs mdS]) (suf := [ints (mdP t), ints mdV, I64 2, I64 2]) (xs := (mdK t i).E.map Ent.v) (junk := []) h_same (by rw [h_ne (by omega), List.append_nil]; exact hDb) (by simp [DV.one]) (by simp) (ent_unit _) (by omega)).trans
      (GL.less (H0 := nil.upd a ⟨2, true, insC (mdK t i).I⟩) (fun j => ?_)), a, ?_, ?_⟩
    · by_cases e : j = a
      · subst e; right; rw [h_same, h_ne (by omega), h_dne hab, h_ne (by omega)]; exact hDa.symm
      · left; rw [h_ne e]; rfl
    · unfold madeO; rw [hI, hE, ht]; rfl
    · rw [hI]
theorem c_MadeO (l : List UInt8) (hl : l.length ≤ 9223372036854775807) (H : Hp) (c : Nat) : AC Tryd.prog 10 [.lst (bytesC l)] H c (fun v H' c' => v = madeO l c ∧ H' = H.upd c ⟨2, true, insC (madeM l).instrs⟩ ∧ c' = c + 1) := by
  have nlb : DV.nlL (bytesC l) = true := nlL_map (fun _ => rfl) l
  refine AC.own (V := madeO l) (c_MadeN l hl) (by simp [DV.nlL, DV.nl, nlb]) (nl_cellsL (nlL_map (fun _ => rfl) _)) (fun ρ ρ' id id' v h1 h2 h3 => VRel.head (by simp [DV.nlL, DV.nl, nlL_ints, nlL_strs, nlL_entries]) h1 h2 h3) H c
end Go.Proofs.YtcallbfckjlagaaDoor
set_option linter.unusedVariables false
set_option linter.unusedSimpArgs false
namespace Go.Pb
open Go.Sym
def bkR (c : Prg) (r k : Nat) (v : Int) (x z : UInt8) : Prg :=
  match r with
  | 0 => { c with instrs := c.instrs.set k ⟨v.tmod 34, (c.instrs.getD k ⟨0, 0⟩).A⟩ }
  | 1 => { c with instrs := c.instrs.set k ⟨(c.instrs.getD k ⟨0, 0⟩).op, v⟩ }
  | 2 => { c with instrs := c.instrs.set k ⟨(c.instrs.getD k ⟨0, 0⟩).op, v.tmod 12⟩ }
  | 3 => { c with instrs := c.instrs.take k ++ c.instrs.drop (k + 1) }
  | 4 => { c with instrs := c.instrs.take k ++ [⟨1, v⟩] ++ c.instrs.drop k }
  | 5 => { c with entries := c.entries ++ [⟨v.tmod 3, ((x.toNat % 8 : Nat) : Int), v.tmod 5, (k : Int)⟩] }
  | 6 => { c with timers := v.tmod 5 }
  | 7 => { c with prios := c.prios ++ [v] }
  | _ => { c with strings := c.strings ++ [[z]] }
def bkStep (c : Prg) (x y z : UInt8) : Prg := bkR c (y.toNat % 9) (x.toNat * c.instrs.length / 256) ((z.toNat : Int) - 3) x z
def bkGo : Nat → List UInt8 → Prg → Prg
  | 0, _, c => c
  | n + 1, m, c => match m with
    | x :: y :: z :: r => if (bkStep c x y z).instrs = [] then bkStep c x y z else bkGo n r (bkStep c x y z)
    | _ => c
def brokenM (l m : List UInt8) : Prg := bkGo 3 m (madeM l)
structure BB (c : Prg) (j : Nat) : Prop where
  i : c.instrs.length ≤ 441 + j
  e : c.entries.length ≤ 9 + j
  s : c.strings.length ≤ 2 + j
  p : c.prios.length ≤ 2 + j
  w : ∀ s ∈ c.strings, s.length ≤ 4
  v : c.vars = mdV
  t : c.events = 2
  e1 : c.entries.length ≠ 0
  s1 : c.strings.length ≠ 0
  p1 : c.prios.length ≠ 0
theorem BB.step {c : Prg} {j : Nat} (h : BB c j) (x y z : UInt8) : BB (bkStep c x y z) (j + 1) := by
  obtain ⟨h1, h2, h3, h4, h5, h6, h7, h8, h9, h10⟩ := h
  unfold bkStep bkR
  split <;> refine ⟨?_, ?_, ?_, ?_, ?_, h6, h7, ?_, ?_, ?_⟩ <;> simp only [List.length_set, List.length_append, List.length_singleton, List.length_take, List.length_drop] <;> try omega
  all_goals (first | exact h5 | skip)
  all_goals
    intro s hs
    rw [List.mem_append] at hs
    rcases hs with hs | hs
    · exact h5 s hs
    · rw [List.mem_singleton] at hs; subst hs; simp
theorem mdE_ne {l : List UInt8} : ∀ i, (mdK l (i + 1)).E.length ≠ 0
  | 0 => by simp [mdK, mdI, mdH]
  | i + 1 => by
    have h := mdE_ne (l := l) i
    show (mdI l _ (i + 1) (mdK l (i + 1))).E.length ≠ 0
    unfold mdI
    split
    · simp [mdH]
    · split
      · exact h
      · simp [mdH]
theorem BB.made (l : List UInt8) : BB (madeM l) 0 := by
  obtain ⟨b1, b2, b3⟩ := mdK_bd (l := l.take 200) 9
  exact ⟨by show (mdK (l.take 200) 9).I.length ≤ _; omega, by show (mdK (l.take 200) 9).E.length ≤ _; omega, by show mdS.length ≤ _; simp [mdS], by show (mdP (l.take 200)).length ≤ _; simp [mdP], by show ∀ s ∈ mdS, _; simp [mdS], rfl, rfl, mdE_ne (l := l.take 200) 8, by show mdS.length ≠ 0; simp [mdS], by show (mdP (l.take 200)).length ≠ 0; simp [mdP]⟩
theorem BB.go {n : Nat} : ∀ {m : List UInt8} {c : Prg} {j : Nat}, BB c j → BB (bkGo n m c) (j + n) := by
  have up : ∀ {c : Prg} {j j' : Nat}, j ≤ j' → BB c j → BB c j' := fun hj h => ⟨by have := h.i; omega, by have := h.e; omega, by have := h.s; omega, by have := h.p; omega, h.w, h.v, h.t, h.e1, h.s1, h.p1⟩
  induction n with
  | zero => intro m c j h; exact h
  | succ n ih =>
    intro m c j h
    match m with
    | x :: y :: z :: r =>
      simp only [bkGo]
      split
      · exact up (by omega) (h.step x y z)
      · have := ih (m := r) (h.step x y z)
        rw [show j + (n + 1) = j + 1 + n by omega]; exact this
    | [] => exact up (by omega) h
    | [_] => exact up (by omega) h
    | [_, _] => exact up (by omega) h
theorem BB.broken (l m : List UInt8) : BB (brokenM l m) 3 := by
  have := (BB.made l).go (n := 3) (m := m)
  rw [Nat.zero_add] at this; exact this
theorem mdK_ne {l : List UInt8} : ∀ i, (mdK l (i + 1)).I ≠ []
  | 0 => by simp [mdK, mdI, mdH]
  | i + 1 => by
    have h := mdK_ne (l := l) i
    show (mdI l _ (i + 1) (mdK l (i + 1))).I ≠ []
    unfold mdI
    split
    · simp [mdH]
    · split
      · exact h
      · simp [mdH]
theorem madeM_ne (l : List UInt8) : (madeM l).instrs ≠ [] := mdK_ne (l := l.take 200) 8
theorem go_next {m : List UInt8} {c : Prg} {j : Nat} {x y z : UInt8} (hj : j < 3) (hx : m[3 * j]? = some x) (hy : m[3 * j + 1]? = some y) (hz : m[3 * j + 2]? = some z) :
    bkGo (3 - j) (m.drop (3 * j)) c = if (bkStep c x y z).instrs = [] then bkStep c x y z else bkGo (3 - (j + 1)) (m.drop (3 * (j + 1))) (bkStep c x y z) := by
  have e : ∀ {i : Nat} {w : UInt8}, m[i]? = some w → m.drop i = w :: m.drop (i + 1) := fun {i w} h => by
    obtain ⟨hi, hw⟩ := List.getElem?_eq_some_iff.1 h
    rw [List.drop_eq_getElem_cons hi, hw]
  obtain ⟨n, hn⟩ : ∃ n, 3 - j = n + 1 := ⟨2 - j, by omega⟩
  rw [e hx, e hy, e hz, hn, show 3 - (j + 1) = n by omega, show 3 * (j + 1) = 3 * j + 1 + 1 + 1 by omega]
  rfl
theorem go_end {m : List UInt8} {c : Prg} {j : Nat} (h : ¬ (3 * j + 2 < m.length ∧ j < 3)) : bkGo (3 - j) (m.drop (3 * j)) c = c := by
  by_cases hj : j < 3
  · have hl : (m.drop (3 * j)).length ≤ 2 := by rw [List.length_drop]; omega
    generalize m.drop (3 * j) = d at hl
    obtain ⟨n, hn⟩ : ∃ n, 3 - j = n + 1 := ⟨2 - j, by omega⟩
    rw [hn]
    match d, hl with
    | [], _ => rfl
    | [_], _ => rfl
    | [_, _], _ => rfl
  · have : 3 - j = 0 := by omega
    rw [this]; rfl
theorem insC_set0 {I : List Ins} {k : Nat} {v : Int} (h : k < I.length) : insC (I.set k ⟨v, (I.getD k ⟨0, 0⟩).A⟩) = (insC I).take (k * 2) ++ [I64 v] ++ (insC I).drop (k * 2 + 1) := by
  induction I generalizing k with
  | nil => simp at h
  | cons a r ih =>
    cases k with
    | zero => simp [insC, cellsL, DV.cells]
    | succ k =>
      have := ih (k := k) (by simpa using h)
      have e1 : insC (a :: r) = I64 a.op :: I64 a.A :: insC r := rfl
      have e2 : ∀ x, insC (a :: x) = I64 a.op :: I64 a.A :: insC x := fun _ => rfl
      rw [e1, List.set_cons_succ, e2, show (k + 1) * 2 = k * 2 + 1 + 1 by omega]
      simp only [List.take_succ_cons, List.drop_succ_cons, List.cons_append, List.getD_cons_succ, List.cons.injEq, true_and]
      exact this
theorem insC_set1 {I : List Ins} {k : Nat} {v : Int} (h : k < I.length) : insC (I.set k ⟨(I.getD k ⟨0, 0⟩).op, v⟩) = (insC I).take (k * 2 + 1) ++ [I64 v] ++ (insC I).drop (k * 2 + 1 + 1) := by
  induction I generalizing k with
  | nil => simp at h
  | cons a r ih =>
    cases k with
    | zero => simp [insC, cellsL, DV.cells]
    | succ k =>
      have := ih (k := k) (by simpa using h)
      have e1 : insC (a :: r) = I64 a.op :: I64 a.A :: insC r := rfl
      have e2 : ∀ x, insC (a :: x) = I64 a.op :: I64 a.A :: insC x := fun _ => rfl
      rw [e1, List.set_cons_succ, e2, show (k + 1) * 2 = k * 2 + 1 + 1 by omega]
      simp only [List.take_succ_cons, List.drop_succ_cons, List.cons_append, List.getD_cons_succ, List.cons.injEq, true_and]
      exact this
theorem insC_take {I : List Ins} {k : Nat} : (insC I).take (k * 2) = insC (I.take k) := by
  induction I generalizing k with
  | nil => simp [insC, cellsL]
  | cons a r ih =>
    cases k with
    | zero => simp [insC, cellsL]
    | succ k =>
      have e2 : ∀ x, insC (a :: x) = I64 a.op :: I64 a.A :: insC x := fun _ => rfl
      rw [List.take_succ_cons, e2, e2, show (k + 1) * 2 = k * 2 + 1 + 1 by omega, List.take_succ_cons, List.take_succ_cons, ih]
theorem insC_drop {I : List Ins} {k : Nat} : (insC I).drop (k * 2) = insC (I.drop k) := by
  induction I generalizing k with
  | nil => simp [insC, cellsL]
  | cons a r ih =>
    cases k with
    | zero => simp
    | succ k =>
      have e2 : ∀ x, insC (a :: x) = I64 a.op :: I64 a.A :: insC x := fun _ => rfl
      rw [List.drop_succ_cons, e2, show (k + 1) * 2 = k * 2 + 1 + 1 by omega, List.drop_succ_cons, List.drop_succ_cons, ih]
def bCells (o : Option Nat) (c : Prg) : List DV := [todoV o c.instrs.length, strs c.strings, entsV c.entries, ints c.prios, ints c.vars, I64 c.timers, I64 c.events]
def BH (o : Option Nat) (c : Prg) : Hp :=
  optH ((Sym.nil.upd 0 ⟨0, true, [.snil, .snil, .snil, .snil, .snil, I64 0, I64 0]⟩).upd 2 ⟨0, true, bCells o c⟩) o ⟨2, true, insC c.instrs⟩
structure BO (o : Option Nat) (cc : Nat) : Prop where
  c : 3 ≤ cc
  a : ∀ i, o = some i → 1 ≤ i ∧ i ≠ 2 ∧ i < cc
section
variable {o : Option Nat} {c : Prg} {cc : Nat}
theorem BH_0 (h : BO o cc) : BH o c 0 = some ⟨0, true, [.snil, .snil, .snil, .snil, .snil, I64 0, I64 0]⟩ := by
  unfold BH; rw [optH_ne (fun i hi => by have := h.a i hi; omega), h_ne (by omega)]; rfl
theorem BH_2 (h : BO o cc) : BH o c 2 = some ⟨0, true, bCells o c⟩ := by
  unfold BH; rw [optH_ne (fun i hi => by have := h.a i hi; omega), h_same]
theorem BH_a {i : Nat} (hi : o = some i) : BH o c i = some ⟨2, true, insC c.instrs⟩ := by
  unfold BH; subst hi; exact h_same
theorem BH_n (h : BO o cc) {j : Nat} (hc : cc ≤ j) : BH o c j = none := by
  have := h.c
  unfold BH; rw [optH_ne (fun i hi => by have := h.a i hi; omega), h_ne (by omega), h_ne (by omega)]; rfl
theorem BH_sub {H : Hp} (h0 : H 0 = some ⟨0, true, [.snil, .snil, .snil, .snil, .snil, I64 0, I64 0]⟩) (h2 : H 2 = some ⟨0, true, bCells o c⟩) (ha : ∀ i, o = some i → H i = some ⟨2, true, insC c.instrs⟩) : Sub (BH o c) H := by
  intro j b hj
  unfold BH at hj
  by_cases e2 : o = some j
  · subst e2; simp only [optH, h_same] at hj; rw [ha j rfl]; exact hj
  · rw [optH_ne (fun i hi e3 => e2 (by rw [e3]; exact hi))] at hj
    by_cases ek : j = 2
    · subst ek; rw [h_same] at hj; rw [h2]; exact hj
    · rw [h_ne ek] at hj
      by_cases e0 : j = 0
      · subst e0; rw [h_same] at hj; rw [h0]; exact hj
      · rw [h_ne e0] at hj; cases hj
end
theorem b_fin {o : Option Nat} {c : Prg} {H : Hp} (h0 : H 0 = some ⟨0, true, bCells o c⟩) (ha : ∀ i, o = some i → i ≠ 0 ∧ H i = some ⟨2, true, insC c.instrs⟩) (hn : o = none → c.instrs = []) :
    ∃ H2, GL H [.agg (bCells o c)] H2 [c.v] := by
  cases o with
  | none =>
    have e : c.v = .agg ([] ++ [.lst []] ++ [strs c.strings, entsV c.entries, ints c.prios, ints c.vars, I64 c.timers, I64 c.events]) := by
      show DV.agg c.cs = _
      unfold Prg.cs
      rw [hn rfl]; rfl
    rw [e]
    exact ⟨_, g_nil (k := 0) (pre := []) (suf := [strs c.strings, entsV c.entries, ints c.prios, ints c.vars, I64 c.timers, I64 c.events]) h0⟩
  | some a =>
    obtain ⟨h1, h2⟩ := ha a rfl
    exact ⟨_, g_one (a := a) (k := 0) (u := 2) (u' := 2) (pre := []) (suf := [strs c.strings, entsV c.entries, ints c.prios, ints c.vars, I64 c.timers, I64 c.events]) (xs := c.instrs.map Ins.v) (junk := []) h0 (by rw [List.append_nil]; exact h2) (by simp [DV.one]) (by simp) (ins_unit _) h1⟩
theorem hs_app {sz bytes n : Nat} {xs : List DV} (hu : ∀ x ∈ xs, x.cells.length = sz) (hn : xs.length = n) (h0 : n ≠ 0) (h1 : n * bytes ≤ 140737488355328) (h2 : n ≤ 9223372036854775807) (H : Hp) (c' : Nat) :
    apX H c' sz bytes .snil (srcOf H sz (.lst xs)) = some (.slc c' 0 n, H.upd c' ⟨sz, true, cellsL xs⟩, c' + 1) := by
  rw [r_srcl (unit_iff.2 hu), r_apx, hn, r_appn' h0 h1 h2]
theorem hs_one {sz bytes n : Nat} {cs ds : List DV} (h0 : cs.length = n * sz) (h1 : (n + 1) * bytes ≤ 140737488355328) (h2 : n + 1 ≤ 9223372036854775807) (H : Hp) (c' id : Nat) :
    apB H c' id sz bytes n 1 ds (some ⟨sz, true, cs⟩) = some (.slc c' 0 (n + 1), (H.del id).upd c' ⟨sz, true, cs ++ ds⟩, c' + 1) := b_appx h0 h1 h2
def slB (id off sz l h : Nat) : Option Blk → Option DV
  | some b => if b.unit = sz ∨ b.unit = 0 then some (.slc id (off + l * sz) (h - l)) else none
  | none => none
theorem r_slclo {id off n l sz : Nat} {k : IntKind} (h0 : l ≠ 0) (h1 : l < n) (H : Hp) : slcR H sz (.slc id off n) (some (.int k (l : Int))) none = slB id off sz l n (H id) := by
  have e1 : boundOf n none = some n := by simp [boundOf]
  have e2 : boundOf 0 (some (.int k (l : Int))) = some l := by simp [boundOf]
  simp only [slcR, e1, e2, Nat.le_refl, Nat.le_of_lt h1, and_self, if_true, h0, if_false, Nat.ne_of_lt h1, slB]
  cases H id <;> rfl
theorem r_slcall {id off n sz : Nat} {k : IntKind} (H : Hp) : slcR H sz (.slc id off n) (some (.int k ((0 : Nat) : Int))) none = some (.slc id off n) := by
  have e1 : boundOf n none = some n := by simp [boundOf]
  have e2 : boundOf 0 (some (.int k ((0 : Nat) : Int))) = some 0 := by simp [boundOf]
  simp only [slcR, e1, e2, Nat.le_refl, Nat.zero_le, and_self, if_true]
theorem r_slcend {id off n sz : Nat} {k : IntKind} (h0 : n ≠ 0) (H : Hp) : slcR H sz (.slc id off n) (some (.int k (n : Int))) none = some (.lst []) := by
  have e1 : boundOf n none = some n := by simp [boundOf]
  have e2 : boundOf 0 (some (.int k (n : Int))) = some n := by simp [boundOf]
  simp only [slcR, e1, e2, Nat.le_refl, and_self, if_true, h0, if_false]
theorem b_slB {id off sz l h : Nat} {o : Bool} {cs : List DV} : slB id off sz l h (some ⟨sz, o, cs⟩) = some (.slc id (off + l * sz) (h - l)) := by simp [slB]
theorem b_srcI {I : List Ins} {k m : Nat} {o : Bool} (h : k + m ≤ I.length) : srB 2 (k * 2) m (some ⟨2, o, insC I⟩) = some (m, insC ((I.drop k).take m)) := by
  rw [b_src (by rw [insC_len2]; omega), insC_drop, insC_take]
theorem hm_upd1 {k a : Nat} (h : ¬ a = k) (H : Hp) (b : Blk) : merge [k] H ((hide H [k]).upd a b) = H.upd a b := by
  funext j
  by_cases e : j = k
  · subst e; rw [h_ne (Ne.symm h)]; simp [merge]
  · by_cases ea : j = a
    · subst ea; rw [h_same]; simp [merge, e, h_same]
    · rw [h_ne ea]; simp [merge, e, h_ne ea, hide]
theorem hm_upd2 {k k' a : Nat} (h : ¬ a = k) (h' : ¬ a = k') (H : Hp) (b : Blk) : merge [k, k'] H ((hide H [k, k']).upd a b) = H.upd a b := by
  funext j
  by_cases e : j = k ∨ j = k'
  · rw [h_ne (fun ea => by subst ea; rcases e with e | e; exact h e; exact h' e)]; simp [merge, e]
  · by_cases ea : j = a
    · subst ea; rw [h_same]; simp [merge, h, h', h_same]
    · rw [h_ne ea]
      have e1 : ¬ j = k := fun x => e (.inl x)
      have e2 : ¬ j = k' := fun x => e (.inr x)
      simp [merge, e1, e2, h_ne ea, hide]
theorem cv_one {z : UInt8} {n : Nat} (hn : n = z.toNat) (H : Hp) (id : Nat) : cvbsR (H.upd id ⟨1, true, [.int .u8 (n : Int)]⟩) (.slc id 0 1) = some (.str [z]) :=
  cv_own h_same (by rw [hn]; rfl) rfl
end Go.Pb
set_option maxHeartbeats 4000000
set_option maxRecDepth 100000
set_option linter.unusedSimpArgs false
set_option linter.unusedVariables false
namespace Go.Proofs.YtcallbfckjlagaaDoor
open Go.Eng (IC IOper DReg IFn IsFn)
open Go.Sym Go.Pb
noncomputable section
def u11_8 : IC := .cond (.t 19) .skip (.exit 0)
def u11_7r : List IOper := [⟨some 11, .pur (.mv (.t 6)), none⟩, ⟨some 12, .pur (.bin .add (.t 11) (.k (.int .i64 2))), none⟩, ⟨some 13, .pur (.mv (.t 1)), none⟩, ⟨some 14, .pur (.len (.t 13)), none⟩, ⟨some 15, .pur (.bin .lss (.t 12) (.t 14)), none⟩, ⟨some 16, .pur (.mv (.t 15)), none⟩, ⟨some 17, .pur (.mv (.t 6)), some (16, true)⟩, ⟨some 18, .pur (.bin .lss (.t 17) (.k (.int .i64 9))), some (16, true)⟩, ⟨some 19, .pur (.pick (.t 16) (.t 18) (.k (.bool false))), none⟩]
def u11_7 : IC := .seq (.reg u11_7r) u11_8
def u11_17r : List IOper := [⟨some 60, .pur (.fad 0 (.t 5)), none⟩, ⟨some 61, .pur (.ld 1 false (.t 60)), none⟩, ⟨some 62, .pur (.mv (.t 7)), none⟩, ⟨some 63, .pur (.mv (.t 8)), none⟩, ⟨some 64, .pur (.bin .rem (.t 63) (.k (.int .i64 34))), none⟩, ⟨some 65, .pur (.iad 2 (.t 61) (.t 62)), none⟩, ⟨some 66, .pur (.fad 0 (.t 65)), none⟩, ⟨none, .eff (.st 1 (.t 66) (.t 64)), none⟩]
def u11_17 : IC := .reg u11_17r
def u11_20r : List IOper := [⟨some 69, .pur (.fad 0 (.t 5)), none⟩, ⟨some 70, .pur (.ld 1 false (.t 69)), none⟩, ⟨some 71, .pur (.mv (.t 7)), none⟩, ⟨some 72, .pur (.mv (.t 8)), none⟩, ⟨some 73, .pur (.iad 2 (.t 70) (.t 71)), none⟩, ⟨some 74, .pur (.fad 1 (.t 73)), none⟩, ⟨none, .eff (.st 1 (.t 74) (.t 72)), none⟩]
def u11_20 : IC := .reg u11_20r
def u11_23r : List IOper := [⟨some 77, .pur (.fad 0 (.t 5)), none⟩, ⟨some 78, .pur (.ld 1 false (.t 77)), none⟩, ⟨some 79, .pur (.mv (.t 7)), none⟩, ⟨some 80, .pur (.mv (.t 8)), none⟩, ⟨some 81, .pur (.bin .rem (.t 80) (.k (.int .i64 12))), none⟩, ⟨some 82, .pur (.iad 2 (.t 78) (.t 79)), none⟩, ⟨some 83, .pur (.fad 1 (.t 82)), none⟩, ⟨none, .eff (.st 1 (.t 83) (.t 81)), none⟩]
def u11_23 : IC := .reg u11_23r
def u11_26r : DReg := ⟨[⟨some 86, .pur (.fad 0 (.t 5)), none⟩, ⟨some 87, .pur (.ld 1 false (.t 86)), none⟩, ⟨some 88, .pur (.mv (.t 7)), none⟩, ⟨some 89, .pur (.slc 2 (.t 87) none (some (.t 88))), none⟩, ⟨some 90, .eff (.app 2 16 (.k (.slice none 0 0)) (.t 89)), none⟩, ⟨some 91, .pur (.fad 0 (.t 5)), none⟩, ⟨some 92, .pur (.ld 1 false (.t 91)), none⟩, ⟨some 93, .pur (.mv (.t 7)), none⟩, ⟨some 94, .pur (.bin .add (.t 93) (.k (.int .i64 1))), none⟩, ⟨some 95, .pur (.slc 2 (.t 92) (some (.t 94)) none), none⟩, ⟨some 96, .eff (.app 2 16 (.t 90) (.t 95)), none⟩, ⟨some 97, .pur (.fad 0 (.t 5)), none⟩, ⟨none, .eff (.st 1 (.t 97) (.t 96)), none⟩], [[], [0], [], [1, 2, 0], [3, 1, 2, 0], [], [5], [], [7], [6, 8, 5, 7], [4, 9, 3, 1, 2, 0, 6, 8, 5, 7], [0, 1, 2, 3, 4, 5, 6, 7, 8, 9, 10], [11, 10, 0, 1, 2, 3, 4, 5, 6, 7, 8, 9]], [(0, none), (1, none), (2, none), (3, none), (5, none), (6, none), (7, none), (8, none), (9, none), (4, some [5, 6, 7, 8, 9]), (10, some []), (11, none), (12, some [])]⟩
def u11_26 : IC := .drw 13 u11_26r
def u11_29r : DReg := ⟨[⟨some 100, .pur (.fad 0 (.t 5)), none⟩, ⟨some 101, .pur (.ld 1 false (.t 100)), none⟩, ⟨some 102, .pur (.mv (.t 7)), none⟩, ⟨some 103, .pur (.slc 2 (.t 101) none (some (.t 102))), none⟩, ⟨some 104, .eff (.app 2 16 (.k (.slice none 0 0)) (.t 103)), none⟩, ⟨some 105, .pur (.mv (.t 8)), none⟩, ⟨some 106, .pur (.bld #[.int .i64 0, .int .i64 0] [(0, 1), (1, 1)] [(0, .k (.int .i64 1)), (1, .t 105)]), none⟩, ⟨some 107, .new (.bsl 2 1 #[.int .i64 0, .int .i64 0] [(0, .t 106)]), none⟩, ⟨some 108, .eff (.app 2 16 (.t 104) (.t 107)), none⟩, ⟨some 109, .pur (.fad 0 (.t 5)), none⟩, ⟨some 110, .pur (.ld 1 false (.t 109)), none⟩, ⟨some 111, .pur (.mv (.t 7)), none⟩, ⟨some 112, .pur (.slc 2 (.t 110) (some (.t 111)) none), none⟩, ⟨some 113, .eff (.app 2 16 (.t 108) (.t 112)), none⟩, ⟨some 114, .pur (.fad 0 (.t 5)), none⟩, ⟨none, .eff (.st 1 (.t 114) (.t 113)), none⟩], [[], [0], [], [1, 2, 0], [3, 1, 2, 0], [], [5], [6, 5], [4, 7, 3, 1, 2, 0, 6, 5], [], [9], [], [10, 11, 9], [8, 12, 4, 7, 3, 1, 2, 0, 6, 5, 10, 11, 9], [0, 1, 2, 3, 4, 5, 6, 7, 8, 9, 10, 11, 12, 13], [14, 13, 0, 1, 2, 3, 4, 5, 6, 7, 8, 9, 10, 11, 12]], [(0, none), (1, none), (2, none), (3, none), (5, none), (6, none), (7, none), (9, none), (10, none), (11, none), (12, none), (4, some [5, 6, 7, 9, 10, 11, 12]), (8, some [9, 10, 11, 12]), (13, some []), (14, none), (15, some [])]⟩
def u11_29 : IC := .drw 16 u11_29r
def u11_32r : DReg := ⟨[⟨some 117, .pur (.fad 2 (.t 5)), none⟩, ⟨some 118, .pur (.ld 1 false (.t 117)), none⟩, ⟨some 119, .eff (.app 4 32 (.k (.slice none 0 0)) (.t 118)), none⟩, ⟨some 120, .pur (.mv (.t 8)), none⟩, ⟨some 121, .pur (.bin .rem (.t 120) (.k (.int .i64 3))), none⟩, ⟨some 122, .pur (.mv (.t 1)), none⟩, ⟨some 123, .pur (.mv (.t 6)), none⟩, ⟨some 124, .pur (.iad 1 (.t 122) (.t 123)), none⟩, ⟨some 125, .pur (.ld 1 false (.t 124)), none⟩, ⟨some 126, .pur (.cvi .i64 (.t 125)), none⟩, ⟨some 127, .pur (.bin .rem (.t 126) (.k (.int .i64 8))), none⟩, ⟨some 128, .pur (.mv (.t 8)), none⟩, ⟨some 129, .pur (.bin .rem (.t 128) (.k (.int .i64 5))), none⟩, ⟨some 130, .pur (.mv (.t 7)), none⟩, ⟨some 131, .pur (.bld #[.int .i64 0, .int .i64 0, .int .i64 0, .int .i64 0] [(0, 1), (1, 1), (2, 1), (3, 1)] [(0, .t 121), (1, .t 127), (2, .t 129), (3, .t 130)]), none⟩, ⟨some 132, .new (.bsl 4 1 #[.int .i64 0, .int .i64 0, .int .i64 0, .int .i64 0] [(0, .t 131)]), none⟩, ⟨some 133, .eff (.app 4 32 (.t 119) (.t 132)), none⟩, ⟨some 134, .pur (.fad 2 (.t 5)), none⟩, ⟨none, .eff (.st 1 (.t 134) (.t 133)), none⟩], [[], [0], [1, 0], [], [3], [], [], [5, 6], [7, 5, 6], [8, 7, 5, 6], [9, 8, 7, 5, 6], [], [11], [], [4, 10, 12, 13, 3, 9, 8, 7, 5, 6, 11], [14, 4, 10, 12, 13, 3, 9, 8, 7, 5, 6, 11], [2, 15, 1, 0, 14, 4, 10, 12, 13, 3, 9, 8, 7, 5, 6, 11], [0, 1, 2, 3, 4, 5, 6, 7, 8, 9, 10, 11, 12, 13, 14, 15, 16], [17, 16, 0, 1, 2, 3, 4, 5, 6, 7, 8, 9, 10, 11, 12, 13, 14, 15]], [(0, none), (1, none), (3, none), (4, none), (5, none), (6, none), (7, none), (8, none), (9, none), (10, none), (11, none), (12, none), (13, none), (14, none), (15, none), (2, some [3, 4, 5, 6, 7, 8, 9, 10, 11, 12, 13, 14, 15]), (16, some []), (17, none), (18, some [])]⟩
def u11_32 : IC := .drw 19 u11_32r
def u11_35r : List IOper := [⟨some 137, .pur (.mv (.t 8)), none⟩, ⟨some 138, .pur (.bin .rem (.t 137) (.k (.int .i64 5))), none⟩, ⟨some 139, .pur (.fad 5 (.t 5)), none⟩, ⟨none, .eff (.st 1 (.t 139) (.t 138)), none⟩]
def u11_35 : IC := .reg u11_35r
def u11_38r : List IOper := [⟨some 142, .pur (.fad 3 (.t 5)), none⟩, ⟨some 143, .pur (.ld 1 false (.t 142)), none⟩, ⟨some 144, .eff (.app 1 8 (.k (.slice none 0 0)) (.t 143)), none⟩, ⟨some 145, .pur (.mv (.t 8)), none⟩, ⟨some 146, .new (.bsl 1 1 #[.int .i64 0] [(0, .t 145)]), none⟩, ⟨some 147, .eff (.app 1 8 (.t 144) (.t 146)), none⟩, ⟨some 148, .pur (.fad 3 (.t 5)), none⟩, ⟨none, .eff (.st 1 (.t 148) (.t 147)), none⟩]
def u11_38 : IC := .reg u11_38r
def u11_39r : DReg := ⟨[⟨some 45, .pur (.fad 1 (.t 5)), none⟩, ⟨some 46, .pur (.ld 1 false (.t 45)), none⟩, ⟨some 47, .eff (.app 1 16 (.k (.slice none 0 0)) (.t 46)), none⟩, ⟨some 48, .pur (.mv (.t 1)), none⟩, ⟨some 49, .pur (.mv (.t 6)), none⟩, ⟨some 50, .pur (.bin .add (.t 49) (.k (.int .i64 2))), none⟩, ⟨some 51, .pur (.iad 1 (.t 48) (.t 50)), none⟩, ⟨some 52, .pur (.ld 1 false (.t 51)), none⟩, ⟨some 53, .new (.bsl 1 1 #[.int .u8 0] [(0, .t 52)]), none⟩, ⟨some 54, .pur (.cvbs (.t 53)), none⟩, ⟨some 55, .new (.bsl 1 1 #[.string ⟨#[]⟩] [(0, .t 54)]), none⟩, ⟨some 56, .eff (.app 1 16 (.t 47) (.t 55)), none⟩, ⟨some 57, .pur (.fad 1 (.t 5)), none⟩, ⟨none, .eff (.st 1 (.t 57) (.t 56)), none⟩], [[], [0], [1, 0], [], [], [4], [3, 5, 4], [6, 3, 5, 4], [7, 6, 3, 5, 4], [8, 7, 6, 3, 5, 4], [9, 8, 7, 6, 3, 5, 4], [2, 10, 1, 0, 9, 8, 7, 6, 3, 5, 4], [0, 1, 2, 3, 4, 5, 6, 7, 8, 9, 10, 11], [12, 11, 0, 1, 2, 3, 4, 5, 6, 7, 8, 9, 10]], [(0, none), (1, none), (3, none), (4, none), (5, none), (6, none), (7, none), (8, none), (9, none), (10, none), (2, some [3, 4, 5, 6, 7, 8, 9, 10]), (11, some []), (12, none), (13, some [])]⟩
def u11_39 : IC := .drw 14 u11_39r
def u11_37 : IC := .cond (.t 140) u11_38 u11_39
def u11_36r : List IOper := [⟨some 141, .pur (.bin .eql (.t 44) (.k (.int .u8 7))), none⟩, ⟨some 140, .pur (.mv (.t 141)), none⟩]
def u11_36 : IC := .seq (.reg u11_36r) u11_37
def u11_34 : IC := .cond (.t 135) u11_35 u11_36
def u11_33r : List IOper := [⟨some 136, .pur (.bin .eql (.t 44) (.k (.int .u8 6))), none⟩, ⟨some 135, .pur (.mv (.t 136)), none⟩]
def u11_33 : IC := .seq (.reg u11_33r) u11_34
def u11_31 : IC := .cond (.t 115) u11_32 u11_33
def u11_30r : List IOper := [⟨some 116, .pur (.bin .eql (.t 44) (.k (.int .u8 5))), none⟩, ⟨some 115, .pur (.mv (.t 116)), none⟩]
def u11_30 : IC := .seq (.reg u11_30r) u11_31
def u11_28 : IC := .cond (.t 98) u11_29 u11_30
def u11_27r : List IOper := [⟨some 99, .pur (.bin .eql (.t 44) (.k (.int .u8 4))), none⟩, ⟨some 98, .pur (.mv (.t 99)), none⟩]
def u11_27 : IC := .seq (.reg u11_27r) u11_28
def u11_25 : IC := .cond (.t 84) u11_26 u11_27
def u11_24r : List IOper := [⟨some 85, .pur (.bin .eql (.t 44) (.k (.int .u8 3))), none⟩, ⟨some 84, .pur (.mv (.t 85)), none⟩]
def u11_24 : IC := .seq (.reg u11_24r) u11_25
def u11_22 : IC := .cond (.t 75) u11_23 u11_24
def u11_21r : List IOper := [⟨some 76, .pur (.bin .eql (.t 44) (.k (.int .u8 2))), none⟩, ⟨some 75, .pur (.mv (.t 76)), none⟩]
def u11_21 : IC := .seq (.reg u11_21r) u11_22
def u11_19 : IC := .cond (.t 67) u11_20 u11_21
def u11_18r : List IOper := [⟨some 68, .pur (.bin .eql (.t 44) (.k (.int .u8 1))), none⟩, ⟨some 67, .pur (.mv (.t 68)), none⟩]
def u11_18 : IC := .seq (.reg u11_18r) u11_19
def u11_16 : IC := .cond (.t 58) u11_17 u11_18
def u11_15r : List IOper := [⟨some 59, .pur (.bin .eql (.t 44) (.k (.int .u8 0))), none⟩, ⟨some 58, .pur (.mv (.t 59)), none⟩]
def u11_15 : IC := .seq (.reg u11_15r) u11_16
def u11_14 : IC := .blk 2 u11_15
def u11_13r : List IOper := [⟨some 39, .pur (.mv (.t 1)), none⟩, ⟨some 40, .pur (.mv (.t 6)), none⟩, ⟨some 41, .pur (.bin .add (.t 40) (.k (.int .i64 1))), none⟩, ⟨some 42, .pur (.iad 1 (.t 39) (.t 41)), none⟩, ⟨some 43, .pur (.ld 1 false (.t 42)), none⟩, ⟨some 44, .pur (.bin .rem (.t 43) (.k (.int .u8 9))), none⟩]
def u11_13 : IC := .seq (.reg u11_13r) u11_14
def u11_41 : IC := .cond (.t 152) (.exit 0) .skip
def u11_40r : List IOper := [⟨some 149, .pur (.fad 0 (.t 5)), none⟩, ⟨some 150, .pur (.ld 1 false (.t 149)), none⟩, ⟨some 151, .pur (.len (.t 150)), none⟩, ⟨some 152, .pur (.bin .eql (.t 151) (.k (.int .i64 0))), none⟩]
def u11_40 : IC := .seq (.reg u11_40r) u11_41
def u11_12 : IC := .seq u11_13 u11_40
def u11_11r : List IOper := [⟨some 32, .pur (.mv (.t 1)), none⟩, ⟨some 33, .pur (.mv (.t 6)), none⟩, ⟨some 34, .pur (.bin .add (.t 33) (.k (.int .i64 2))), none⟩, ⟨some 35, .pur (.iad 1 (.t 32) (.t 34)), none⟩, ⟨some 36, .pur (.ld 1 false (.t 35)), none⟩, ⟨some 37, .pur (.cvi .i64 (.t 36)), none⟩, ⟨some 38, .pur (.bin .sub (.t 37) (.k (.int .i64 3))), none⟩, ⟨some 8, .pur (.mv (.t 38)), none⟩]
def u11_11 : IC := .seq (.reg u11_11r) u11_12
def u11_10r : DReg := ⟨[⟨some 22, .pur (.mv (.t 1)), none⟩, ⟨some 23, .pur (.mv (.t 6)), none⟩, ⟨some 24, .pur (.iad 1 (.t 22) (.t 23)), none⟩, ⟨some 25, .pur (.ld 1 false (.t 24)), none⟩, ⟨some 26, .pur (.cvi .i64 (.t 25)), none⟩, ⟨some 27, .pur (.fad 0 (.t 5)), none⟩, ⟨some 28, .pur (.ld 1 false (.t 27)), none⟩, ⟨some 29, .pur (.len (.t 28)), none⟩, ⟨some 30, .pur (.bin .mul (.t 26) (.t 29)), none⟩, ⟨some 31, .pur (.bin .quo (.t 30) (.k (.int .i64 256))), none⟩, ⟨some 7, .pur (.mv (.t 31)), none⟩], [[], [], [0, 1], [2, 0, 1], [3, 2, 0, 1], [], [5], [6, 5], [4, 7, 3, 2, 0, 1, 6, 5], [8, 4, 7, 3, 2, 0, 1, 6, 5], [9, 0, 1, 2, 3, 4, 5, 6, 7, 8]], [(0, none), (1, none), (2, none), (3, none), (4, none), (5, none), (6, none), (7, none), (8, none), (9, none), (10, some [])]⟩
def u11_10 : IC := .seq (.drw 11 u11_10r) u11_11
def u11_42r : List IOper := [⟨some 20, .pur (.mv (.t 6)), none⟩, ⟨some 21, .pur (.bin .add (.t 20) (.k (.int .i64 3))), none⟩, ⟨some 6, .pur (.mv (.t 21)), none⟩]
def u11_42 : IC := .reg u11_42r
def u11_9 : IC := .seq (.blk 1 u11_10) u11_42
def u11_6 : IC := .seq u11_7 u11_9
def u11_5 : IC := .blk 0 (.loop u11_6)
def u11_4r : List IOper := [⟨some 6, .pur (.mv (.k (.int .i64 0))), none⟩]
def u11_4 : IC := .seq (.reg u11_4r) u11_5
def u11_43r : List IOper := [⟨some 153, .pur (.ld 7 true (.t 5)), none⟩, ⟨none, .eff (.st 7 (.t 4) (.t 153)), none⟩]
def u11_43 : IC := .seq (.reg u11_43r) .ret
def u11_3 : IC := .seq u11_4 u11_43
def u11_2r : List IOper := [⟨some 9, .pur (.mv (.t 0)), none⟩, ⟨some 10, .call 10 [.t 9], none⟩, ⟨some 5, .new (.box (.k (.agg #[.slice none 0 0, .slice none 0 0, .slice none 0 0, .slice none 0 0, .slice none 0 0, .int .i64 0, .int .i64 0]))), none⟩, ⟨none, .eff (.st 7 (.t 5) (.t 10)), none⟩]
def u11_2 : IC := .seq (.reg u11_2r) u11_3
def u11_1r : List IOper := [⟨some 4, .new (.box (.k (.agg #[.slice none 0 0, .slice none 0 0, .slice none 0 0, .slice none 0 0, .slice none 0 0, .int .i64 0, .int .i64 0]))), none⟩]
def u11_1 : IC := .seq (.reg u11_1r) u11_2
def u11 : IFn := ⟨154, u11_1, [.cell 4 7 true]⟩
end
theorem isU11 : IsFn Tryd.prog 11 u11 := by unfold IsFn; kernel_rfl
instance i11_8 : WR Tryd.prog 154 u11_8 (rCE (.t 19) .skip (.exit 0) [1, 4, 5, 6, 19]) := ⟨mkCE⟩
instance i11_7 : WR Tryd.prog 154 u11_7 (rS u11_7r u11_8 [1, 4, 5, 6]) := ⟨mkS⟩
instance i11_17 : WR Tryd.prog 154 u11_17 (rE u11_17r [1, 4, 5, 6, 7, 8]) := ⟨mkE⟩
instance i11_20 : WR Tryd.prog 154 u11_20 (rE u11_20r [1, 4, 5, 6, 7, 8]) := ⟨mkE⟩
instance i11_23 : WR Tryd.prog 154 u11_23 (rE u11_23r [1, 4, 5, 6, 7, 8]) := ⟨mkE⟩
instance i11_26 : WR Tryd.prog 154 u11_26 (rDE 13 u11_26r [1, 4, 5, 6, 7]) := ⟨mkDE⟩
instance i11_29 : WR Tryd.prog 154 u11_29 (rDE 16 u11_29r [1, 4, 5, 6, 7, 8]) := ⟨mkDE⟩
instance i11_32 : WR Tryd.prog 154 u11_32 (rDE 19 u11_32r [1, 4, 5, 6, 7, 8]) := ⟨mkDE⟩
instance i11_35 : WR Tryd.prog 154 u11_35 (rE u11_35r [1, 4, 5, 6, 8]) := ⟨mkE⟩
instance i11_38 : WR Tryd.prog 154 u11_38 (rE u11_38r [1, 4, 5, 6, 8]) := ⟨mkE⟩
instance i11_39 : WR Tryd.prog 154 u11_39 (rDE 14 u11_39r [1, 4, 5, 6]) := ⟨mkDE⟩
instance i11_37 : WR Tryd.prog 154 u11_37 (rCE (.t 140) u11_38 u11_39 [1, 4, 5, 6, 8, 140]) := ⟨mkCE⟩
instance i11_36 : WR Tryd.prog 154 u11_36 (rS u11_36r u11_37 [1, 4, 5, 6, 8, 44]) := ⟨mkS⟩
instance i11_34 : WR Tryd.prog 154 u11_34 (rCE (.t 135) u11_35 u11_36 [1, 4, 5, 6, 8, 44, 135]) := ⟨mkCE⟩
instance i11_33 : WR Tryd.prog 154 u11_33 (rS u11_33r u11_34 [1, 4, 5, 6, 8, 44]) := ⟨mkS⟩
instance i11_31 : WR Tryd.prog 154 u11_31 (rCE (.t 115) u11_32 u11_33 [1, 4, 5, 6, 7, 8, 44, 115]) := ⟨mkCE⟩
instance i11_30 : WR Tryd.prog 154 u11_30 (rS u11_30r u11_31 [1, 4, 5, 6, 7, 8, 44]) := ⟨mkS⟩
instance i11_28 : WR Tryd.prog 154 u11_28 (rCE (.t 98) u11_29 u11_30 [1, 4, 5, 6, 7, 8, 44, 98]) := ⟨mkCE⟩
instance i11_27 : WR Tryd.prog 154 u11_27 (rS u11_27r u11_28 [1, 4, 5, 6, 7, 8, 44]) := ⟨mkS⟩
instance i11_25 : WR Tryd.prog 154 u11_25 (rCE (.t 84) u11_26 u11_27 [1, 4, 5, 6, 7, 8, 44, 84]) := ⟨mkCE⟩
instance i11_24 : WR Tryd.prog 154 u11_24 (rS u11_24r u11_25 [1, 4, 5, 6, 7, 8, 44]) := ⟨mkS⟩
instance i11_22 : WR Tryd.prog 154 u11_22 (rCE (.t 75) u11_23 u11_24 [1, 4, 5, 6, 7, 8, 44, 75]) := ⟨mkCE⟩
instance i11_21 : WR Tryd.prog 154 u11_21 (rS u11_21r u11_22 [1, 4, 5, 6, 7, 8, 44]) := ⟨mkS⟩
instance i11_19 : WR Tryd.prog 154 u11_19 (rCE (.t 67) u11_20 u11_21 [1, 4, 5, 6, 7, 8, 44, 67]) := ⟨mkCE⟩
instance i11_18 : WR Tryd.prog 154 u11_18 (rS u11_18r u11_19 [1, 4, 5, 6, 7, 8, 44]) := ⟨mkS⟩
instance i11_16 : WR Tryd.prog 154 u11_16 (rCE (.t 58) u11_17 u11_18 [1, 4, 5, 6, 7, 8, 44, 58]) := ⟨mkCE⟩
instance i11_15 : WR Tryd.prog 154 u11_15 (rS u11_15r u11_16 [1, 4, 5, 6, 7, 8, 44]) := ⟨mkS⟩
instance i11_14 : WR Tryd.prog 154 u11_14 (rBE 2 u11_15 [1, 4, 5, 6, 7, 8, 44]) := ⟨mkBE⟩
instance i11_13 : WR Tryd.prog 154 u11_13 (rS u11_13r u11_14 [1, 4, 5, 6, 7, 8]) := ⟨mkS⟩
instance i11_41 : WR Tryd.prog 154 u11_41 (rCE (.t 152) (.exit 0) .skip [1, 4, 5, 6, 152]) := ⟨mkCE⟩
instance i11_40 : WR Tryd.prog 154 u11_40 (rS u11_40r u11_41 [1, 4, 5, 6]) := ⟨mkS⟩
instance i11_12 : WR Tryd.prog 154 u11_12 (rQ u11_13 u11_40 [1, 4, 5, 6, 7, 8]) := ⟨mkQ⟩
instance i11_11 : WR Tryd.prog 154 u11_11 (rS u11_11r u11_12 [1, 4, 5, 6, 7]) := ⟨mkS⟩
instance i11_10 : WR Tryd.prog 154 u11_10 (rP 11 u11_10r u11_11 [1, 4, 5, 6]) := ⟨mkP rfl⟩
instance i11_42 : WR Tryd.prog 154 u11_42 (rE u11_42r [1, 4, 5, 6]) := ⟨mkE⟩
instance i11_9 : WR Tryd.prog 154 u11_9 (rB 1 u11_10 u11_42 [1, 4, 5, 6]) := ⟨mkB⟩
instance i11_6 : WR Tryd.prog 154 u11_6 (rQ u11_7 u11_9 [1, 4, 5, 6]) := ⟨mkQ⟩
instance i11_5 : WR Tryd.prog 154 u11_5 (rBE 0 (.loop u11_6) [1, 4, 5, 6]) := ⟨mkBE⟩
instance i11_4 : WR Tryd.prog 154 u11_4 (rS u11_4r u11_5 [1, 4, 5]) := ⟨mkS⟩
instance i11_43 : WR Tryd.prog 154 u11_43 (rS u11_43r .ret [4, 5]) := ⟨mkS⟩
instance i11_3 : WR Tryd.prog 154 u11_3 (rQ u11_4 u11_43 [1, 4, 5]) := ⟨mkQ⟩
instance i11_2 : WR Tryd.prog 154 u11_2 (rS u11_2r u11_3 [0, 1, 4]) := ⟨mkS⟩
instance i11_1 : WR Tryd.prog 154 u11_1 (rS u11_1r u11_2 [0, 1]) := ⟨mkS⟩
attribute [go_sem] u11_7r u11_17r u11_20r u11_23r u11_26r u11_29r u11_32r u11_35r u11_38r u11_39r u11_36r u11_33r u11_30r u11_27r u11_24r u11_21r u11_18r u11_15r u11_13r u11_40r u11_11r u11_10r u11_42r u11_4r u11_43r u11_2r u11_1r
theorem c_Broken (l m : List UInt8) (hl : l.length ≤ 9223372036854775807) (hm : m.length ≤ 9223372036854775807) : PC Tryd.prog 11 [.lst (bytesC l), .lst (bytesC m)] (brokenM l m).v := by
  have nlb : ∀ l, DV.nlL (bytesC l) = true := fun l => nlL_map (fun _ => rfl) l
  refine PC.of mixedU isU11 (Nat.le_of_ble_eq_true rfl) (by simp [DV.nlL, DV.nl, nlb]) (by simp [DV.nlL, DV.nl, nlL_ints, nlL_strs, nlL_instrs, nlL_entries]) ?_
  show IW Tryd.prog 154 u11_1 ⟨argT _, _, _⟩ (rt [.cell 4 7 true] _)
  have hlen := bytesC_len m
  repeat' ((first | (with_reducible first | refine wr ?_ | refine i_ret ?_ | refine i_skip ?_ | refine i_exit ?_) | ((with_reducible first | refine k_cb ?_ ?_ | refine k_gb ?_ ?_ | refine k_gb' ?_ ?_) <;> (intro hb; try simp only [hb]))) <;> try simp only [go_sem, Nat.reduceAdd, Nat.reduceLeDiff, Nat.reduceEqDiff, Nat.reduceMul, Nat.reduceSub, ↓reduceIte, Int.reduceLT, Int.reduceLE, Int.reduceGT, Int.reduceGE, Nat.reduceLT, Nat.reduceGT, Int.reduceToNat, reduceCtorEq, Nat.reduceBEq, Int.reduceBEq, Int.reduceBNe, Int.reduceEq, Int.reduceNe, decide_true, decide_false])
  refine AC.call (c_MadeO l hl _ _) ?_
  rintro v H' c1 ⟨rfl, rfl, rfl⟩ hc1
  simp only [go_sem, Nat.reduceAdd, Nat.reduceLeDiff, Nat.reduceEqDiff, Nat.reduceMul, Nat.reduceSub, ↓reduceIte, Int.reduceLT, Int.reduceLE, Int.reduceGT, Int.reduceGE, Nat.reduceLT, Nat.reduceGT, Int.reduceToNat, reduceCtorEq, Nat.reduceBEq, Int.reduceBEq, Int.reduceBNe, Int.reduceEq, Int.reduceNe, decide_true, decide_false, madeO, ]
  repeat' ((first | (with_reducible first | refine wr ?_ | refine i_ret ?_ | refine i_skip ?_ | refine i_exit ?_) | ((with_reducible first | refine k_cb ?_ ?_ | refine k_gb ?_ ?_ | refine k_gb' ?_ ?_) <;> (intro hb; try simp only [hb]))) <;> try simp only [go_sem, Nat.reduceAdd, Nat.reduceLeDiff, Nat.reduceEqDiff, Nat.reduceMul, Nat.reduceSub, ↓reduceIte, Int.reduceLT, Int.reduceLE, Int.reduceGT, Int.reduceGE, Nat.reduceLT, Nat.reduceGT, Int.reduceToNat, reduceCtorEq, Nat.reduceBEq, Int.reduceBEq, Int.reduceBNe, Int.reduceEq, Int.reduceNe, decide_true, decide_false, madeO,])
  refine i_loopG (fun q : Nat × Option Nat × Prg => [(1, .lst (bytesC m)), (4, .ptr 0 0), (5, .ptr 2 0), (6, I64 ((3 * q.1 : Nat) : Int))]) (fun q => BH q.2.1 q.2.2)
    (fun q cc => BO q.2.1 cc ∧ q.1 ≤ 3 ∧ (∃ a, q.2.1 = some a) ∧ BB q.2.2 q.1 ∧ q.2.2.instrs ≠ [] ∧ bkGo (3 - q.1) (m.drop (3 * q.1)) q.2.2 = brokenM l m) (fun q => 3 - q.1) (0, some 1, madeM l)
    (fun q => by simp [tmLe, tm, Tm.upd]) (by simp [tmLe, tm, Tm.upd]) (BH_sub (by repeat (first | exact h_same | rw [h_ne (by omega)])) h_same (fun i hi => by cases hi; repeat (first | exact h_same | rw [h_ne (by omega)])))
    ⟨⟨by omega, fun i hi => by cases hi; omega⟩, by simp, ⟨1, rfl⟩, BB.made l, madeM_ne l, rfl⟩ ?_
  rintro ⟨j, o, c⟩ cc ⟨hO, hj3, ⟨a, ha⟩, hB, hne, hgo⟩
  simp only at hO hj3 ha hB hne hgo
  subst ha
  simp only
  have h3 := hO.c
  have haa := hO.a a rfl
  obtain ⟨B1, B2, B3, B4, B5, B6, B7, B8, B9, B10⟩ := id hB
  obtain ⟨n, hn⟩ : ∃ n, n = c.instrs.length := ⟨_, rfl⟩
  have hn0 : n ≠ 0 := fun e => hne (List.length_eq_zero_iff.1 (by rw [← hn, e]))
  have hD2 := BH_2 (c := c) hO
  have hDa := BH_a (c := c) (o := some a) rfl
  have hD0 := BH_0 (c := c) hO
  unfold bCells at hD2
  simp only [todo_s] at hD2
  rw [← hn] at hD2
  obtain ⟨i, hi⟩ : ∃ i, i = 3 * j := ⟨_, rfl⟩
  rw [← hi]
  have hw1 : IntKind.i64.wrap ((i : Int) + 1) = ((i + 1 : Nat) : Int) := by rw [w64 (by omega) (by omega)]; omega
  have hw2 : IntKind.i64.wrap ((i : Int) + 2) = ((i + 2 : Nat) : Int) := by rw [w64 (by omega) (by omega)]; omega
  have hw3 : IntKind.i64.wrap ((i : Int) + 3) = ((i + 3 : Nat) : Int) := by rw [w64 (by omega) (by omega)]; omega
  by_cases h1 : i + 2 < m.length
  · have hd1 : decide (((i + 2 : Nat) : Int) < ((m.length : Nat) : Int)) = true := by simp; omega
    by_cases h2 : j < 3
    · have hd2 : decide ((i : Int) < 9) = true := by simp; omega
      obtain ⟨x, hx⟩ : ∃ x, m[i]? = some x := ⟨_, List.getElem?_eq_getElem (by omega)⟩
      obtain ⟨y, hy⟩ : ∃ x, m[i + 1]? = some x := ⟨_, List.getElem?_eq_getElem (by omega)⟩
      obtain ⟨z, hz⟩ : ∃ x, m[i + 2]? = some x := ⟨_, List.getElem?_eq_getElem (by omega)⟩
      have hgo2 := go_next (c := c) h2 (by rw [← hi]; exact hx) (by rw [← hi]; exact hy) (by rw [← hi]; exact hz)
      rw [hgo] at hgo2
      obtain ⟨xn, hxn⟩ : ∃ n, n = x.toNat := ⟨_, rfl⟩
      obtain ⟨yn, hyn⟩ : ∃ n, n = y.toNat := ⟨_, rfl⟩
      obtain ⟨zn, hzn⟩ : ∃ n, n = z.toNat := ⟨_, rfl⟩
      have lx : xn < 256 := by rw [hxn]; exact x.toNat_lt
      have ly : yn < 256 := by rw [hyn]; exact y.toNat_lt
      have lz : zn < 256 := by rw [hzn]; exact z.toNat_lt
      have gx : (bytesC m)[i]? = some (.int .u8 (xn : Int)) := by rw [bytesC, List.getElem?_map, hx, hxn]; rfl
      have gy : (bytesC m)[i + 1]? = some (.int .u8 (yn : Int)) := by rw [bytesC, List.getElem?_map, hy, hyn]; rfl
      have gz : (bytesC m)[i + 2]? = some (.int .u8 (zn : Int)) := by rw [bytesC, List.getElem?_map, hz, hzn]; rfl
      have hb := Nat.mul_le_mul (Nat.le_of_lt lx) (show n ≤ 450 by omega)
      have vx : IntKind.i64.wrap (xn : Int) = (xn : Int) := w64 (by omega) (by omega)
      have vz : IntKind.i64.wrap (zn : Int) = (zn : Int) := w64 (by omega) (by omega)
      have vm : IntKind.i64.wrap ((xn : Int) * (n : Int)) = ((xn * n : Nat) : Int) := by rw [w64 (by rw [← Int.natCast_mul]; omega) (by rw [← Int.natCast_mul]; omega), Int.natCast_mul]
      obtain ⟨k, hk⟩ : ∃ k, k = xn * n / 256 := ⟨_, rfl⟩
      have hkn : k < n := by
        rw [hk, Nat.div_lt_iff_lt_mul (by omega), Nat.mul_comm n 256]; exact Nat.mul_lt_mul_of_pos_right lx (by omega)
      have vk : IntKind.i64.wrap (((xn * n : Nat) : Int).tdiv 256) = (k : Int) := by
        have e : ((xn * n : Nat) : Int).tdiv 256 = (k : Int) := by rw [hk]; exact (Int.ofNat_tdiv _ _).symm
        rw [e, w64 (by omega) (by omega)]
      obtain ⟨v, hv⟩ : ∃ v : Int, v = (zn : Int) - 3 := ⟨_, rfl⟩
      have vv : IntKind.i64.wrap ((zn : Int) - 3) = v := by rw [hv, w64 (by omega) (by omega)]
      obtain ⟨r, hr⟩ : ∃ r, r = yn % 9 := ⟨_, rfl⟩
      have vr : (yn : Int).tmod 9 = (r : Int) := by rw [hr]; exact (Int.ofNat_tmod _ _).symm
      have q1 : binR BinOp.quo (I64 ((xn * n : Nat) : Int)) (I64 256) = some (I64 (k : Int)) := by rw [r_quo (by omega), vk]
      have q2 : binR BinOp.rem (.int .u8 (yn : Int)) (.int .u8 9) = some (.int .u8 (r : Int)) := by rw [r_rem (by omega), vr]
      have q3 : ∀ d : Int, d ≠ 0 → binR BinOp.rem (I64 v) (I64 d) = some (I64 (v.tmod d)) := fun d hd => r_rem hd
      have q34 := q3 34 (by omega)
      have q12 := q3 12 (by omega)
      have q05 := q3 5 (by omega)
      have q03 := q3 3 (by omega)
      have q08 : binR BinOp.rem (I64 (xn : Int)) (I64 8) = some (I64 ((xn % 8 : Nat) : Int)) := by rw [r_rem (by omega)]; exact congrArg (fun x => some (I64 x)) (Int.ofNat_tmod _ _).symm
      have hst : bkStep c x y z = bkR c r k v x z := by unfold bkStep; rw [← hxn, ← hyn, ← hzn, ← hr, ← hn, ← hk, ← hv]
      have hBn := hB.step x y z
      rw [hst] at hgo2 hBn
      have hr9 : r < 9 := by omega
      have hz0 : ((n : Int) == 0) = false := by simp; omega
      have hia : iadR 2 (.slc a 0 n) (I64 (k : Int)) = some (.ptr a (k * 2)) := by rw [r_iadsn hkn, Nat.zero_add]
      have hIl : (insC c.instrs).length = n * 2 := by rw [insC_len2, hn]
      have hl0 : k * 2 + 0 + 1 ≤ (insC c.instrs).length := by omega
      have hl1 : k * 2 + 1 + 1 ≤ (insC c.instrs).length := by omega
      have hl0' : k * 2 + 1 ≤ (insC c.instrs).length := by omega
      have F0 : BH (some a) c (cc + 11) = none := BH_n hO (by omega)
      have F1 : BH (some a) c (cc + 11 + 1) = none := BH_n hO (by omega)
      have F2 : BH (some a) c (cc + 11 + 2) = none := BH_n hO (by omega)
      have F3 : BH (some a) c (cc + 11 + 3) = none := BH_n hO (by omega)
      have F4 : BH (some a) c (cc + 11 + 4) = none := BH_n hO (by omega)
      have F5 : BH (some a) c (cc + 11 + 5) = none := BH_n hO (by omega)
      have F6 : BH (some a) c (cc + 11 + 6) = none := BH_n hO (by omega)
      have F7 : BH (some a) c (cc + 11 + 7) = none := BH_n hO (by omega)
      have F8 : BH (some a) c (cc + 11 + 8) = none := BH_n hO (by omega)
      have F9 : BH (some a) c (cc + 11 + 9) = none := BH_n hO (by omega)
      have F10 : BH (some a) c (cc + 11 + 10) = none := BH_n hO (by omega)
      have F11 : BH (some a) c (cc + 11 + 11) = none := BH_n hO (by omega)
      have F12 : BH (some a) c (cc + 11 + 12) = none := BH_n hO (by omega)
      have F13 : BH (some a) c (cc + 11 + 13) = none := BH_n hO (by omega)
      have F14 : BH (some a) c (cc + 11 + 14) = none := BH_n hO (by omega)
      have F15 : BH (some a) c (cc + 11 + 15) = none := BH_n hO (by omega)
      have F16 : BH (some a) c (cc + 11 + 16) = none := BH_n hO (by omega)
      have F17 : BH (some a) c (cc + 11 + 17) = none := BH_n hO (by omega)
      have F18 : BH (some a) c (cc + 11 + 18) = none := BH_n hO (by omega)
      have F19 : BH (some a) c (cc + 11 + 19) = none := BH_n hO (by omega)
      have hv9 : r = 0 ∨ r = 1 ∨ r = 2 ∨ r = 3 ∨ r = 4 ∨ r = 5 ∨ r = 6 ∨ r = 7 ∨ r = 8 := by omega
      have e3 : 3 * (j + 1) = i + 3 := by omega
      have hkle : k ≤ n := by omega
      have hwk : IntKind.i64.wrap ((k : Int) + 1) = ((k + 1 : Nat) : Int) := by rw [w64 (by omega) (by omega)]; omega
      have hs1 : ∀ H, slcR H 2 (.slc a 0 n) none (some (I64 (k : Int))) = some (.slc a 0 k) := fun H => r_slch hkle
      have hc1 : srB 2 0 k (some ⟨2, true, insC c.instrs⟩) = some (k, insC (c.instrs.take k)) := by
        have := b_srcI (I := c.instrs) (k := 0) (m := k) (o := true) (by omega)
        rw [Nat.zero_mul, List.drop_zero] at this; exact this
      have htl : (c.instrs.take k).length = k := by rw [List.length_take]; omega
      have htc : (insC (c.instrs.take k)).length = k * 2 := by rw [insC_len2, htl]
      rcases hv9 with re | re | re | re | re | re | re | re | re
      · subst re
        have nk : ((0 : Nat) : Int) = 0 := rfl
        have ne0 : ¬ 0 = a := by omega
        have ne1 : ¬ 2 = a := by omega
        have ne2 : ¬ a = 0 := by omega
        have ne3 : ¬ a = 2 := by omega
        repeat' ((first | (with_reducible first | refine wr ?_ | refine i_ret ?_ | refine i_skip ?_ | refine i_exit ?_) | ((with_reducible first | refine k_cb ?_ ?_ | refine k_gb ?_ ?_ | refine k_gb' ?_ ?_) <;> (intro hb; try simp only [hb]))) <;> try simp only [go_sem, Nat.reduceAdd, Nat.reduceLeDiff, Nat.reduceEqDiff, Nat.reduceMul, Nat.reduceSub, ↓reduceIte, Int.reduceLT, Int.reduceLE, Int.reduceGT, Int.reduceGE, Nat.reduceLT, Nat.reduceGT, Int.reduceToNat, reduceCtorEq, Nat.reduceBEq, Int.reduceBEq, Int.reduceBNe, Int.reduceEq, Int.reduceNe, decide_true, decide_false, nk, hz0, hia, hl0, hl0', Int.reduceBEq, hw1, hw2, hw3, hd1, hd2, hlen, gx, gy, gz, vx, vz, vm, q1, q2, q34, q12, q05, q03, q08, vv, hD2, hDa, hD0, F0, F1, F2, F3, F4, F5, F6, F7, F8, F9, F10, F11, F12, F13, F14, F15, F16, F17, F18, F19, ne0, ne1, ne2, ne3])
        have hne2 : (bkR c 0 k v x z).instrs ≠ [] := by exact fun e => hne (by simpa [bkR] using e)
        rw [if_neg hne2] at hgo2
        refine ⟨(j + 1, some a, bkR c 0 k v x z), by rw [e3], GL.less' (BH_sub ?_ ?_ fun i hi => ?_), inv ⟨⟨by omega, fun i hi => by cases hi; omega⟩, by simp only; omega, ⟨_, rfl⟩, hBn, hne2, hgo2.symm⟩, by simp only; omega⟩
        · rw [h_ne (by omega)]; exact hD0
        · rw [h_ne (by omega), hD2]; simp only [bCells, todo_s, bkR, List.length_set, ← hn]
        · cases hi; rw [h_same]; simp only [bkR]; rw [insC_set0 (by omega)]
      · subst re
        have nk : ((1 : Nat) : Int) = 1 := rfl
        have ne0 : ¬ 0 = a := by omega
        have ne1 : ¬ 2 = a := by omega
        have ne2 : ¬ a = 0 := by omega
        have ne3 : ¬ a = 2 := by omega
        repeat' ((first | (with_reducible first | refine wr ?_ | refine i_ret ?_ | refine i_skip ?_ | refine i_exit ?_) | ((with_reducible first | refine k_cb ?_ ?_ | refine k_gb ?_ ?_ | refine k_gb' ?_ ?_) <;> (intro hb; try simp only [hb]))) <;> try simp only [go_sem, Nat.reduceAdd, Nat.reduceLeDiff, Nat.reduceEqDiff, Nat.reduceMul, Nat.reduceSub, ↓reduceIte, Int.reduceLT, Int.reduceLE, Int.reduceGT, Int.reduceGE, Nat.reduceLT, Nat.reduceGT, Int.reduceToNat, reduceCtorEq, Nat.reduceBEq, Int.reduceBEq, Int.reduceBNe, Int.reduceEq, Int.reduceNe, decide_true, decide_false, nk, hz0, hia, hl1, Int.reduceBEq, hw1, hw2, hw3, hd1, hd2, hlen, gx, gy, gz, vx, vz, vm, q1, q2, q34, q12, q05, q03, q08, vv, hD2, hDa, hD0, F0, F1, F2, F3, F4, F5, F6, F7, F8, F9, F10, F11, F12, F13, F14, F15, F16, F17, F18, F19, ne0, ne1, ne2, ne3])
        have hne2 : (bkR c 1 k v x z).instrs ≠ [] := by exact fun e => hne (by simpa [bkR] using e)
        rw [if_neg hne2] at hgo2
        refine ⟨(j + 1, some a, bkR c 1 k v x z), by rw [e3], GL.less' (BH_sub ?_ ?_ fun i hi => ?_), inv ⟨⟨by omega, fun i hi => by cases hi; omega⟩, by simp only; omega, ⟨_, rfl⟩, hBn, hne2, hgo2.symm⟩, by simp only; omega⟩
        · rw [h_ne (by omega)]; exact hD0
        · rw [h_ne (by omega), hD2]; simp only [bCells, todo_s, bkR, List.length_set, ← hn]
        · cases hi; rw [h_same]; simp only [bkR]; rw [insC_set1 (by omega)]
      · subst re
        have nk : ((2 : Nat) : Int) = 2 := rfl
        have ne0 : ¬ 0 = a := by omega
        have ne1 : ¬ 2 = a := by omega
        have ne2 : ¬ a = 0 := by omega
        have ne3 : ¬ a = 2 := by omega
        repeat' ((first | (with_reducible first | refine wr ?_ | refine i_ret ?_ | refine i_skip ?_ | refine i_exit ?_) | ((with_reducible first | refine k_cb ?_ ?_ | refine k_gb ?_ ?_ | refine k_gb' ?_ ?_) <;> (intro hb; try simp only [hb]))) <;> try simp only [go_sem, Nat.reduceAdd, Nat.reduceLeDiff, Nat.reduceEqDiff, Nat.reduceMul, Nat.reduceSub, ↓reduceIte, Int.reduceLT, Int.reduceLE, Int.reduceGT, Int.reduceGE, Nat.reduceLT, Nat.reduceGT, Int.reduceToNat, reduceCtorEq, Nat.reduceBEq, Int.reduceBEq, Int.reduceBNe, Int.reduceEq, Int.reduceNe, decide_true, decide_false, nk, hz0, hia, hl1, Int.reduceBEq, hw1, hw2, hw3, hd1, hd2, hlen, gx, gy, gz, vx, vz, vm, q1, q2, q34, q12, q05, q03, q08, vv, hD2, hDa, hD0, F0, F1, F2, F3, F4, F5, F6, F7, F8, F9, F10, F11, F12, F13, F14, F15, F16, F17, F18, F19, ne0, ne1, ne2, ne3])
        have hne2 : (bkR c 2 k v x z).instrs ≠ [] := by exact fun e => hne (by simpa [bkR] using e)
        rw [if_neg hne2] at hgo2
        refine ⟨(j + 1, some a, bkR c 2 k v x z), by rw [e3], GL.less' (BH_sub ?_ ?_ fun i hi => ?_), inv ⟨⟨by omega, fun i hi => by cases hi; omega⟩, by simp only; omega, ⟨_, rfl⟩, hBn, hne2, hgo2.symm⟩, by simp only; omega⟩
        · rw [h_ne (by omega)]; exact hD0
        · rw [h_ne (by omega), hD2]; simp only [bCells, todo_s, bkR, List.length_set, ← hn]
        · cases hi; rw [h_same]; simp only [bkR]; rw [insC_set1 (by omega)]
      · subst re
        have nk : ((3 : Nat) : Int) = 3 := rfl
        have P5_13 : ¬ cc + 11 + 5 = cc + 11 + 13 := by omega
        have P6_13 : ¬ cc + 11 + 6 = cc + 11 + 13 := by omega
        have P7_13 : ¬ cc + 11 + 7 = cc + 11 + 13 := by omega
        have P8_13 : ¬ cc + 11 + 8 = cc + 11 + 13 := by omega
        have P9_13 : ¬ cc + 11 + 9 = cc + 11 + 13 := by omega
        have hdl : (c.instrs.drop (k + 1)).length = n - (k + 1) := by rw [List.length_drop, hn]
        by_cases hk0 : k = 0
        · have ha1 : ∀ (H : Hp) c', appR H c' 2 16 .snil k (insC (c.instrs.take k)) = some (.snil, H, c') := fun H c' => by rw [hk0]; rfl
          have ht0 : c.instrs.take k = [] := by rw [hk0]; rfl
          by_cases hke : k + 1 = n
          · have hs2 : ∀ H, slcR H 2 (.slc a 0 n) (some (I64 ((k + 1 : Nat) : Int))) none = some (.lst []) := fun H => by rw [hke]; exact r_slcend hn0 H
            have hsn : ∀ H, srcOf H 2 (.lst []) = some (0, []) := fun H => r_srcl rfl
            have ha2 : ∀ (H : Hp) c', appR H c' 2 16 .snil 0 [] = some (.snil, H, c') := fun H c' => rfl
            have ne0 : ¬ 0 = a := by omega
            have ne1 : ¬ 2 = a := by omega
            have ne2 : ¬ a = 0 := by omega
            have ne3 : ¬ a = 2 := by omega
            repeat' ((first | (with_reducible first | refine wr ?_ | refine i_ret ?_ | refine i_skip ?_ | refine i_exit ?_) | ((with_reducible first | refine k_cb ?_ ?_ | refine k_gb ?_ ?_ | refine k_gb' ?_ ?_) <;> (intro hb; try simp only [hb]))) <;> try simp only [go_sem, Nat.reduceAdd, Nat.reduceLeDiff, Nat.reduceEqDiff, Nat.reduceMul, Nat.reduceSub, ↓reduceIte, Int.reduceLT, Int.reduceLE, Int.reduceGT, Int.reduceGE, Nat.reduceLT, Nat.reduceGT, Int.reduceToNat, reduceCtorEq, Nat.reduceBEq, Int.reduceBEq, Int.reduceBNe, Int.reduceEq, Int.reduceNe, decide_true, decide_false, nk, hs1, hs2, hwk, hc1, ha1, hsn, ha2, Int.reduceBEq, hw1, hw2, hw3, hd1, hd2, hlen, gx, gy, gz, vx, vz, vm, q1, q2, q34, q12, q05, q03, q08, vv, hD2, hDa, hD0, F0, F1, F2, F3, F4, F5, F6, F7, F8, F9, F10, F11, F12, F13, F14, F15, F16, F17, F18, F19, ne0, ne1, ne2, ne3])
            have hI : (bkR c 3 k v x z).instrs = [] := by
              show c.instrs.take k ++ c.instrs.drop (k + 1) = []
              rw [ht0, List.nil_append]; exact List.length_eq_zero_iff.1 (by omega)
            rw [if_pos hI] at hgo2
            rw [k_rv (v := .agg (bCells none (bkR c 3 k v x z))) rfl, hgo2]
            dsimp only
            exact b_fin (o := none) (by rw [h_same]; rfl) (fun i hi => by cases hi) (fun _ => hI)
          · have hs2 : ∀ H, slcR H 2 (.slc a 0 n) (some (I64 ((k + 1 : Nat) : Int))) none = slB a 0 2 (k + 1) n (H a) := fun H => r_slclo (by omega) (by omega) H
            have hs3 : slB a 0 2 (k + 1) n (some ⟨2, true, insC c.instrs⟩) = some (.slc a ((k + 1) * 2) (n - (k + 1))) := by rw [b_slB, Nat.zero_add]
            have hc3 : srB 2 ((k + 1) * 2) (n - (k + 1)) (some ⟨2, true, insC c.instrs⟩) = some (n - (k + 1), insC (c.instrs.drop (k + 1))) := by rw [b_srcI (by omega), List.take_of_length_le (by omega)]
            have ha2 : ∀ (H : Hp) c', appR H c' 2 16 .snil (n - (k + 1)) (insC (c.instrs.drop (k + 1))) = some (.slc c' 0 (n - (k + 1)), H.upd c' ⟨2, true, insC (c.instrs.drop (k + 1))⟩, c' + 1) := fun H c' => r_appn' (by omega) (by omega) (by omega)
            have hz1 : ((((n - (k + 1) : Nat) : Int)) == 0) = false := by simp; omega
            have ne0 : ¬ 0 = a := by omega
            have ne1 : ¬ 0 = cc + 11 + 13 := by omega
            have ne2 : ¬ 0 = cc + 11 + 13 + 1 := by omega
            have ne3 : ¬ 2 = a := by omega
            have ne4 : ¬ 2 = cc + 11 + 13 := by omega
            have ne5 : ¬ 2 = cc + 11 + 13 + 1 := by omega
            have ne6 : ¬ a = 0 := by omega
            have ne7 : ¬ a = 2 := by omega
            have ne8 : ¬ a = cc + 11 + 13 := by omega
            have ne9 : ¬ a = cc + 11 + 13 + 1 := by omega
            have ne10 : ¬ cc + 11 + 13 = 0 := by omega
            have ne11 : ¬ cc + 11 + 13 = 2 := by omega
            have ne12 : ¬ cc + 11 + 13 = a := by omega
            have ne13 : ¬ cc + 11 + 13 = cc + 11 + 13 + 1 := by omega
            have ne14 : ¬ cc + 11 + 13 + 1 = 0 := by omega
            have ne15 : ¬ cc + 11 + 13 + 1 = 2 := by omega
            have ne16 : ¬ cc + 11 + 13 + 1 = a := by omega
            have ne17 : ¬ cc + 11 + 13 + 1 = cc + 11 + 13 := by omega
            repeat' ((first | (with_reducible first | refine wr ?_ | refine i_ret ?_ | refine i_skip ?_ | refine i_exit ?_) | ((with_reducible first | refine k_cb ?_ ?_ | refine k_gb ?_ ?_ | refine k_gb' ?_ ?_) <;> (intro hb; try simp only [hb]))) <;> try simp only [go_sem, Nat.reduceAdd, Nat.reduceLeDiff, Nat.reduceEqDiff, Nat.reduceMul, Nat.reduceSub, ↓reduceIte, Int.reduceLT, Int.reduceLE, Int.reduceGT, Int.reduceGE, Nat.reduceLT, Nat.reduceGT, Int.reduceToNat, reduceCtorEq, Nat.reduceBEq, Int.reduceBEq, Int.reduceBNe, Int.reduceEq, Int.reduceNe, decide_true, decide_false, nk, hs1, hs2, hs3, hwk, hc1, hc3, ha1, ha2, hz1, Int.reduceBEq, hw1, hw2, hw3, hd1, hd2, hlen, gx, gy, gz, vx, vz, vm, q1, q2, q34, q12, q05, q03, q08, vv, hD2, hDa, hD0, F0, F1, F2, F3, F4, F5, F6, F7, F8, F9, F10, F11, F12, F13, F14, F15, F16, F17, F18, F19, ne0, ne1, ne2, ne3, ne4, ne5, ne6, ne7, ne8, ne9, ne10, ne11, ne12, ne13, ne14, ne15, ne16, ne17])
            have hI : (bkR c 3 k v x z).instrs = c.instrs.take k ++ c.instrs.drop (k + 1) := rfl
            have hL : (bkR c 3 k v x z).instrs.length = n - (k + 1) := by rw [hI, List.length_append, htl, hdl]; omega
            have hne2 : (bkR c 3 k v x z).instrs ≠ [] := by rw [hI]; exact fun e => by have := congrArg List.length e; simp only [List.length_append, List.length_nil] at this; omega
            rw [if_neg hne2] at hgo2
            refine ⟨(j + 1, some (cc + 11 + 13), bkR c 3 k v x z), by rw [e3], GL.less' (BH_sub ?_ ?_ fun i hi => ?_), inv ⟨⟨by omega, fun i hi => by cases hi; omega⟩, by simp only; omega, ⟨_, rfl⟩, hBn, hne2, hgo2.symm⟩, by simp only; omega⟩
            · repeat (first | exact hD0 | rw [h_ne (by omega)] | rw [h_dne (by omega)])
            · rw [h_same]; simp only [bCells, todo_s]; rw [hL]; rfl
            · cases hi; rw [h_ne (by omega), h_same, hI, ht0, List.nil_append]
        · have ha1 : ∀ (H : Hp) c', appR H c' 2 16 .snil k (insC (c.instrs.take k)) = some (.slc c' 0 k, H.upd c' ⟨2, true, insC (c.instrs.take k)⟩, c' + 1) := fun H c' => r_appn' hk0 (by omega) (by omega)
          by_cases hke : k + 1 = n
          · have hs2 : ∀ H, slcR H 2 (.slc a 0 n) (some (I64 ((k + 1 : Nat) : Int))) none = some (.lst []) := fun H => by rw [hke]; exact r_slcend hn0 H
            have hsn : ∀ H, srcOf H 2 (.lst []) = some (0, []) := fun H => r_srcl rfl
            have ha2 : ∀ (H : Hp) (c' id : Nat), apB H c' id 2 16 k 0 [] (some ⟨2, true, insC (c.instrs.take k)⟩) = some (.slc c' 0 k, (H.del id).upd c' ⟨2, true, insC (c.instrs.take k)⟩, c' + 1) := fun H c' id => by
              rw [b_appx htc (by omega) (by omega), List.append_nil, Nat.add_zero]
            have hz1 : ((k : Int) == 0) = false := by simp; omega
            have hd0 : c.instrs.drop (k + 1) = [] := List.length_eq_zero_iff.1 (by omega)
            have ne0 : ¬ 0 = a := by omega
            have ne1 : ¬ 0 = cc + 11 + 13 := by omega
            have ne2 : ¬ 0 = cc + 11 + 13 + 1 := by omega
            have ne3 : ¬ 2 = a := by omega
            have ne4 : ¬ 2 = cc + 11 + 13 := by omega
            have ne5 : ¬ 2 = cc + 11 + 13 + 1 := by omega
            have ne6 : ¬ a = 0 := by omega
            have ne7 : ¬ a = 2 := by omega
            have ne8 : ¬ a = cc + 11 + 13 := by omega
            have ne9 : ¬ a = cc + 11 + 13 + 1 := by omega
            have ne10 : ¬ cc + 11 + 13 = 0 := by omega
            have ne11 : ¬ cc + 11 + 13 = 2 := by omega
            have ne12 : ¬ cc + 11 + 13 = a := by omega
            have ne13 : ¬ cc + 11 + 13 = cc + 11 + 13 + 1 := by omega
            have ne14 : ¬ cc + 11 + 13 + 1 = 0 := by omega
            have ne15 : ¬ cc + 11 + 13 + 1 = 2 := by omega
            have ne16 : ¬ cc + 11 + 13 + 1 = a := by omega
            have ne17 : ¬ cc + 11 + 13 + 1 = cc + 11 + 13 := by omega
            repeat' ((first | (with_reducible first | refine wr ?_ | refine i_ret ?_ | refine i_skip ?_ | refine i_exit ?_) | ((with_reducible first | refine k_cb ?_ ?_ | refine k_gb ?_ ?_ | refine k_gb' ?_ ?_) <;> (intro hb; try simp only [hb]))) <;> try simp only [go_sem, Nat.reduceAdd, Nat.reduceLeDiff, Nat.reduceEqDiff, Nat.reduceMul, Nat.reduceSub, ↓reduceIte, Int.reduceLT, Int.reduceLE, Int.reduceGT, Int.reduceGE, Nat.reduceLT, Nat.reduceGT, Int.reduceToNat, reduceCtorEq, Nat.reduceBEq, Int.reduceBEq, Int.reduceBNe, Int.reduceEq, Int.reduceNe, decide_true, decide_false, nk, hs1, hs2, hwk, hc1, ha1, hsn, ha2, hz1, P5_13, P6_13, P7_13, P8_13, P9_13, Int.reduceBEq, hw1, hw2, hw3, hd1, hd2, hlen, gx, gy, gz, vx, vz, vm, q1, q2, q34, q12, q05, q03, q08, vv, hD2, hDa, hD0, F0, F1, F2, F3, F4, F5, F6, F7, F8, F9, F10, F11, F12, F13, F14, F15, F16, F17, F18, F19, ne0, ne1, ne2, ne3, ne4, ne5, ne6, ne7, ne8, ne9, ne10, ne11, ne12, ne13, ne14, ne15, ne16, ne17])
            have hI : (bkR c 3 k v x z).instrs = c.instrs.take k ++ c.instrs.drop (k + 1) := rfl
            have hL : (bkR c 3 k v x z).instrs.length = k := by rw [hI, hd0, List.append_nil, htl]
            have hne2 : (bkR c 3 k v x z).instrs ≠ [] := by rw [hI]; exact fun e => by have := congrArg List.length e; simp only [List.length_append, List.length_nil] at this; omega
            rw [if_neg hne2] at hgo2
            refine ⟨(j + 1, some (cc + 11 + 13 + 1), bkR c 3 k v x z), by rw [e3], GL.less' (BH_sub ?_ ?_ fun i hi => ?_), inv ⟨⟨by omega, fun i hi => by cases hi; omega⟩, by simp only; omega, ⟨_, rfl⟩, hBn, hne2, hgo2.symm⟩, by simp only; omega⟩
            · repeat (first | exact hD0 | rw [h_ne (by omega)] | rw [h_dne (by omega)])
            · rw [h_same]; simp only [bCells, todo_s]; rw [hL]; rfl
            · cases hi; rw [h_ne (by omega), h_same, hI, hd0, List.append_nil]
          · have hs2 : ∀ H, slcR H 2 (.slc a 0 n) (some (I64 ((k + 1 : Nat) : Int))) none = slB a 0 2 (k + 1) n (H a) := fun H => r_slclo (by omega) (by omega) H
            have hs3 : slB a 0 2 (k + 1) n (some ⟨2, true, insC c.instrs⟩) = some (.slc a ((k + 1) * 2) (n - (k + 1))) := by rw [b_slB, Nat.zero_add]
            have hc3 : srB 2 ((k + 1) * 2) (n - (k + 1)) (some ⟨2, true, insC c.instrs⟩) = some (n - (k + 1), insC (c.instrs.drop (k + 1))) := by rw [b_srcI (by omega), List.take_of_length_le (by omega)]
            have ha2 : ∀ (H : Hp) (c' id : Nat), apB H c' id 2 16 k (n - (k + 1)) (insC (c.instrs.drop (k + 1))) (some ⟨2, true, insC (c.instrs.take k)⟩) = some (.slc c' 0 (k + (n - (k + 1))), (H.del id).upd c' ⟨2, true, insC (c.instrs.take k) ++ insC (c.instrs.drop (k + 1))⟩, c' + 1) := fun H c' id => b_appx htc (by omega) (by omega)
            have hz1 : ((((k + (n - (k + 1)) : Nat) : Int)) == 0) = false := by simp; omega
            have ne0 : ¬ 0 = a := by omega
            have ne1 : ¬ 0 = cc + 11 + 13 := by omega
            have ne2 : ¬ 0 = cc + 11 + 13 + 1 := by omega
            have ne3 : ¬ 2 = a := by omega
            have ne4 : ¬ 2 = cc + 11 + 13 := by omega
            have ne5 : ¬ 2 = cc + 11 + 13 + 1 := by omega
            have ne6 : ¬ a = 0 := by omega
            have ne7 : ¬ a = 2 := by omega
            have ne8 : ¬ a = cc + 11 + 13 := by omega
            have ne9 : ¬ a = cc + 11 + 13 + 1 := by omega
            have ne10 : ¬ cc + 11 + 13 = 0 := by omega
            have ne11 : ¬ cc + 11 + 13 = 2 := by omega
            have ne12 : ¬ cc + 11 + 13 = a := by omega
            have ne13 : ¬ cc + 11 + 13 = cc + 11 + 13 + 1 := by omega
            have ne14 : ¬ cc + 11 + 13 + 1 = 0 := by omega
            have ne15 : ¬ cc + 11 + 13 + 1 = 2 := by omega
            have ne16 : ¬ cc + 11 + 13 + 1 = a := by omega
            have ne17 : ¬ cc + 11 + 13 + 1 = cc + 11 + 13 := by omega
            repeat' ((first | (with_reducible first | refine wr ?_ | refine i_ret ?_ | refine i_skip ?_ | refine i_exit ?_) | ((with_reducible first | refine k_cb ?_ ?_ | refine k_gb ?_ ?_ | refine k_gb' ?_ ?_) <;> (intro hb; try simp only [hb]))) <;> try simp only [go_sem, Nat.reduceAdd, Nat.reduceLeDiff, Nat.reduceEqDiff, Nat.reduceMul, Nat.reduceSub, ↓reduceIte, Int.reduceLT, Int.reduceLE, Int.reduceGT, Int.reduceGE, Nat.reduceLT, Nat.reduceGT, Int.reduceToNat, reduceCtorEq, Nat.reduceBEq, Int.reduceBEq, Int.reduceBNe, Int.reduceEq, Int.reduceNe, decide_true, decide_false, nk, hs1, hs2, hs3, hwk, hc1, hc3, ha1, ha2, hz1, P5_13, P6_13, P7_13, P8_13, P9_13, Int.reduceBEq, hw1, hw2, hw3, hd1, hd2, hlen, gx, gy, gz, vx, vz, vm, q1, q2, q34, q12, q05, q03, q08, vv, hD2, hDa, hD0, F0, F1, F2, F3, F4, F5, F6, F7, F8, F9, F10, F11, F12, F13, F14, F15, F16, F17, F18, F19, ne0, ne1, ne2, ne3, ne4, ne5, ne6, ne7, ne8, ne9, ne10, ne11, ne12, ne13, ne14, ne15, ne16, ne17])
            have hI : (bkR c 3 k v x z).instrs = c.instrs.take k ++ c.instrs.drop (k + 1) := rfl
            have hL : (bkR c 3 k v x z).instrs.length = k + (n - (k + 1)) := by rw [hI, List.length_append, htl, hdl]
            have hne2 : (bkR c 3 k v x z).instrs ≠ [] := by rw [hI]; exact fun e => by have := congrArg List.length e; simp only [List.length_append, List.length_nil] at this; omega
            rw [if_neg hne2] at hgo2
            refine ⟨(j + 1, some (cc + 11 + 13 + 1), bkR c 3 k v x z), by rw [e3], GL.less' (BH_sub ?_ ?_ fun i hi => ?_), inv ⟨⟨by omega, fun i hi => by cases hi; omega⟩, by simp only; omega, ⟨_, rfl⟩, hBn, hne2, hgo2.symm⟩, by simp only; omega⟩
            · repeat (first | exact hD0 | rw [h_ne (by omega)] | rw [h_dne (by omega)])
            · rw [h_same]; simp only [bCells, todo_s]; rw [hL]; rfl
            · cases hi; rw [h_ne (by omega), h_same, hI, insC_app]
      · subst re
        have nk : ((4 : Nat) : Int) = 4 := rfl
        have P5_7 : ¬ cc + 11 + 5 = cc + 11 + 7 := by omega
        have P5_16 : ¬ cc + 11 + 5 = cc + 11 + 16 := by omega
        have P5_16_1 : ¬ cc + 11 + 5 = cc + 11 + 16 + 1 := by omega
        have P6_7 : ¬ cc + 11 + 6 = cc + 11 + 7 := by omega
        have P6_16 : ¬ cc + 11 + 6 = cc + 11 + 16 := by omega
        have P6_16_1 : ¬ cc + 11 + 6 = cc + 11 + 16 + 1 := by omega
        have P9_7 : ¬ cc + 11 + 9 = cc + 11 + 7 := by omega
        have P9_16 : ¬ cc + 11 + 9 = cc + 11 + 16 := by omega
        have P9_16_1 : ¬ cc + 11 + 9 = cc + 11 + 16 + 1 := by omega
        have P10_7 : ¬ cc + 11 + 10 = cc + 11 + 7 := by omega
        have P10_16 : ¬ cc + 11 + 10 = cc + 11 + 16 := by omega
        have P10_16_1 : ¬ cc + 11 + 10 = cc + 11 + 16 + 1 := by omega
        have P11_7 : ¬ cc + 11 + 11 = cc + 11 + 7 := by omega
        have P11_16 : ¬ cc + 11 + 11 = cc + 11 + 16 := by omega
        have P11_16_1 : ¬ cc + 11 + 11 = cc + 11 + 16 + 1 := by omega
        have P12_7 : ¬ cc + 11 + 12 = cc + 11 + 7 := by omega
        have P12_16 : ¬ cc + 11 + 12 = cc + 11 + 16 := by omega
        have P12_16_1 : ¬ cc + 11 + 12 = cc + 11 + 16 + 1 := by omega
        have hid4 : ∀ H, hide H [cc + 11 + 7] a = H a := fun H => by
          have : ¬ a = cc + 11 + 7 := by omega
          simp [hide, this]
        have hid4b : ∀ H, hide H [cc + 11 + 7] 2 = H 2 := fun H => by
          have : ¬ 2 = cc + 11 + 7 := by omega
          simp [hide, this]
        have hdl : (c.instrs.drop k).length = n - k := by rw [List.length_drop, hn]
        have hI : (bkR c 4 k v x z).instrs = c.instrs.take k ++ [⟨1, v⟩] ++ c.instrs.drop k := rfl
        have hm4 := fun H b => hm_upd1 (k := cc + 11 + 7) (a := cc + 11 + 16) (by omega) H b
        have hmb4 := fun H b => hm_upd1 (k := cc + 11 + 7) (a := cc + 11 + 16 + 1) (by omega) H b
        have hne4 : (bkR c 4 k v x z).instrs.length ≠ 0 := by rw [hI]; simp
        by_cases hk0 : k = 0
        · have ha1 : ∀ (H : Hp) c', appR H c' 2 16 .snil k (insC (c.instrs.take k)) = some (.snil, H, c') := fun H c' => by rw [hk0]; rfl
          have ht0 : c.instrs.take k = [] := by rw [hk0]; rfl
          have hd0 : c.instrs.drop k = c.instrs := by rw [hk0]; rfl
          have ha2 : ∀ (H : Hp) c' cs, appR H c' 2 16 .snil 1 cs = some (.slc c' 0 1, H.upd c' ⟨2, true, cs⟩, c' + 1) := fun H c' cs => r_appn' (by omega) (by omega) (by omega)
          have hs2 : ∀ H, slcR H 2 (.slc a 0 n) (some (I64 (k : Int))) none = some (.slc a 0 n) := fun H => by rw [hk0]; exact r_slcall H
          have hc3 : srB 2 0 n (some ⟨2, true, insC c.instrs⟩) = some (n, insC c.instrs) := by
            have := b_srcI (I := c.instrs) (k := 0) (m := n) (o := true) (by omega)
            rw [Nat.zero_mul, List.drop_zero, List.take_of_length_le (by omega)] at this; exact this
          have ha3 : ∀ (H : Hp) (c' id : Nat) w1 w2, apB H c' id 2 16 1 n (insC c.instrs) (some ⟨2, true, [w1, w2]⟩) = some (.slc c' 0 (1 + n), (H.del id).upd c' ⟨2, true, [w1, w2] ++ insC c.instrs⟩, c' + 1) := fun H c' id w1 w2 => b_appx rfl (by omega) (by omega)
          have hz1 : ((((1 + n : Nat) : Int)) == 0) = false := by simp; omega
          have ne0 : ¬ 0 = a := by omega
          have ne1 : ¬ 0 = cc + 11 + 7 := by omega
          have ne2 : ¬ 0 = cc + 11 + 16 := by omega
          have ne3 : ¬ 0 = cc + 11 + 16 + 1 := by omega
          have ne4 : ¬ 0 = cc + 11 + 16 + 1 + 1 := by omega
          have ne5 : ¬ 2 = a := by omega
          have ne6 : ¬ 2 = cc + 11 + 7 := by omega
          have ne7 : ¬ 2 = cc + 11 + 16 := by omega
          have ne8 : ¬ 2 = cc + 11 + 16 + 1 := by omega
          have ne9 : ¬ 2 = cc + 11 + 16 + 1 + 1 := by omega
          have ne10 : ¬ a = 0 := by omega
          have ne11 : ¬ a = 2 := by omega
          have ne12 : ¬ a = cc + 11 + 7 := by omega
          have ne13 : ¬ a = cc + 11 + 16 := by omega
          have ne14 : ¬ a = cc + 11 + 16 + 1 := by omega
          have ne15 : ¬ a = cc + 11 + 16 + 1 + 1 := by omega
          have ne16 : ¬ cc + 11 + 7 = 0 := by omega
          have ne17 : ¬ cc + 11 + 7 = 2 := by omega
          have ne18 : ¬ cc + 11 + 7 = a := by omega
          have ne19 : ¬ cc + 11 + 7 = cc + 11 + 16 := by omega
          have ne20 : ¬ cc + 11 + 7 = cc + 11 + 16 + 1 := by omega
          have ne21 : ¬ cc + 11 + 7 = cc + 11 + 16 + 1 + 1 := by omega
          have ne22 : ¬ cc + 11 + 16 = 0 := by omega
          have ne23 : ¬ cc + 11 + 16 = 2 := by omega
          have ne24 : ¬ cc + 11 + 16 = a := by omega
          have ne25 : ¬ cc + 11 + 16 = cc + 11 + 7 := by omega
          have ne26 : ¬ cc + 11 + 16 = cc + 11 + 16 + 1 := by omega
          have ne27 : ¬ cc + 11 + 16 = cc + 11 + 16 + 1 + 1 := by omega
          have ne28 : ¬ cc + 11 + 16 + 1 = 0 := by omega
          have ne29 : ¬ cc + 11 + 16 + 1 = 2 := by omega
          have ne30 : ¬ cc + 11 + 16 + 1 = a := by omega
          have ne31 : ¬ cc + 11 + 16 + 1 = cc + 11 + 7 := by omega
          have ne32 : ¬ cc + 11 + 16 + 1 = cc + 11 + 16 := by omega
          have ne33 : ¬ cc + 11 + 16 + 1 = cc + 11 + 16 + 1 + 1 := by omega
          have ne34 : ¬ cc + 11 + 16 + 1 + 1 = 0 := by omega
          have ne35 : ¬ cc + 11 + 16 + 1 + 1 = 2 := by omega
          have ne36 : ¬ cc + 11 + 16 + 1 + 1 = a := by omega
          have ne37 : ¬ cc + 11 + 16 + 1 + 1 = cc + 11 + 7 := by omega
          have ne38 : ¬ cc + 11 + 16 + 1 + 1 = cc + 11 + 16 := by omega
          have ne39 : ¬ cc + 11 + 16 + 1 + 1 = cc + 11 + 16 + 1 := by omega
          repeat' ((first | (with_reducible first | refine wr ?_ | refine i_ret ?_ | refine i_skip ?_ | refine i_exit ?_) | ((with_reducible first | refine k_cb ?_ ?_ | refine k_gb ?_ ?_ | refine k_gb' ?_ ?_) <;> (intro hb; try simp only [hb]))) <;> try simp only [go_sem, Nat.reduceAdd, Nat.reduceLeDiff, Nat.reduceEqDiff, Nat.reduceMul, Nat.reduceSub, ↓reduceIte, Int.reduceLT, Int.reduceLE, Int.reduceGT, Int.reduceGE, Nat.reduceLT, Nat.reduceGT, Int.reduceToNat, reduceCtorEq, Nat.reduceBEq, Int.reduceBEq, Int.reduceBNe, Int.reduceEq, Int.reduceNe, decide_true, decide_false, nk, hs1, hs2, hc1, hc3, ha1, ha2, ha3, hz1, hm4, hmb4, hm_same, hid4, hid4b, P5_7, P5_16, P5_16_1, P6_7, P6_16, P6_16_1, P9_7, P9_16, P9_16_1, P10_7, P10_16, P10_16_1, P11_7, P11_16, P11_16_1, P12_7, P12_16, P12_16_1, Int.reduceBEq, hw1, hw2, hw3, hd1, hd2, hlen, gx, gy, gz, vx, vz, vm, q1, q2, q34, q12, q05, q03, q08, vv, hD2, hDa, hD0, F0, F1, F2, F3, F4, F5, F6, F7, F8, F9, F10, F11, F12, F13, F14, F15, F16, F17, F18, F19, ne0, ne1, ne2, ne3, ne4, ne5, ne6, ne7, ne8, ne9, ne10, ne11, ne12, ne13, ne14, ne15, ne16, ne17, ne18, ne19, ne20, ne21, ne22, ne23, ne24, ne25, ne26, ne27, ne28, ne29, ne30, ne31, ne32, ne33, ne34, ne35, ne36, ne37, ne38, ne39])
          have hL : (bkR c 4 k v x z).instrs.length = 1 + n := by rw [hI, ht0, hd0, List.nil_append, List.length_append, List.length_singleton, ← hn]
          have hne2 : (bkR c 4 k v x z).instrs ≠ [] := by exact fun e => hne4 (by rw [e]; rfl)
          rw [if_neg hne2] at hgo2
          refine ⟨(j + 1, some (cc + 11 + 16 + 1), bkR c 4 k v x z), by rw [e3], GL.less' (BH_sub ?_ ?_ fun i hi => ?_), inv ⟨⟨by omega, fun i hi => by cases hi; omega⟩, by simp only; omega, ⟨_, rfl⟩, hBn, hne2, hgo2.symm⟩, by simp only; omega⟩
          · repeat (first | exact hD0 | rw [h_ne (by omega)] | rw [h_dne (by omega)])
          · rw [h_same]; simp only [bCells, todo_s]; rw [hL]; rfl
          · cases hi; rw [h_ne (by omega), h_same, hI, ht0, hd0, List.nil_append, insC_app, insC_one]; rfl
        · have ha1 : ∀ (H : Hp) c', appR H c' 2 16 .snil k (insC (c.instrs.take k)) = some (.slc c' 0 k, H.upd c' ⟨2, true, insC (c.instrs.take k)⟩, c' + 1) := fun H c' => r_appn' hk0 (by omega) (by omega)
          have ha2 := fun ds => hs_one (sz := 2) (bytes := 16) (n := k) (cs := insC (c.instrs.take k)) (ds := ds) htc (by omega) (by omega)
          have hs2 : ∀ H, slcR H 2 (.slc a 0 n) (some (I64 (k : Int))) none = slB a 0 2 k n (H a) := fun H => r_slclo hk0 (by omega) H
          have hs3 : slB a 0 2 k n (some ⟨2, true, insC c.instrs⟩) = some (.slc a (k * 2) (n - k)) := by rw [b_slB, Nat.zero_add]
          have hc3 : srB 2 (k * 2) (n - k) (some ⟨2, true, insC c.instrs⟩) = some (n - k, insC (c.instrs.drop k)) := by rw [b_srcI (by omega), List.take_of_length_le (by omega)]
          have ha3 : ∀ (H : Hp) (c' id : Nat) w1 w2, apB H c' id 2 16 (k + 1) (n - k) (insC (c.instrs.drop k)) (some ⟨2, true, insC (c.instrs.take k) ++ [w1, w2]⟩) = some (.slc c' 0 (k + 1 + (n - k)), (H.del id).upd c' ⟨2, true, insC (c.instrs.take k) ++ [w1, w2] ++ insC (c.instrs.drop k)⟩, c' + 1) :=
            fun H c' id w1 w2 => b_appx (by rw [List.length_append, htc]; simp; omega) (by omega) (by omega)
          have hz1 : ((((k + 1 + (n - k) : Nat) : Int)) == 0) = false := by simp; omega
          have ne0 : ¬ 0 = a := by omega
          have ne1 : ¬ 0 = cc + 11 + 7 := by omega
          have ne2 : ¬ 0 = cc + 11 + 16 := by omega
          have ne3 : ¬ 0 = cc + 11 + 16 + 1 := by omega
          have ne4 : ¬ 0 = cc + 11 + 16 + 1 + 1 := by omega
          have ne5 : ¬ 2 = a := by omega
          have ne6 : ¬ 2 = cc + 11 + 7 := by omega
          have ne7 : ¬ 2 = cc + 11 + 16 := by omega
          have ne8 : ¬ 2 = cc + 11 + 16 + 1 := by omega
          have ne9 : ¬ 2 = cc + 11 + 16 + 1 + 1 := by omega
          have ne10 : ¬ a = 0 := by omega
          have ne11 : ¬ a = 2 := by omega
          have ne12 : ¬ a = cc + 11 + 7 := by omega
          have ne13 : ¬ a = cc + 11 + 16 := by omega
          have ne14 : ¬ a = cc + 11 + 16 + 1 := by omega
          have ne15 : ¬ a = cc + 11 + 16 + 1 + 1 := by omega
          have ne16 : ¬ cc + 11 + 7 = 0 := by omega
          have ne17 : ¬ cc + 11 + 7 = 2 := by omega
          have ne18 : ¬ cc + 11 + 7 = a := by omega
          have ne19 : ¬ cc + 11 + 7 = cc + 11 + 16 := by omega
          have ne20 : ¬ cc + 11 + 7 = cc + 11 + 16 + 1 := by omega
          have ne21 : ¬ cc + 11 + 7 = cc + 11 + 16 + 1 + 1 := by omega
          have ne22 : ¬ cc + 11 + 16 = 0 := by omega
          have ne23 : ¬ cc + 11 + 16 = 2 := by omega
          have ne24 : ¬ cc + 11 + 16 = a := by omega
          have ne25 : ¬ cc + 11 + 16 = cc + 11 + 7 := by omega
          have ne26 : ¬ cc + 11 + 16 = cc + 11 + 16 + 1 := by omega
          have ne27 : ¬ cc + 11 + 16 = cc + 11 + 16 + 1 + 1 := by omega
          have ne28 : ¬ cc + 11 + 16 + 1 = 0 := by omega
          have ne29 : ¬ cc + 11 + 16 + 1 = 2 := by omega
          have ne30 : ¬ cc + 11 + 16 + 1 = a := by omega
          have ne31 : ¬ cc + 11 + 16 + 1 = cc + 11 + 7 := by omega
          have ne32 : ¬ cc + 11 + 16 + 1 = cc + 11 + 16 := by omega
          have ne33 : ¬ cc + 11 + 16 + 1 = cc + 11 + 16 + 1 + 1 := by omega
          have ne34 : ¬ cc + 11 + 16 + 1 + 1 = 0 := by omega
          have ne35 : ¬ cc + 11 + 16 + 1 + 1 = 2 := by omega
          have ne36 : ¬ cc + 11 + 16 + 1 + 1 = a := by omega
          have ne37 : ¬ cc + 11 + 16 + 1 + 1 = cc + 11 + 7 := by omega
          have ne38 : ¬ cc + 11 + 16 + 1 + 1 = cc + 11 + 16 := by omega
          have ne39 : ¬ cc + 11 + 16 + 1 + 1 = cc + 11 + 16 + 1 := by omega
          repeat' ((first | (with_reducible first | refine wr ?_ | refine i_ret ?_ | refine i_skip ?_ | refine i_exit ?_) | ((with_reducible first | refine k_cb ?_ ?_ | refine k_gb ?_ ?_ | refine k_gb' ?_ ?_) <;> (intro hb; try simp only [hb]))) <;> try simp only [go_sem, Nat.reduceAdd, Nat.reduceLeDiff, Nat.reduceEqDiff, Nat.reduceMul, Nat.reduceSub, ↓reduceIte, Int.reduceLT, Int.reduceLE, Int.reduceGT, Int.reduceGE, Nat.reduceLT, Nat.reduceGT, Int.reduceToNat, reduceCtorEq, Nat.reduceBEq, Int.reduceBEq, Int.reduceBNe, Int.reduceEq, Int.reduceNe, decide_true, decide_false, nk, hs1, hs2, hs3, hc1, hc3, ha1, ha2, ha3, hz1, hm4, hmb4, hm_same, hid4, hid4b, P5_7, P5_16, P5_16_1, P6_7, P6_16, P6_16_1, P9_7, P9_16, P9_16_1, P10_7, P10_16, P10_16_1, P11_7, P11_16, P11_16_1, P12_7, P12_16, P12_16_1, Int.reduceBEq, hw1, hw2, hw3, hd1, hd2, hlen, gx, gy, gz, vx, vz, vm, q1, q2, q34, q12, q05, q03, q08, vv, hD2, hDa, hD0, F0, F1, F2, F3, F4, F5, F6, F7, F8, F9, F10, F11, F12, F13, F14, F15, F16, F17, F18, F19, ne0, ne1, ne2, ne3, ne4, ne5, ne6, ne7, ne8, ne9, ne10, ne11, ne12, ne13, ne14, ne15, ne16, ne17, ne18, ne19, ne20, ne21, ne22, ne23, ne24, ne25, ne26, ne27, ne28, ne29, ne30, ne31, ne32, ne33, ne34, ne35, ne36, ne37, ne38, ne39])
          have hL : (bkR c 4 k v x z).instrs.length = k + 1 + (n - k) := by rw [hI, List.length_append, List.length_append, htl, hdl, List.length_singleton]
          have hne2 : (bkR c 4 k v x z).instrs ≠ [] := by exact fun e => hne4 (by rw [e]; rfl)
          rw [if_neg hne2] at hgo2
          refine ⟨(j + 1, some (cc + 11 + 16 + 1 + 1), bkR c 4 k v x z), by rw [e3], GL.less' (BH_sub ?_ ?_ fun i hi => ?_), inv ⟨⟨by omega, fun i hi => by cases hi; omega⟩, by simp only; omega, ⟨_, rfl⟩, hBn, hne2, hgo2.symm⟩, by simp only; omega⟩
          · repeat (first | exact hD0 | rw [h_ne (by omega)] | rw [h_dne (by omega)])
          · rw [h_same]; simp only [bCells, todo_s]; rw [hL]; rfl
          · cases hi; rw [h_ne (by omega), h_same, hI, insC_app, insC_app, insC_one]
      · have hap := hs_app (sz := 4) (bytes := 32) (n := c.entries.length) (xs := c.entries.map Ent.v) (ent_unit _) (by simp) B8 (by omega) (by omega)
        have hao := fun ds => hs_one (sz := 4) (bytes := 32) (n := c.entries.length) (cs := cellsL (c.entries.map Ent.v)) (ds := ds) (entC_len' _) (by omega) (by omega)
        have hm5 := fun H b => hm_upd1 (k := cc + 11 + 15) (a := cc + 11 + 19) (by omega) H b
        subst re
        have nk : ((5 : Nat) : Int) = 5 := rfl
        have ne0 : ¬ 0 = a := by omega
        have ne1 : ¬ 0 = cc + 11 + 15 := by omega
        have ne2 : ¬ 0 = cc + 11 + 19 := by omega
        have ne3 : ¬ 0 = cc + 11 + 19 + 1 := by omega
        have ne4 : ¬ 2 = a := by omega
        have ne5 : ¬ 2 = cc + 11 + 15 := by omega
        have ne6 : ¬ 2 = cc + 11 + 19 := by omega
        have ne7 : ¬ 2 = cc + 11 + 19 + 1 := by omega
        have ne8 : ¬ a = 0 := by omega
        have ne9 : ¬ a = 2 := by omega
        have ne10 : ¬ a = cc + 11 + 15 := by omega
        have ne11 : ¬ a = cc + 11 + 19 := by omega
        have ne12 : ¬ a = cc + 11 + 19 + 1 := by omega
        have ne13 : ¬ cc + 11 + 15 = 0 := by omega
        have ne14 : ¬ cc + 11 + 15 = 2 := by omega
        have ne15 : ¬ cc + 11 + 15 = a := by omega
        have ne16 : ¬ cc + 11 + 15 = cc + 11 + 19 := by omega
        have ne17 : ¬ cc + 11 + 15 = cc + 11 + 19 + 1 := by omega
        have ne18 : ¬ cc + 11 + 19 = 0 := by omega
        have ne19 : ¬ cc + 11 + 19 = 2 := by omega
        have ne20 : ¬ cc + 11 + 19 = a := by omega
        have ne21 : ¬ cc + 11 + 19 = cc + 11 + 15 := by omega
        have ne22 : ¬ cc + 11 + 19 = cc + 11 + 19 + 1 := by omega
        have ne23 : ¬ cc + 11 + 19 + 1 = 0 := by omega
        have ne24 : ¬ cc + 11 + 19 + 1 = 2 := by omega
        have ne25 : ¬ cc + 11 + 19 + 1 = a := by omega
        have ne26 : ¬ cc + 11 + 19 + 1 = cc + 11 + 15 := by omega
        have ne27 : ¬ cc + 11 + 19 + 1 = cc + 11 + 19 := by omega
        have P3_15 : ¬ cc + 11 + 3 = cc + 11 + 15 := by omega
        have P3_19 : ¬ cc + 11 + 3 = cc + 11 + 19 := by omega
        have P4_15 : ¬ cc + 11 + 4 = cc + 11 + 15 := by omega
        have P4_19 : ¬ cc + 11 + 4 = cc + 11 + 19 := by omega
        have P5_15 : ¬ cc + 11 + 5 = cc + 11 + 15 := by omega
        have P5_19 : ¬ cc + 11 + 5 = cc + 11 + 19 := by omega
        have P6_15 : ¬ cc + 11 + 6 = cc + 11 + 15 := by omega
        have P6_19 : ¬ cc + 11 + 6 = cc + 11 + 19 := by omega
        have P7_15 : ¬ cc + 11 + 7 = cc + 11 + 15 := by omega
        have P7_19 : ¬ cc + 11 + 7 = cc + 11 + 19 := by omega
        have P8_15 : ¬ cc + 11 + 8 = cc + 11 + 15 := by omega
        have P8_19 : ¬ cc + 11 + 8 = cc + 11 + 19 := by omega
        have P9_15 : ¬ cc + 11 + 9 = cc + 11 + 15 := by omega
        have P9_19 : ¬ cc + 11 + 9 = cc + 11 + 19 := by omega
        have P10_15 : ¬ cc + 11 + 10 = cc + 11 + 15 := by omega
        have P10_19 : ¬ cc + 11 + 10 = cc + 11 + 19 := by omega
        have P11_15 : ¬ cc + 11 + 11 = cc + 11 + 15 := by omega
        have P11_19 : ¬ cc + 11 + 11 = cc + 11 + 19 := by omega
        have P12_15 : ¬ cc + 11 + 12 = cc + 11 + 15 := by omega
        have P12_19 : ¬ cc + 11 + 12 = cc + 11 + 19 := by omega
        have P13_15 : ¬ cc + 11 + 13 = cc + 11 + 15 := by omega
        have P13_19 : ¬ cc + 11 + 13 = cc + 11 + 19 := by omega
        have P14_15 : ¬ cc + 11 + 14 = cc + 11 + 15 := by omega
        have P14_19 : ¬ cc + 11 + 14 = cc + 11 + 19 := by omega
        repeat' ((first | (with_reducible first | refine wr ?_ | refine i_ret ?_ | refine i_skip ?_ | refine i_exit ?_) | ((with_reducible first | refine k_cb ?_ ?_ | refine k_gb ?_ ?_ | refine k_gb' ?_ ?_) <;> (intro hb; try simp only [hb]))) <;> try simp only [go_sem, Nat.reduceAdd, Nat.reduceLeDiff, Nat.reduceEqDiff, Nat.reduceMul, Nat.reduceSub, ↓reduceIte, Int.reduceLT, Int.reduceLE, Int.reduceGT, Int.reduceGE, Nat.reduceLT, Nat.reduceGT, Int.reduceToNat, reduceCtorEq, Nat.reduceBEq, Int.reduceBEq, Int.reduceBNe, Int.reduceEq, Int.reduceNe, decide_true, decide_false, nk, hz0, hap, hao, hm5, hm_same, P3_15, P3_19, P4_15, P4_19, P5_15, P5_19, P6_15, P6_19, P7_15, P7_19, P8_15, P8_19, P9_15, P9_19, P10_15, P10_19, P11_15, P11_19, P12_15, P12_19, P13_15, P13_19, P14_15, P14_19, Int.reduceBEq, hw1, hw2, hw3, hd1, hd2, hlen, gx, gy, gz, vx, vz, vm, q1, q2, q34, q12, q05, q03, q08, vv, hD2, hDa, hD0, F0, F1, F2, F3, F4, F5, F6, F7, F8, F9, F10, F11, F12, F13, F14, F15, F16, F17, F18, F19, ne0, ne1, ne2, ne3, ne4, ne5, ne6, ne7, ne8, ne9, ne10, ne11, ne12, ne13, ne14, ne15, ne16, ne17, ne18, ne19, ne20, ne21, ne22, ne23, ne24, ne25, ne26, ne27])
        have hne2 : (bkR c 5 k v x z).instrs ≠ [] := by exact hne
        rw [if_neg hne2] at hgo2
        refine ⟨(j + 1, some a, bkR c 5 k v x z), by rw [e3], (g_cell (a := (cc + 11 + 19 + 1)) (k := 2) (u := 4) (u' := 4) (pre := [.slc a 0 n, strs c.strings]) (suf := [ints c.prios, ints c.vars, I64 c.timers, I64 c.events]) (xs := (c.entries ++ [(Ent.mk (v.tmod 3) ((xn % 8 : Nat) : Int) (v.tmod 5) (k : Int))]).map Ent.v) (junk := []) h_same (by rw [h_ne (by omega), h_same, List.append_nil, entC_snoc]) (by simp [DV.one]) (by simp) (ent_unit _) (by omega)).trans (GL.less' (BH_sub ?_ ?_ fun i hi => ?_)), inv ⟨⟨by omega, fun i hi => by cases hi; omega⟩, by simp only; omega, ⟨_, rfl⟩, hBn, hne2, hgo2.symm⟩, by simp only; omega⟩
        · repeat (first | exact hD0 | rw [h_ne (by omega)] | rw [h_dne (by omega)])
        · rw [h_same]; simp only [bCells, todo_s, bkR, ← hn, ← hxn]; rfl
        · cases hi; repeat (first | exact hDa | rw [h_ne (by omega)] | rw [h_dne (by omega)])
      · subst re
        have nk : ((6 : Nat) : Int) = 6 := rfl
        have ne0 : ¬ 0 = a := by omega
        have ne1 : ¬ 2 = a := by omega
        have ne2 : ¬ a = 0 := by omega
        have ne3 : ¬ a = 2 := by omega
        repeat' ((first | (with_reducible first | refine wr ?_ | refine i_ret ?_ | refine i_skip ?_ | refine i_exit ?_) | ((with_reducible first | refine k_cb ?_ ?_ | refine k_gb ?_ ?_ | refine k_gb' ?_ ?_) <;> (intro hb; try simp only [hb]))) <;> try simp only [go_sem, Nat.reduceAdd, Nat.reduceLeDiff, Nat.reduceEqDiff, Nat.reduceMul, Nat.reduceSub, ↓reduceIte, Int.reduceLT, Int.reduceLE, Int.reduceGT, Int.reduceGE, Nat.reduceLT, Nat.reduceGT, Int.reduceToNat, reduceCtorEq, Nat.reduceBEq, Int.reduceBEq, Int.reduceBNe, Int.reduceEq, Int.reduceNe, decide_true, decide_false, nk, hz0, Int.reduceBEq, hw1, hw2, hw3, hd1, hd2, hlen, gx, gy, gz, vx, vz, vm, q1, q2, q34, q12, q05, q03, q08, vv, hD2, hDa, hD0, F0, F1, F2, F3, F4, F5, F6, F7, F8, F9, F10, F11, F12, F13, F14, F15, F16, F17, F18, F19, ne0, ne1, ne2, ne3])
        have hne2 : (bkR c 6 k v x z).instrs ≠ [] := by exact hne
        rw [if_neg hne2] at hgo2
        refine ⟨(j + 1, some a, bkR c 6 k v x z), by rw [e3], GL.less' (BH_sub ?_ ?_ fun i hi => ?_), inv ⟨⟨by omega, fun i hi => by cases hi; omega⟩, by simp only; omega, ⟨_, rfl⟩, hBn, hne2, hgo2.symm⟩, by simp only; omega⟩
        · rw [h_ne (by omega)]; exact hD0
        · rw [h_same]; simp only [bCells, todo_s, bkR, ← hn]
        · cases hi; rw [h_ne (by omega)]; exact hDa
      · have hap := hs_app (sz := 1) (bytes := 8) (n := c.prios.length) (xs := c.prios.map I64) (ints_unit _) (by simp) B10 (by omega) (by omega)
        have hao := fun ds => hs_one (sz := 1) (bytes := 8) (n := c.prios.length) (cs := cellsL (c.prios.map I64)) (ds := ds) (by rw [cellsL_length (ints_unit _), List.length_map]) (by omega) (by omega)
        subst re
        have nk : ((7 : Nat) : Int) = 7 := rfl
        have ne0 : ¬ 0 = a := by omega
        have ne1 : ¬ 0 = cc + 11 := by omega
        have ne2 : ¬ 0 = cc + 11 + 1 := by omega
        have ne3 : ¬ 0 = cc + 11 + 1 + 1 := by omega
        have ne4 : ¬ 2 = a := by omega
        have ne5 : ¬ 2 = cc + 11 := by omega
        have ne6 : ¬ 2 = cc + 11 + 1 := by omega
        have ne7 : ¬ 2 = cc + 11 + 1 + 1 := by omega
        have ne8 : ¬ a = 0 := by omega
        have ne9 : ¬ a = 2 := by omega
        have ne10 : ¬ a = cc + 11 := by omega
        have ne11 : ¬ a = cc + 11 + 1 := by omega
        have ne12 : ¬ a = cc + 11 + 1 + 1 := by omega
        have ne13 : ¬ cc + 11 = 0 := by omega
        have ne14 : ¬ cc + 11 = 2 := by omega
        have ne15 : ¬ cc + 11 = a := by omega
        have ne16 : ¬ cc + 11 = cc + 11 + 1 := by omega
        have ne17 : ¬ cc + 11 = cc + 11 + 1 + 1 := by omega
        have ne18 : ¬ cc + 11 + 1 = 0 := by omega
        have ne19 : ¬ cc + 11 + 1 = 2 := by omega
        have ne20 : ¬ cc + 11 + 1 = a := by omega
        have ne21 : ¬ cc + 11 + 1 = cc + 11 := by omega
        have ne22 : ¬ cc + 11 + 1 = cc + 11 + 1 + 1 := by omega
        have ne23 : ¬ cc + 11 + 1 + 1 = 0 := by omega
        have ne24 : ¬ cc + 11 + 1 + 1 = 2 := by omega
        have ne25 : ¬ cc + 11 + 1 + 1 = a := by omega
        have ne26 : ¬ cc + 11 + 1 + 1 = cc + 11 := by omega
        have ne27 : ¬ cc + 11 + 1 + 1 = cc + 11 + 1 := by omega
        repeat' ((first | (with_reducible first | refine wr ?_ | refine i_ret ?_ | refine i_skip ?_ | refine i_exit ?_) | ((with_reducible first | refine k_cb ?_ ?_ | refine k_gb ?_ ?_ | refine k_gb' ?_ ?_) <;> (intro hb; try simp only [hb]))) <;> try simp only [go_sem, Nat.reduceAdd, Nat.reduceLeDiff, Nat.reduceEqDiff, Nat.reduceMul, Nat.reduceSub, ↓reduceIte, Int.reduceLT, Int.reduceLE, Int.reduceGT, Int.reduceGE, Nat.reduceLT, Nat.reduceGT, Int.reduceToNat, reduceCtorEq, Nat.reduceBEq, Int.reduceBEq, Int.reduceBNe, Int.reduceEq, Int.reduceNe, decide_true, decide_false, nk, hz0, hap, hao, Int.reduceBEq, hw1, hw2, hw3, hd1, hd2, hlen, gx, gy, gz, vx, vz, vm, q1, q2, q34, q12, q05, q03, q08, vv, hD2, hDa, hD0, F0, F1, F2, F3, F4, F5, F6, F7, F8, F9, F10, F11, F12, F13, F14, F15, F16, F17, F18, F19, ne0, ne1, ne2, ne3, ne4, ne5, ne6, ne7, ne8, ne9, ne10, ne11, ne12, ne13, ne14, ne15, ne16, ne17, ne18, ne19, ne20, ne21, ne22, ne23, ne24, ne25, ne26, ne27])
        have hne2 : (bkR c 7 k v x z).instrs ≠ [] := by exact hne
        rw [if_neg hne2] at hgo2
        refine ⟨(j + 1, some a, bkR c 7 k v x z), by rw [e3], (g_cell (a := (cc + 11 + 1 + 1)) (k := 2) (u := 1) (u' := 1) (pre := [.slc a 0 n, strs c.strings, entsV c.entries]) (suf := [ints c.vars, I64 c.timers, I64 c.events]) (xs := (c.prios ++ [v]).map I64) (junk := []) h_same (by rw [h_ne (by omega), h_same, List.append_nil, List.map_append, cellsL_append]; simp [cellsL, DV.cells]) (by simp [DV.one]) (by simp) (ints_unit _) (by omega)).trans (GL.less' (BH_sub ?_ ?_ fun i hi => ?_)), inv ⟨⟨by omega, fun i hi => by cases hi; omega⟩, by simp only; omega, ⟨_, rfl⟩, hBn, hne2, hgo2.symm⟩, by simp only; omega⟩
        · repeat (first | exact hD0 | rw [h_ne (by omega)] | rw [h_dne (by omega)])
        · rw [h_same]; simp only [bCells, todo_s, bkR, ← hn]; rfl
        · cases hi; repeat (first | exact hDa | rw [h_ne (by omega)] | rw [h_dne (by omega)])
      · have hap := hs_app (sz := 1) (bytes := 16) (n := c.strings.length) (xs := c.strings.map DV.str) (str_unit _) (by simp) B9 (by omega) (by omega)
        have hao := fun ds => hs_one (sz := 1) (bytes := 16) (n := c.strings.length) (cs := cellsL (c.strings.map DV.str)) (ds := ds) (strC_len _) (by omega) (by omega)
        have hcv := cv_one hzn
        have hcv2 : ∀ (H : Hp) B, cvbsR ((H.upd (cc + 11 + 8) ⟨1, true, [.int .u8 (zn : Int)]⟩).upd (cc + 11 + 10) B) (.slc (cc + 11 + 8) 0 1) = some (.str [z]) := fun H B => cv_own (by rw [h_ne (by omega), h_same]) (by rw [hzn]; rfl) rfl
        have hcv3 : ∀ (H : Hp) B B2, cvbsR (((H.upd (cc + 11 + 8) ⟨1, true, [.int .u8 (zn : Int)]⟩).upd (cc + 11 + 10) B).upd (cc + 11 + 14) B2) (.slc (cc + 11 + 8) 0 1) = some (.str [z]) := fun H B B2 => cv_own (by rw [h_ne (by omega), h_ne (by omega), h_same]) (by rw [hzn]; rfl) rfl
        have hm8 := fun H b => hm_upd2 (k := cc + 11 + 8) (k' := cc + 11 + 10) (a := cc + 11 + 14) (by omega) (by omega) H b
        subst re
        have nk : ((8 : Nat) : Int) = 8 := rfl
        have ne0 : ¬ 0 = a := by omega
        have ne1 : ¬ 0 = cc + 11 + 8 := by omega
        have ne2 : ¬ 0 = cc + 11 + 10 := by omega
        have ne3 : ¬ 0 = cc + 11 + 14 := by omega
        have ne4 : ¬ 0 = cc + 11 + 14 + 1 := by omega
        have ne5 : ¬ 2 = a := by omega
        have ne6 : ¬ 2 = cc + 11 + 8 := by omega
        have ne7 : ¬ 2 = cc + 11 + 10 := by omega
        have ne8 : ¬ 2 = cc + 11 + 14 := by omega
        have ne9 : ¬ 2 = cc + 11 + 14 + 1 := by omega
        have ne10 : ¬ a = 0 := by omega
        have ne11 : ¬ a = 2 := by omega
        have ne12 : ¬ a = cc + 11 + 8 := by omega
        have ne13 : ¬ a = cc + 11 + 10 := by omega
        have ne14 : ¬ a = cc + 11 + 14 := by omega
        have ne15 : ¬ a = cc + 11 + 14 + 1 := by omega
        have ne16 : ¬ cc + 11 + 8 = 0 := by omega
        have ne17 : ¬ cc + 11 + 8 = 2 := by omega
        have ne18 : ¬ cc + 11 + 8 = a := by omega
        have ne19 : ¬ cc + 11 + 8 = cc + 11 + 10 := by omega
        have ne20 : ¬ cc + 11 + 8 = cc + 11 + 14 := by omega
        have ne21 : ¬ cc + 11 + 8 = cc + 11 + 14 + 1 := by omega
        have ne22 : ¬ cc + 11 + 10 = 0 := by omega
        have ne23 : ¬ cc + 11 + 10 = 2 := by omega
        have ne24 : ¬ cc + 11 + 10 = a := by omega
        have ne25 : ¬ cc + 11 + 10 = cc + 11 + 8 := by omega
        have ne26 : ¬ cc + 11 + 10 = cc + 11 + 14 := by omega
        have ne27 : ¬ cc + 11 + 10 = cc + 11 + 14 + 1 := by omega
        have ne28 : ¬ cc + 11 + 14 = 0 := by omega
        have ne29 : ¬ cc + 11 + 14 = 2 := by omega
        have ne30 : ¬ cc + 11 + 14 = a := by omega
        have ne31 : ¬ cc + 11 + 14 = cc + 11 + 8 := by omega
        have ne32 : ¬ cc + 11 + 14 = cc + 11 + 10 := by omega
        have ne33 : ¬ cc + 11 + 14 = cc + 11 + 14 + 1 := by omega
        have ne34 : ¬ cc + 11 + 14 + 1 = 0 := by omega
        have ne35 : ¬ cc + 11 + 14 + 1 = 2 := by omega
        have ne36 : ¬ cc + 11 + 14 + 1 = a := by omega
        have ne37 : ¬ cc + 11 + 14 + 1 = cc + 11 + 8 := by omega
        have ne38 : ¬ cc + 11 + 14 + 1 = cc + 11 + 10 := by omega
        have ne39 : ¬ cc + 11 + 14 + 1 = cc + 11 + 14 := by omega
        have P3_8 : ¬ cc + 11 + 3 = cc + 11 + 8 := by omega
        have P3_10 : ¬ cc + 11 + 3 = cc + 11 + 10 := by omega
        have P3_14 : ¬ cc + 11 + 3 = cc + 11 + 14 := by omega
        have P4_8 : ¬ cc + 11 + 4 = cc + 11 + 8 := by omega
        have P4_10 : ¬ cc + 11 + 4 = cc + 11 + 10 := by omega
        have P4_14 : ¬ cc + 11 + 4 = cc + 11 + 14 := by omega
        have P5_8 : ¬ cc + 11 + 5 = cc + 11 + 8 := by omega
        have P5_10 : ¬ cc + 11 + 5 = cc + 11 + 10 := by omega
        have P5_14 : ¬ cc + 11 + 5 = cc + 11 + 14 := by omega
        have P6_8 : ¬ cc + 11 + 6 = cc + 11 + 8 := by omega
        have P6_10 : ¬ cc + 11 + 6 = cc + 11 + 10 := by omega
        have P6_14 : ¬ cc + 11 + 6 = cc + 11 + 14 := by omega
        have P7_8 : ¬ cc + 11 + 7 = cc + 11 + 8 := by omega
        have P7_10 : ¬ cc + 11 + 7 = cc + 11 + 10 := by omega
        have P7_14 : ¬ cc + 11 + 7 = cc + 11 + 14 := by omega
        have P9_8 : ¬ cc + 11 + 9 = cc + 11 + 8 := by omega
        have P9_10 : ¬ cc + 11 + 9 = cc + 11 + 10 := by omega
        have P9_14 : ¬ cc + 11 + 9 = cc + 11 + 14 := by omega
        repeat' ((first | (with_reducible first | refine wr ?_ | refine i_ret ?_ | refine i_skip ?_ | refine i_exit ?_) | ((with_reducible first | refine k_cb ?_ ?_ | refine k_gb ?_ ?_ | refine k_gb' ?_ ?_) <;> (intro hb; try simp only [hb]))) <;> try simp only [go_sem, Nat.reduceAdd, Nat.reduceLeDiff, Nat.reduceEqDiff, Nat.reduceMul, Nat.reduceSub, ↓reduceIte, Int.reduceLT, Int.reduceLE, Int.reduceGT, Int.reduceGE, Nat.reduceLT, Nat.reduceGT, Int.reduceToNat, reduceCtorEq, Nat.reduceBEq, Int.reduceBEq, Int.reduceBNe, Int.reduceEq, Int.reduceNe, decide_true, decide_false, nk, hz0, hap, hao, hcv, hcv2, hcv3, hm8, hm_same, P3_8, P3_10, P3_14, P4_8, P4_10, P4_14, P5_8, P5_10, P5_14, P6_8, P6_10, P6_14, P7_8, P7_10, P7_14, P9_8, P9_10, P9_14, Int.reduceBEq, hw1, hw2, hw3, hd1, hd2, hlen, gx, gy, gz, vx, vz, vm, q1, q2, q34, q12, q05, q03, q08, vv, hD2, hDa, hD0, F0, F1, F2, F3, F4, F5, F6, F7, F8, F9, F10, F11, F12, F13, F14, F15, F16, F17, F18, F19, ne0, ne1, ne2, ne3, ne4, ne5, ne6, ne7, ne8, ne9, ne10, ne11, ne12, ne13, ne14, ne15, ne16, ne17, ne18, ne19, ne20, ne21, ne22, ne23, ne24, ne25, ne26, ne27, ne28, ne29, ne30, ne31, ne32, ne33, ne34, ne35, ne36, ne37, ne38, ne39])
        have hne2 : (bkR c 8 k v x z).instrs ≠ [] := by exact hne
        rw [if_neg hne2] at hgo2
        refine ⟨(j + 1, some a, bkR c 8 k v x z), by rw [e3], (g_cell (a := (cc + 11 + 14 + 1)) (k := 2) (u := 1) (u' := 1) (pre := [.slc a 0 n]) (suf := [entsV c.entries, ints c.prios, ints c.vars, I64 c.timers, I64 c.events]) (xs := (c.strings ++ [[z]]).map DV.str) (junk := []) h_same (by rw [h_ne (by omega), h_same, List.append_nil, List.map_append, cellsL_append]; simp [cellsL, DV.cells]) (by simp [DV.one]) (by simp) (str_unit _) (by omega)).trans (GL.less' (BH_sub ?_ ?_ fun i hi => ?_)), inv ⟨⟨by omega, fun i hi => by cases hi; omega⟩, by simp only; omega, ⟨_, rfl⟩, hBn, hne2, hgo2.symm⟩, by simp only; omega⟩
        · repeat (first | exact hD0 | rw [h_ne (by omega)] | rw [h_dne (by omega)])
        · rw [h_same]; simp only [bCells, todo_s, bkR, ← hn]; rfl
        · cases hi; repeat (first | exact hDa | rw [h_ne (by omega)] | rw [h_dne (by omega)])
    · have hd2 : decide ((i : Int) < 9) = false := by simp; omega
      have hge := go_end (m := m) (c := c) (j := j) (by omega)
      repeat' ((first | (with_reducible first | refine wr ?_ | refine i_ret ?_ | refine i_skip ?_ | refine i_exit ?_) | ((with_reducible first | refine k_cb ?_ ?_ | refine k_gb ?_ ?_ | refine k_gb' ?_ ?_) <;> (intro hb; try simp only [hb]))) <;> try simp only [go_sem, Nat.reduceAdd, Nat.reduceLeDiff, Nat.reduceEqDiff, Nat.reduceMul, Nat.reduceSub, ↓reduceIte, Int.reduceLT, Int.reduceLE, Int.reduceGT, Int.reduceGE, Nat.reduceLT, Nat.reduceGT, Int.reduceToNat, reduceCtorEq, Nat.reduceBEq, Int.reduceBEq, Int.reduceBNe, Int.reduceEq, Int.reduceNe, decide_true, decide_false, hw2, hlen, hd1, hd2, hD2, hD0])
      rw [k_rv (v := .agg (bCells (some a) c)) (by simp only [bCells, todo_s, ← hn]; rfl)]
      rw [← hgo, hge]
      dsimp only
      exact b_fin (o := some a) (by rw [h_same]; simp only [bCells, todo_s, ← hn]) (fun i hi => by cases hi; exact ⟨by omega, by rw [h_ne (by omega)]; exact hDa⟩) (fun h => by cases h)
  · have hd1 : decide (((i + 2 : Nat) : Int) < ((m.length : Nat) : Int)) = false := by simp; omega
    have hge := go_end (m := m) (c := c) (j := j) (by omega)
    repeat' ((first | (with_reducible first | refine wr ?_ | refine i_ret ?_ | refine i_skip ?_ | refine i_exit ?_) | ((with_reducible first | refine k_cb ?_ ?_ | refine k_gb ?_ ?_ | refine k_gb' ?_ ?_) <;> (intro hb; try simp only [hb]))) <;> try simp only [go_sem, Nat.reduceAdd, Nat.reduceLeDiff, Nat.reduceEqDiff, Nat.reduceMul, Nat.reduceSub, ↓reduceIte, Int.reduceLT, Int.reduceLE, Int.reduceGT, Int.reduceGE, Nat.reduceLT, Nat.reduceGT, Int.reduceToNat, reduceCtorEq, Nat.reduceBEq, Int.reduceBEq, Int.reduceBNe, Int.reduceEq, Int.reduceNe, decide_true, decide_false, hw2, hlen, hd1, hD2, hD0])
    rw [k_rv (v := .agg (bCells (some a) c)) (by simp only [bCells, todo_s, ← hn]; rfl)]
    rw [← hgo, hge]
    dsimp only
    exact b_fin (o := some a) (by rw [h_same]; simp only [bCells, todo_s, ← hn]) (fun i hi => by cases hi; exact ⟨by omega, by rw [h_ne (by omega)]; exact hDa⟩) (fun h => by cases h)
end Go.Proofs.YtcallbfckjlagaaDoor
set_option maxHeartbeats 4000000
set_option maxRecDepth 100000
set_option linter.unusedSimpArgs false
set_option linter.unusedVariables false
namespace Go.Proofs.YtcallbfckjlagaaDoor
open Go.Eng (IC IOper DReg IFn IsFn)
open Go.Sym Go.Pb
noncomputable section
def u34_8 : IC := .cond (.t 15) .skip (.exit 0)
def u34_7r : List IOper := [⟨some 5, .pur (.mv (.t 4)), none⟩, ⟨some 6, .pur (.mv (.t 0)), none⟩, ⟨some 7, .pur (.nck (.t 6)), none⟩, ⟨some 8, .pur (.fad 0 (.t 7)), none⟩, ⟨some 9, .pur (.ld 1 false (.t 8)), none⟩, ⟨some 10, .pur (.lens (.t 9)), none⟩, ⟨some 11, .pur (.bin .lss (.t 5) (.t 10)), none⟩, ⟨some 12, .pur (.mv (.t 11)), none⟩, ⟨some 13, .pur (.mv (.t 4)), some (12, true)⟩, ⟨some 14, .pur (.bin .lss (.t 13) (.k (.int .i64 8))), some (12, true)⟩, ⟨some 15, .pur (.pick (.t 12) (.t 14) (.k (.bool false))), none⟩]
def u34_7 : IC := .seq (.reg u34_7r) u34_8
def u34_17r : List IOper := [⟨some 51, .pur (.mv (.t 3)), none⟩, ⟨some 52, .pur (.bin .quo (.t 51) (.k (.int .u64 2))), none⟩, ⟨some 53, .pur (.cvi .i64 (.t 52)), none⟩, ⟨some 54, .pur (.un .neg (.t 53)), none⟩, ⟨some 55, .pur (.bin .sub (.t 54) (.k (.int .i64 1))), none⟩, ⟨some 2, .pur (.mv (.t 55)), none⟩]
def u34_17 : IC := .seq (.reg u34_17r) .ret
def u34_16 : IC := .cond (.t 50) u34_17 .skip
def u34_15r : List IOper := [⟨some 48, .pur (.mv (.t 3)), none⟩, ⟨some 49, .pur (.bin .rem (.t 48) (.k (.int .u64 2))), none⟩, ⟨some 50, .pur (.bin .eql (.t 49) (.k (.int .u64 1))), none⟩]
def u34_15 : IC := .seq (.reg u34_15r) u34_16
def u34_18r : List IOper := [⟨some 56, .pur (.mv (.t 3)), none⟩, ⟨some 57, .pur (.bin .quo (.t 56) (.k (.int .u64 2))), none⟩, ⟨some 58, .pur (.cvi .i64 (.t 57)), none⟩, ⟨some 2, .pur (.mv (.t 58)), none⟩]
def u34_18 : IC := .seq (.reg u34_18r) .ret
def u34_14 : IC := .seq u34_15 u34_18
def u34_13r : List IOper := [⟨some 38, .pur (.mv (.t 0)), none⟩, ⟨some 39, .pur (.mv (.t 0)), none⟩, ⟨some 40, .pur (.nck (.t 39)), none⟩, ⟨some 41, .pur (.fad 0 (.t 40)), none⟩, ⟨some 42, .pur (.ld 1 false (.t 41)), none⟩, ⟨some 43, .pur (.mv (.t 4)), none⟩, ⟨some 44, .pur (.bin .add (.t 43) (.k (.int .i64 1))), none⟩, ⟨some 45, .pur (.sls (.t 42) (some (.t 44)) none), none⟩, ⟨some 46, .pur (.nck (.t 38)), none⟩, ⟨some 47, .pur (.fad 0 (.t 46)), none⟩, ⟨none, .eff (.st 1 (.t 47) (.t 45)), none⟩]
def u34_13 : IC := .seq (.reg u34_13r) u34_14
def u34_12 : IC := .cond (.t 37) u34_13 .skip
def u34_11r : List IOper := [⟨some 31, .pur (.mv (.t 0)), none⟩, ⟨some 32, .pur (.nck (.t 31)), none⟩, ⟨some 33, .pur (.fad 0 (.t 32)), none⟩, ⟨some 34, .pur (.ld 1 false (.t 33)), none⟩, ⟨some 35, .pur (.mv (.t 4)), none⟩, ⟨some 36, .pur (.idx (.t 34) (.t 35)), none⟩, ⟨some 37, .pur (.bin .lss (.t 36) (.k (.int .u8 128))), none⟩]
def u34_11 : IC := .seq (.reg u34_11r) u34_12
def u34_10r : List IOper := [⟨some 18, .pur (.mv (.t 3)), none⟩, ⟨some 19, .pur (.mv (.t 0)), none⟩, ⟨some 20, .pur (.nck (.t 19)), none⟩, ⟨some 21, .pur (.fad 0 (.t 20)), none⟩, ⟨some 22, .pur (.ld 1 false (.t 21)), none⟩, ⟨some 23, .pur (.mv (.t 4)), none⟩, ⟨some 24, .pur (.idx (.t 22) (.t 23)), none⟩, ⟨some 25, .pur (.bin .and (.t 24) (.k (.int .u8 127))), none⟩, ⟨some 26, .pur (.cvi .u64 (.t 25)), none⟩, ⟨some 27, .pur (.mv (.t 4)), none⟩, ⟨some 28, .pur (.bin .mul (.k (.int .i64 7)) (.t 27)), none⟩, ⟨some 29, .pur (.bin .shl (.t 26) (.t 28)), none⟩, ⟨some 30, .pur (.bin .or (.t 18) (.t 29)), none⟩, ⟨some 3, .pur (.mv (.t 30)), none⟩]
def u34_10 : IC := .seq (.reg u34_10r) u34_11
def u34_19r : List IOper := [⟨some 16, .pur (.mv (.t 4)), none⟩, ⟨some 17, .pur (.bin .add (.t 16) (.k (.int .i64 1))), none⟩, ⟨some 4, .pur (.mv (.t 17)), none⟩]
def u34_19 : IC := .reg u34_19r
def u34_9 : IC := .seq (.blk 1 u34_10) u34_19
def u34_6 : IC := .seq u34_7 u34_9
def u34_5 : IC := .blk 0 (.loop u34_6)
def u34_4r : List IOper := [⟨some 4, .pur (.mv (.k (.int .i64 0))), none⟩]
def u34_4 : IC := .seq (.reg u34_4r) u34_5
def u34_21r : List IOper := [⟨some 2, .pur (.mv (.k (.int .i64 0))), none⟩]
def u34_21 : IC := .seq (.reg u34_21r) .ret
def u34_20r : List IOper := [⟨some 59, .pur (.mv (.t 0)), none⟩, ⟨some 60, .pur (.mv (.t 0)), none⟩, ⟨some 61, .pur (.nck (.t 59)), none⟩, ⟨some 62, .pur (.fad 1 (.t 61)), none⟩, ⟨none, .eff (.st 1 (.t 62) (.k (.bool true))), none⟩, ⟨some 63, .pur (.nck (.t 60)), none⟩, ⟨some 64, .pur (.fad 0 (.t 63)), none⟩, ⟨none, .eff (.st 1 (.t 64) (.k (.string ⟨#[]⟩))), none⟩]
def u34_20 : IC := .seq (.reg u34_20r) u34_21
def u34_3 : IC := .seq u34_4 u34_20
def u34_2r : List IOper := [⟨some 3, .pur (.mv (.k (.int .u64 0))), none⟩]
def u34_2 : IC := .seq (.reg u34_2r) u34_3
def u34_1r : List IOper := [⟨some 2, .pur (.mv (.k (.int .i64 0))), none⟩]
def u34_1 : IC := .seq (.reg u34_1r) u34_2
def u34 : IFn := ⟨65, u34_1, [.tmp 2]⟩
end
theorem isU34 : IsFn Tryd.prog 34 u34 := by unfold IsFn; kernel_rfl
instance i34_8 : WR Tryd.prog 65 u34_8 (rCE (.t 15) .skip (.exit 0) [0, 3, 4, 15]) := ⟨mkCE⟩
instance i34_7 : WR Tryd.prog 65 u34_7 (rS u34_7r u34_8 [0, 3, 4]) := ⟨mkS⟩
instance i34_17 : WR Tryd.prog 65 u34_17 (rS u34_17r .ret [3]) := ⟨mkS⟩
instance i34_16 : WR Tryd.prog 65 u34_16 (rCE (.t 50) u34_17 .skip [3, 50]) := ⟨mkCE⟩
instance i34_15 : WR Tryd.prog 65 u34_15 (rS u34_15r u34_16 [3]) := ⟨mkS⟩
instance i34_18 : WR Tryd.prog 65 u34_18 (rS u34_18r .ret [3]) := ⟨mkS⟩
instance i34_14 : WR Tryd.prog 65 u34_14 (rQ u34_15 u34_18 [3]) := ⟨mkQ⟩
instance i34_13 : WR Tryd.prog 65 u34_13 (rS u34_13r u34_14 [0, 3, 4]) := ⟨mkS⟩
instance i34_12 : WR Tryd.prog 65 u34_12 (rCE (.t 37) u34_13 .skip [0, 3, 4, 37]) := ⟨mkCE⟩
instance i34_11 : WR Tryd.prog 65 u34_11 (rS u34_11r u34_12 [0, 3, 4]) := ⟨mkS⟩
instance i34_10 : WR Tryd.prog 65 u34_10 (rS u34_10r u34_11 [0, 3, 4]) := ⟨mkS⟩
instance i34_19 : WR Tryd.prog 65 u34_19 (rE u34_19r [0, 3, 4]) := ⟨mkE⟩
instance i34_9 : WR Tryd.prog 65 u34_9 (rB 1 u34_10 u34_19 [0, 3, 4]) := ⟨mkB⟩
instance i34_6 : WR Tryd.prog 65 u34_6 (rQ u34_7 u34_9 [0, 3, 4]) := ⟨mkQ⟩
instance i34_5 : WR Tryd.prog 65 u34_5 (rBE 0 (.loop u34_6) [0, 3, 4]) := ⟨mkBE⟩
instance i34_4 : WR Tryd.prog 65 u34_4 (rS u34_4r u34_5 [0, 3]) := ⟨mkS⟩
instance i34_21 : WR Tryd.prog 65 u34_21 (rS u34_21r .ret []) := ⟨mkS⟩
instance i34_20 : WR Tryd.prog 65 u34_20 (rS u34_20r u34_21 [0]) := ⟨mkS⟩
instance i34_3 : WR Tryd.prog 65 u34_3 (rQ u34_4 u34_20 [0, 3]) := ⟨mkQ⟩
instance i34_2 : WR Tryd.prog 65 u34_2 (rS u34_2r u34_3 [0]) := ⟨mkS⟩
instance i34_1 : WR Tryd.prog 65 u34_1 (rS u34_1r u34_2 [0]) := ⟨mkS⟩
attribute [go_sem] u34_7r u34_17r u34_15r u34_18r u34_13r u34_11r u34_10r u34_19r u34_4r u34_21r u34_20r u34_2r u34_1r
noncomputable section
def u33_7r : List IOper := [⟨some 2, .pur (.mv (.k (.int .i64 0))), none⟩]
def u33_7 : IC := .seq (.reg u33_7r) .ret
def u33_6r : List IOper := [⟨some 17, .pur (.mv (.t 0)), none⟩, ⟨some 18, .pur (.mv (.t 0)), none⟩, ⟨some 19, .pur (.nck (.t 17)), none⟩, ⟨some 20, .pur (.fad 1 (.t 19)), none⟩, ⟨none, .eff (.st 1 (.t 20) (.k (.bool true))), none⟩, ⟨some 21, .pur (.nck (.t 18)), none⟩, ⟨some 22, .pur (.fad 0 (.t 21)), none⟩, ⟨none, .eff (.st 1 (.t 22) (.k (.string ⟨#[]⟩))), none⟩]
def u33_6 : IC := .seq (.reg u33_6r) u33_7
def u33_5 : IC := .cond (.t 16) u33_6 .skip
def u33_4r : List IOper := [⟨some 6, .pur (.mv (.t 3)), none⟩, ⟨some 7, .pur (.bin .lss (.t 6) (.k (.int .i64 0))), none⟩, ⟨some 8, .pur (.mv (.t 7)), none⟩, ⟨some 9, .pur (.mv (.t 3)), some (8, false)⟩, ⟨some 10, .pur (.mv (.t 0)), some (8, false)⟩, ⟨some 11, .pur (.nck (.t 10)), some (8, false)⟩, ⟨some 12, .pur (.fad 0 (.t 11)), some (8, false)⟩, ⟨some 13, .pur (.ld 1 false (.t 12)), some (8, false)⟩, ⟨some 14, .pur (.lens (.t 13)), some (8, false)⟩, ⟨some 15, .pur (.bin .gtr (.t 9) (.t 14)), some (8, false)⟩, ⟨some 16, .pur (.pick (.t 8) (.k (.bool true)) (.t 15)), none⟩]
def u33_4 : IC := .seq (.reg u33_4r) u33_5
def u33_8r : List IOper := [⟨some 23, .pur (.mv (.t 3)), none⟩, ⟨some 2, .pur (.mv (.t 23)), none⟩]
def u33_8 : IC := .seq (.reg u33_8r) .ret
def u33_3 : IC := .seq u33_4 u33_8
def u33_2r : List IOper := [⟨some 4, .pur (.mv (.t 0)), none⟩, ⟨some 5, .call 34 [.t 4], none⟩, ⟨some 3, .pur (.mv (.t 5)), none⟩]
def u33_2 : IC := .seq (.reg u33_2r) u33_3
def u33_1r : List IOper := [⟨some 2, .pur (.mv (.k (.int .i64 0))), none⟩]
def u33_1 : IC := .seq (.reg u33_1r) u33_2
def u33 : IFn := ⟨24, u33_1, [.tmp 2]⟩
end
theorem isU33 : IsFn Tryd.prog 33 u33 := by unfold IsFn; kernel_rfl
instance i33_7 : WR Tryd.prog 24 u33_7 (rS u33_7r .ret []) := ⟨mkS⟩
instance i33_6 : WR Tryd.prog 24 u33_6 (rS u33_6r u33_7 [0]) := ⟨mkS⟩
instance i33_5 : WR Tryd.prog 24 u33_5 (rCE (.t 16) u33_6 .skip [0, 3, 16]) := ⟨mkCE⟩
instance i33_4 : WR Tryd.prog 24 u33_4 (rS u33_4r u33_5 [0, 3]) := ⟨mkS⟩
instance i33_8 : WR Tryd.prog 24 u33_8 (rS u33_8r .ret [3]) := ⟨mkS⟩
instance i33_3 : WR Tryd.prog 24 u33_3 (rQ u33_4 u33_8 [0, 3]) := ⟨mkQ⟩
instance i33_2 : WR Tryd.prog 24 u33_2 (rS u33_2r u33_3 [0]) := ⟨mkS⟩
instance i33_1 : WR Tryd.prog 24 u33_1 (rS u33_1r u33_2 [0]) := ⟨mkS⟩
attribute [go_sem] u33_7r u33_6r u33_4r u33_8r u33_2r u33_1r
noncomputable section
def u35_10r : List IOper := [⟨some 13, .pur (.mv (.t 3)), none⟩, ⟨some 14, .pur (.mv (.t 4)), none⟩, ⟨some 15, .pur (.mv (.t 0)), none⟩, ⟨some 16, .call 34 [.t 15], none⟩, ⟨some 17, .pur (.iad 1 (.t 13) (.t 14)), none⟩, ⟨none, .eff (.st 1 (.t 17) (.t 16)), none⟩]
def u35_10 : IC := .reg u35_10r
def u35_9r : List IOper := [⟨some 12, .pur (.mv (.t 10)), none⟩, ⟨some 4, .pur (.mv (.t 12)), none⟩]
def u35_9 : IC := .seq (.reg u35_9r) u35_10
def u35_11r : List IOper := [⟨some 18, .pur (.bin .add (.t 10) (.k (.int .i64 1))), none⟩, ⟨some 10, .pur (.mv (.t 18)), none⟩]
def u35_11 : IC := .reg u35_11r
def u35_8 : IC := .seq (.blk 1 u35_9) u35_11
def u35_7 : IC := .seq (.cond (.t 11) .skip (.exit 0)) u35_8
def u35_6r : List IOper := [⟨some 11, .pur (.bin .lss (.t 10) (.t 9)), none⟩]
def u35_6 : IC := .seq (.reg u35_6r) u35_7
def u35_5 : IC := .blk 0 (.loop u35_6)
def u35_4r : List IOper := [⟨some 8, .pur (.mv (.t 3)), none⟩, ⟨some 9, .pur (.len (.t 8)), none⟩, ⟨some 10, .pur (.mv (.k (.int .i64 0))), none⟩]
def u35_4 : IC := .seq (.reg u35_4r) u35_5
def u35_12r : List IOper := [⟨some 19, .pur (.mv (.t 3)), none⟩, ⟨some 2, .pur (.mv (.t 19)), none⟩]
def u35_12 : IC := .seq (.reg u35_12r) .ret
def u35_3 : IC := .seq u35_4 u35_12
def u35_2r : List IOper := [⟨some 5, .pur (.mv (.t 0)), none⟩, ⟨some 6, .call 33 [.t 5], none⟩, ⟨some 7, .new (.msl 1 8 #[.int .i64 0] (.t 6) (.t 6)), none⟩, ⟨some 3, .pur (.mv (.t 7)), none⟩]
def u35_2 : IC := .seq (.reg u35_2r) u35_3
def u35_1r : List IOper := [⟨some 2, .pur (.mv (.k (.slice none 0 0))), none⟩]
def u35_1 : IC := .seq (.reg u35_1r) u35_2
def u35 : IFn := ⟨20, u35_1, [.tmp 2]⟩
end
theorem isU35 : IsFn Tryd.prog 35 u35 := by unfold IsFn; kernel_rfl
instance i35_10 : WR Tryd.prog 20 u35_10 (rE u35_10r [0, 3, 4, 9, 10]) := ⟨mkE⟩
instance i35_9 : WR Tryd.prog 20 u35_9 (rS u35_9r u35_10 [0, 3, 9, 10]) := ⟨mkS⟩
instance i35_11 : WR Tryd.prog 20 u35_11 (rE u35_11r [0, 3, 9, 10]) := ⟨mkE⟩
instance i35_8 : WR Tryd.prog 20 u35_8 (rB 1 u35_9 u35_11 [0, 3, 9, 10]) := ⟨mkB⟩
instance i35_7 : WR Tryd.prog 20 u35_7 (rC (.t 11) .skip (.exit 0) u35_8 [0, 3, 9, 10, 11]) := ⟨mkC⟩
instance i35_6 : WR Tryd.prog 20 u35_6 (rS u35_6r u35_7 [0, 3, 9, 10]) := ⟨mkS⟩
instance i35_5 : WR Tryd.prog 20 u35_5 (rBE 0 (.loop u35_6) [0, 3, 9, 10]) := ⟨mkBE⟩
instance i35_4 : WR Tryd.prog 20 u35_4 (rS u35_4r u35_5 [0, 3]) := ⟨mkS⟩
instance i35_12 : WR Tryd.prog 20 u35_12 (rS u35_12r .ret [3]) := ⟨mkS⟩
instance i35_3 : WR Tryd.prog 20 u35_3 (rQ u35_4 u35_12 [0, 3]) := ⟨mkQ⟩
instance i35_2 : WR Tryd.prog 20 u35_2 (rS u35_2r u35_3 [0]) := ⟨mkS⟩
instance i35_1 : WR Tryd.prog 20 u35_1 (rS u35_1r u35_2 [0]) := ⟨mkS⟩
attribute [go_sem] u35_10r u35_9r u35_11r u35_6r u35_4r u35_12r u35_2r u35_1r
theorem c_rnum (s : RS) (hs : s.1.length ≤ 1000000) (H : Hp) (cc t : Nat) (ht : H t = some (rdB s)) (htc : t < cc) :
    AC Tryd.prog 34 [.ptr t 0] H cc (fun v H' c' => v = I64 (rdNum s).1 ∧ H' = H.upd t (rdB (rdNum s).2)) := by
  obtain ⟨s, bd⟩ := s
  simp only at hs
  refine AC.body mixedU isU34 (Nat.le_of_ble_eq_true rfl) fun hfr => ?_
  show IW Tryd.prog 65 u34_1 ⟨argT _, _, _⟩ (rt [.tmp 2] _)
  repeat' ((first | (with_reducible first | refine wr ?_ | refine i_ret ?_ | refine i_skip ?_ | refine i_exit ?_) | ((with_reducible first | refine k_cb ?_ ?_ | refine k_gb ?_ ?_ | refine k_gb' ?_ ?_) <;> (intro hb; try simp only [hb]))) <;> try simp only [go_sem, Nat.reduceAdd, Nat.reduceLeDiff, Nat.reduceEqDiff, Nat.reduceMul, Nat.reduceSub, ↓reduceIte, Int.reduceLT, Int.reduceLE, Int.reduceGT, Int.reduceGE, Nat.reduceLT, Nat.reduceGT, Int.reduceToNat, reduceCtorEq, Nat.reduceBEq, Int.reduceBEq, Int.reduceBNe, Int.reduceEq, Int.reduceNe, decide_true, decide_false])
  refine i_loop (fun q : Nat × Nat => [(0, .ptr t 0), (3, .int .u64 (q.2 : Int)), (4, I64 q.1)]) (fun _ => H) (fun q c => cc ≤ c ∧ q.1 ≤ 8 ∧ q.1 ≤ s.length ∧ q.2 < 2 ^ (7 * q.1) ∧ varL 8 0 0 s = varL (8 - q.1) q.1 q.2 (s.drop q.1)) (fun q => 8 - q.1) (0, 0) (by simp [tmLe, tm, Tm.upd]) (Sub.refl _) (by simp) ?_
  rintro ⟨k, z⟩ c ⟨hc, hk8, hkl, hz, hv⟩
  simp only at hk8 hkl hz hv
  by_cases hlt : k < s.length ∧ k < 8
  · obtain ⟨h1, h2⟩ := hlt
    have hd1 : decide ((k : Int) < s.length) = true := by simpa using h1
    have hd2 : decide ((k : Int) < 8) = true := by simp; omega
    obtain ⟨b, hb⟩ : ∃ b, b = s[k] := ⟨_, rfl⟩
    have hg : s[k]? = some b := by rw [hb]; exact List.getElem?_eq_getElem h1
    have hx : b.toNat % 128 < 128 := Nat.mod_lt _ (by omega)
    have hand := and127 b
    have hc64 := wu64 (n := ((b.toNat % 128 : Nat) : Int)) (by omega) (by omega)
    have hmul : IntKind.i64.wrap (7 * (k : Int)) = ((7 * k : Nat) : Int) := by rw [w64 (by omega) (by omega)]; omega
    have hshl := shl64 (k := k) hx (by omega)
    have hor := or64 (k := k) hz hx (by omega)
    have hw : IntKind.i64.wrap ((k : Int) + 1) = ((k + 1 : Nat) : Int) := by rw [w64 (by omega) (by omega)]; omega
    have hst := varL_step (n := 7 - k) (z := z) hg
    have e8 : 8 - k = 7 - k + 1 := by omega
    rw [e8, hst] at hv
    have hz' : z + b.toNat % 128 * 2 ^ (7 * k) < 2 ^ (7 * (k + 1)) := by
      have : b.toNat % 128 * 2 ^ (7 * k) ≤ 127 * 2 ^ (7 * k) := Nat.mul_le_mul_right _ (by omega)
      have e := pow7 k
      omega
    have hz8 : 2 ^ (7 * (k + 1)) ≤ 2 ^ 56 := Nat.pow_le_pow_right (by omega) (by omega)
    generalize z + b.toNat % 128 * 2 ^ (7 * k) = z' at *
    by_cases hlo : b.toNat < 128
    · have hd3 : decide ((b.toNat : Int) < 128) = true := by simp; omega
      rw [if_pos hlo] at hv
      have hsl := sls_from (s := s) (k := k + 1) (by omega)
      have hq := quo2 (z := z') (by omega)
      have hr := rem2 z'
      have hn2 : ¬(2 : Int) = 0 := by omega
      have wq := w64 (n := ((z' / 2 : Nat) : Int)) (by omega) (by omega)
      have e : rdNum (s, bd) = (unzig z', (s.drop (k + 1), bd)) := by rw [rdNum, hv]
      rw [e]
      by_cases h2z : z' % 2 = 1
      · have hd4 : (((z' % 2 : Nat) : Int) == 1) = true := by rw [h2z]; rfl
        have w1 : IntKind.i64.wrap (0 - ((z' / 2 : Nat) : Int)) = -((z' / 2 : Nat) : Int) := by rw [w64 (by omega) (by omega)]; omega
        have w2 := w64 (n := -((z' / 2 : Nat) : Int) - 1) (by omega) (by omega)
        repeat' ((first | (with_reducible first | refine wr ?_ | refine i_ret ?_ | refine i_skip ?_ | refine i_exit ?_) | ((with_reducible first | refine k_cb ?_ ?_ | refine k_gb ?_ ?_ | refine k_gb' ?_ ?_) <;> (intro hb; try simp only [hb]))) <;> try simp only [go_sem, Nat.reduceAdd, Nat.reduceLeDiff, Nat.reduceEqDiff, Nat.reduceMul, Nat.reduceSub, ↓reduceIte, Int.reduceLT, Int.reduceLE, Int.reduceGT, Int.reduceGE, Nat.reduceLT, Nat.reduceGT, Int.reduceToNat, reduceCtorEq, Nat.reduceBEq, Int.reduceBEq, Int.reduceBNe, Int.reduceEq, Int.reduceNe, decide_true, decide_false, ht, hd1, hd2, hg, hand, hc64, hmul, hshl, hor, hw, hd3, hsl, r_quo, r_rem, hq, hr, hn2, wq, hd4, w1, w2])
        exact ⟨_, _, GL.refl _ _, by rw [unzig, if_pos h2z], rfl⟩
      · have hd4 : (((z' % 2 : Nat) : Int) == 1) = false := by simp; omega
        repeat' ((first | (with_reducible first | refine wr ?_ | refine i_ret ?_ | refine i_skip ?_ | refine i_exit ?_) | ((with_reducible first | refine k_cb ?_ ?_ | refine k_gb ?_ ?_ | refine k_gb' ?_ ?_) <;> (intro hb; try simp only [hb]))) <;> try simp only [go_sem, Nat.reduceAdd, Nat.reduceLeDiff, Nat.reduceEqDiff, Nat.reduceMul, Nat.reduceSub, ↓reduceIte, Int.reduceLT, Int.reduceLE, Int.reduceGT, Int.reduceGE, Nat.reduceLT, Nat.reduceGT, Int.reduceToNat, reduceCtorEq, Nat.reduceBEq, Int.reduceBEq, Int.reduceBNe, Int.reduceEq, Int.reduceNe, decide_true, decide_false, ht, hd1, hd2, hg, hand, hc64, hmul, hshl, hor, hw, hd3, hsl, r_quo, r_rem, hq, hr, hn2, wq, hd4])
        exact ⟨_, _, GL.refl _ _, by rw [unzig, if_neg h2z], rfl⟩
    · have hd3 : decide ((b.toNat : Int) < 128) = false := by simp; omega
      rw [if_neg hlo] at hv
      repeat' ((first | (with_reducible first | refine wr ?_ | refine i_ret ?_ | refine i_skip ?_ | refine i_exit ?_) | ((with_reducible first | refine k_cb ?_ ?_ | refine k_gb ?_ ?_ | refine k_gb' ?_ ?_) <;> (intro hb; try simp only [hb]))) <;> try simp only [go_sem, Nat.reduceAdd, Nat.reduceLeDiff, Nat.reduceEqDiff, Nat.reduceMul, Nat.reduceSub, ↓reduceIte, Int.reduceLT, Int.reduceLE, Int.reduceGT, Int.reduceGE, Nat.reduceLT, Nat.reduceGT, Int.reduceToNat, reduceCtorEq, Nat.reduceBEq, Int.reduceBEq, Int.reduceBNe, Int.reduceEq, Int.reduceNe, decide_true, decide_false, ht, hd1, hd2, hg, hand, hc64, hmul, hshl, hor, hw, hd3])
      exact ⟨(k + 1, z'), by simp, Sub.refl _, inv ⟨by omega, by simp only; omega, by simp only; omega, hz', by simp only; rw [hv]; congr 1; omega⟩, by simp only; omega⟩
  · have e : rdNum (s, bd) = (0, ([], true)) := by
      rw [rdNum, hv, varL_end (by omega)]
    rw [e]
    by_cases h1 : k < s.length
    · have hd1 : decide ((k : Int) < s.length) = true := by simpa using h1
      have hd2 : decide ((k : Int) < 8) = false := by simp; omega
      repeat' ((first | (with_reducible first | refine wr ?_ | refine i_ret ?_ | refine i_skip ?_ | refine i_exit ?_) | ((with_reducible first | refine k_cb ?_ ?_ | refine k_gb ?_ ?_ | refine k_gb' ?_ ?_) <;> (intro hb; try simp only [hb]))) <;> try simp only [go_sem, Nat.reduceAdd, Nat.reduceLeDiff, Nat.reduceEqDiff, Nat.reduceMul, Nat.reduceSub, ↓reduceIte, Int.reduceLT, Int.reduceLE, Int.reduceGT, Int.reduceGE, Nat.reduceLT, Nat.reduceGT, Int.reduceToNat, reduceCtorEq, Nat.reduceBEq, Int.reduceBEq, Int.reduceBNe, Int.reduceEq, Int.reduceNe, decide_true, decide_false, ht, hd1, hd2])
      exact ⟨_, _, GL.refl _ _, rfl, h_upd2⟩
    · have hd1 : decide ((k : Int) < s.length) = false := by simp; omega
      repeat' ((first | (with_reducible first | refine wr ?_ | refine i_ret ?_ | refine i_skip ?_ | refine i_exit ?_) | ((with_reducible first | refine k_cb ?_ ?_ | refine k_gb ?_ ?_ | refine k_gb' ?_ ?_) <;> (intro hb; try simp only [hb]))) <;> try simp only [go_sem, Nat.reduceAdd, Nat.reduceLeDiff, Nat.reduceEqDiff, Nat.reduceMul, Nat.reduceSub, ↓reduceIte, Int.reduceLT, Int.reduceLE, Int.reduceGT, Int.reduceGE, Nat.reduceLT, Nat.reduceGT, Int.reduceToNat, reduceCtorEq, Nat.reduceBEq, Int.reduceBEq, Int.reduceBNe, Int.reduceEq, Int.reduceNe, decide_true, decide_false, ht, hd1])
      exact ⟨_, _, GL.refl _ _, rfl, h_upd2⟩
theorem c_rcnt (s : RS) (hs : s.1.length ≤ 1000000) (H : Hp) (cc t : Nat) (ht : H t = some (rdB s)) (htc : t < cc) :
    AC Tryd.prog 33 [.ptr t 0] H cc (fun v H' c' => v = I64 ((rdCnt s).1 : Int) ∧ H' = H.upd t (rdB (rdCnt s).2)) := by
  refine AC.body mixedU isU33 (Nat.le_of_ble_eq_true rfl) fun hfr => ?_
  show IW Tryd.prog 24 u33_1 ⟨argT _, _, _⟩ (rt [.tmp 2] _)
  repeat' ((first | (with_reducible first | refine wr ?_ | refine i_ret ?_ | refine i_skip ?_ | refine i_exit ?_) | ((with_reducible first | refine k_cb ?_ ?_ | refine k_gb ?_ ?_ | refine k_gb' ?_ ?_) <;> (intro hb; try simp only [hb]))) <;> try simp only [go_sem, Nat.reduceAdd, Nat.reduceLeDiff, Nat.reduceEqDiff, Nat.reduceMul, Nat.reduceSub, ↓reduceIte, Int.reduceLT, Int.reduceLE, Int.reduceGT, Int.reduceGE, Nat.reduceLT, Nat.reduceGT, Int.reduceToNat, reduceCtorEq, Nat.reduceBEq, Int.reduceBEq, Int.reduceBNe, Int.reduceEq, Int.reduceNe, decide_true, decide_false])
  refine AC.call (c_rnum s hs H cc t ht htc) ?_
  rintro v H' c1 ⟨rfl, rfl⟩ hc
  have hB := rdNum_bd s
  have hL := rdNum_len s
  by_cases h1 : (rdNum s).1 < 0
  · have hd1 : decide ((rdNum s).1 < 0) = true := by simpa using h1
    have e : rdCnt s = (0, ([], true)) := by rw [rdCnt, if_pos (.inl h1)]
    simp only [go_sem, Nat.reduceAdd, Nat.reduceLeDiff, Nat.reduceEqDiff, Nat.reduceMul, Nat.reduceSub, ↓reduceIte, Int.reduceLT, Int.reduceLE, Int.reduceGT, Int.reduceGE, Nat.reduceLT, Nat.reduceGT, Int.reduceToNat, reduceCtorEq, Nat.reduceBEq, Int.reduceBEq, Int.reduceBNe, Int.reduceEq, Int.reduceNe, decide_true, decide_false, hd1]
    repeat' ((first | (with_reducible first | refine wr ?_ | refine i_ret ?_ | refine i_skip ?_ | refine i_exit ?_) | ((with_reducible first | refine k_cb ?_ ?_ | refine k_gb ?_ ?_ | refine k_gb' ?_ ?_) <;> (intro hb; try simp only [hb]))) <;> try simp only [go_sem, Nat.reduceAdd, Nat.reduceLeDiff, Nat.reduceEqDiff, Nat.reduceMul, Nat.reduceSub, ↓reduceIte, Int.reduceLT, Int.reduceLE, Int.reduceGT, Int.reduceGE, Nat.reduceLT, Nat.reduceGT, Int.reduceToNat, reduceCtorEq, Nat.reduceBEq, Int.reduceBEq, Int.reduceBNe, Int.reduceEq, Int.reduceNe, decide_true, decide_false, hd1])
    rw [e]
    exact ⟨_, _, GL.refl _ _, rfl, by rw [h_upd2, h_upd2]⟩
  have hd1 : decide ((rdNum s).1 < 0) = false := by simpa using h1
  by_cases h2 : (rdNum s).1 > (rdNum s).2.1.length
  · have hd2 : decide ((rdNum s).1 > (rdNum s).2.1.length) = true := by simpa using h2
    have e : rdCnt s = (0, ([], true)) := by rw [rdCnt, if_pos (.inr h2)]
    simp only [go_sem, Nat.reduceAdd, Nat.reduceLeDiff, Nat.reduceEqDiff, Nat.reduceMul, Nat.reduceSub, ↓reduceIte, Int.reduceLT, Int.reduceLE, Int.reduceGT, Int.reduceGE, Nat.reduceLT, Nat.reduceGT, Int.reduceToNat, reduceCtorEq, Nat.reduceBEq, Int.reduceBEq, Int.reduceBNe, Int.reduceEq, Int.reduceNe, decide_true, decide_false, hd1, hd2]
    repeat' ((first | (with_reducible first | refine wr ?_ | refine i_ret ?_ | refine i_skip ?_ | refine i_exit ?_) | ((with_reducible first | refine k_cb ?_ ?_ | refine k_gb ?_ ?_ | refine k_gb' ?_ ?_) <;> (intro hb; try simp only [hb]))) <;> try simp only [go_sem, Nat.reduceAdd, Nat.reduceLeDiff, Nat.reduceEqDiff, Nat.reduceMul, Nat.reduceSub, ↓reduceIte, Int.reduceLT, Int.reduceLE, Int.reduceGT, Int.reduceGE, Nat.reduceLT, Nat.reduceGT, Int.reduceToNat, reduceCtorEq, Nat.reduceBEq, Int.reduceBEq, Int.reduceBNe, Int.reduceEq, Int.reduceNe, decide_true, decide_false, hd1, hd2])
    rw [e]
    exact ⟨_, _, GL.refl _ _, rfl, by rw [h_upd2, h_upd2]⟩
  · have hd2 : decide ((rdNum s).1 > (rdNum s).2.1.length) = false := by simpa using h2
    have e : rdCnt s = ((rdNum s).1.toNat, (rdNum s).2) := by rw [rdCnt, if_neg (by omega)]
    simp only [go_sem, Nat.reduceAdd, Nat.reduceLeDiff, Nat.reduceEqDiff, Nat.reduceMul, Nat.reduceSub, ↓reduceIte, Int.reduceLT, Int.reduceLE, Int.reduceGT, Int.reduceGE, Nat.reduceLT, Nat.reduceGT, Int.reduceToNat, reduceCtorEq, Nat.reduceBEq, Int.reduceBEq, Int.reduceBNe, Int.reduceEq, Int.reduceNe, decide_true, decide_false, hd1, hd2]
    repeat' ((first | (with_reducible first | refine wr ?_ | refine i_ret ?_ | refine i_skip ?_ | refine i_exit ?_) | ((with_reducible first | refine k_cb ?_ ?_ | refine k_gb ?_ ?_ | refine k_gb' ?_ ?_) <;> (intro hb; try simp only [hb]))) <;> try simp only [go_sem, Nat.reduceAdd, Nat.reduceLeDiff, Nat.reduceEqDiff, Nat.reduceMul, Nat.reduceSub, ↓reduceIte, Int.reduceLT, Int.reduceLE, Int.reduceGT, Int.reduceGE, Nat.reduceLT, Nat.reduceGT, Int.reduceToNat, reduceCtorEq, Nat.reduceBEq, Int.reduceBEq, Int.reduceBNe, Int.reduceEq, Int.reduceNe, decide_true, decide_false, hd1, hd2])
    rw [e]
    exact ⟨_, _, GL.refl _ _, by simp only; congr 1; omega, rfl⟩
theorem c_rnums (s : RS) (hs : s.1.length ≤ 1000000) (H : Hp) (cc t : Nat) (ht : H t = some (rdB s)) (htc : t < cc) :
    AC Tryd.prog 35 [.ptr t 0] H cc (fun v H' c' => v = ints (rdNums s).1 ∧ H' = H.upd t (rdB (rdNums s).2)) := by
  refine AC.body mixedU isU35 (Nat.le_of_ble_eq_true rfl) fun hfr => ?_
  show IW Tryd.prog 20 u35_1 ⟨argT _, _, _⟩ (rt [.tmp 2] _)
  repeat' ((first | (with_reducible first | refine wr ?_ | refine i_ret ?_ | refine i_skip ?_ | refine i_exit ?_) | ((with_reducible first | refine k_cb ?_ ?_ | refine k_gb ?_ ?_ | refine k_gb' ?_ ?_) <;> (intro hb; try simp only [hb]))) <;> try simp only [go_sem, Nat.reduceAdd, Nat.reduceLeDiff, Nat.reduceEqDiff, Nat.reduceMul, Nat.reduceSub, ↓reduceIte, Int.reduceLT, Int.reduceLE, Int.reduceGT, Int.reduceGE, Nat.reduceLT, Nat.reduceGT, Int.reduceToNat, reduceCtorEq, Nat.reduceBEq, Int.reduceBEq, Int.reduceBNe, Int.reduceEq, Int.reduceNe, decide_true, decide_false])
  refine AC.call (c_rcnt s hs H cc t ht htc) ?_
  rintro v H' id ⟨rfl, rfl⟩ hc
  obtain ⟨L1, L2⟩ := rdCnt_len s
  obtain ⟨n, hn⟩ : ∃ n, n = (rdCnt s).1 := ⟨_, rfl⟩
  obtain ⟨st, hst⟩ : ∃ st, st = (rdCnt s).2 := ⟨_, rfl⟩
  have e : rdNums s = rdMany rdNum n st := by rw [hn, hst]; rfl
  rw [e]
  rw [← hn, ← hst] at L2 ⊢
  have Ln : n ≤ 1000000 := by have := hst ▸ L1; omega
  rw [← hst] at L1
  simp only [go_sem, Nat.reduceAdd, Nat.reduceLeDiff, Nat.reduceEqDiff, Nat.reduceMul, Nat.reduceSub, ↓reduceIte, Int.reduceLT, Int.reduceLE, Int.reduceGT, Int.reduceGE, Nat.reduceLT, Nat.reduceGT, Int.reduceToNat, reduceCtorEq, Nat.reduceBEq, Int.reduceBEq, Int.reduceBNe, Int.reduceEq, Int.reduceNe, decide_true, decide_false]
  repeat' ((first | (with_reducible first | refine wr ?_ | refine i_ret ?_ | refine i_skip ?_ | refine i_exit ?_) | ((with_reducible first | refine k_cb ?_ ?_ | refine k_gb ?_ ?_ | refine k_gb' ?_ ?_) <;> (intro hb; try simp only [hb])) | ((with_reducible refine k_nval (r_msl (by omega) (by omega) rfl rfl) ?_))) <;> try simp only [go_sem, Nat.reduceAdd, Nat.reduceLeDiff, Nat.reduceEqDiff, Nat.reduceMul, Nat.reduceSub, ↓reduceIte, Int.reduceLT, Int.reduceLE, Int.reduceGT, Int.reduceGE, Nat.reduceLT, Nat.reduceGT, Int.reduceToNat, reduceCtorEq, Nat.reduceBEq, Int.reduceBEq, Int.reduceBNe, Int.reduceEq, Int.reduceNe, decide_true, decide_false])
  refine i_loop (fun k : Nat => [(0, .ptr t 0), (3, .slc id 0 n), (9, I64 n), (10, I64 k)]) (fun k => (H.upd t (rdB (rdMany rdNum k st).2)).upd id ⟨1, true, ((rdMany rdNum k st).1 ++ List.replicate (n - k) 0).map I64⟩) (fun k c => id < c ∧ k ≤ n) (fun k => n - k) 0 (by simp [tmLe, tm, Tm.upd]) (by simp [rdMany, madeL_one]; exact Sub.refl _) (by omega) ?_
  rintro k c ⟨hc1, hk⟩
  have hti : ¬ t = id := by omega
  obtain ⟨M1, M2⟩ := rdMany_len (f := rdNum) rdNum_len k st
  by_cases hlt : k < n
  · have hd : decide ((k : Int) < (n : Int)) = true := by simpa using hlt
    have hw : IntKind.i64.wrap ((k : Int) + 1) = ((k + 1 : Nat) : Int) := by rw [w64 (by omega) (by omega)]; omega
    repeat' ((first | (with_reducible first | refine wr ?_ | refine i_ret ?_ | refine i_skip ?_ | refine i_exit ?_) | ((with_reducible first | refine k_cb ?_ ?_ | refine k_gb ?_ ?_ | refine k_gb' ?_ ?_) <;> (intro hb; try simp only [hb]))) <;> try simp only [go_sem, Nat.reduceAdd, Nat.reduceLeDiff, Nat.reduceEqDiff, Nat.reduceMul, Nat.reduceSub, ↓reduceIte, Int.reduceLT, Int.reduceLE, Int.reduceGT, Int.reduceGE, Nat.reduceLT, Nat.reduceGT, Int.reduceToNat, reduceCtorEq, Nat.reduceBEq, Int.reduceBEq, Int.reduceBNe, Int.reduceEq, Int.reduceNe, decide_true, decide_false, hd])
    refine AC.call (c_rnum (rdMany rdNum k st).2 (by omega) _ c t (by rw [h_ne hti, h_same]) (by omega)) ?_
    rintro v H' c1 ⟨rfl, rfl⟩ hcc
    have hti2 : ¬ id = t := by omega
    have hia := r_iadsn (id := id) (off := 0) (l := n) (sz := 1) (k := .i64) hlt
    have hlen : ((rdMany rdNum k st).1 ++ List.replicate (n - k) 0).length = n := by simp [M2]; omega
    have hle : k + 1 ≤ n := hlt
    simp only [go_sem, Nat.reduceAdd, Nat.reduceLeDiff, Nat.reduceEqDiff, Nat.reduceMul, Nat.reduceSub, ↓reduceIte, Int.reduceLT, Int.reduceLE, Int.reduceGT, Int.reduceGE, Nat.reduceLT, Nat.reduceGT, Int.reduceToNat, reduceCtorEq, Nat.reduceBEq, Int.reduceBEq, Int.reduceBNe, Int.reduceEq, Int.reduceNe, decide_true, decide_false, hia, hti, hti2, hlen, hle]
    repeat' ((first | (with_reducible first | refine wr ?_ | refine i_ret ?_ | refine i_skip ?_ | refine i_exit ?_) | ((with_reducible first | refine k_cb ?_ ?_ | refine k_gb ?_ ?_ | refine k_gb' ?_ ?_) <;> (intro hb; try simp only [hb]))) <;> try simp only [go_sem, Nat.reduceAdd, Nat.reduceLeDiff, Nat.reduceEqDiff, Nat.reduceMul, Nat.reduceSub, ↓reduceIte, Int.reduceLT, Int.reduceLE, Int.reduceGT, Int.reduceGE, Nat.reduceLT, Nat.reduceGT, Int.reduceToNat, reduceCtorEq, Nat.reduceBEq, Int.reduceBEq, Int.reduceBNe, Int.reduceEq, Int.reduceNe, decide_true, decide_false, hia, hw, hti, hti2, hlen, hle])
    refine ⟨k + 1, rfl, ?_, inv ⟨by omega, hlt⟩, by omega⟩
    rw [put_map (by rw [hlen]; omega)]
    have e2 : ((rdMany rdNum k st).1 ++ List.replicate (n - k) 0).set k (rdNum (rdMany rdNum k st).2).1 = (rdMany rdNum (k + 1) st).1 ++ List.replicate (n - (k + 1)) 0 := by
      obtain ⟨m, hm⟩ : ∃ m, n - k = m + 1 := ⟨n - k - 1, by omega⟩
      have hm2 : n - (k + 1) = m := by omega
      rw [hm, hm2, List.set_append_right _ _ (by omega), M2, Nat.sub_self, List.replicate_succ, List.set_cons_zero, rdMany]
      simp
    rw [e2]
    intro j b hj
    simp only [Hp.upd] at hj ⊢
    repeat' split at hj
    all_goals (repeat' split)
    all_goals first | exact hj | (exfalso; omega) | (simp only [rdMany] at hj ⊢; exact hj)
  · have hd : decide ((k : Int) < (n : Int)) = false := by simpa using hlt
    obtain rfl : k = n := by omega
    repeat' ((first | (with_reducible first | refine wr ?_ | refine i_ret ?_ | refine i_skip ?_ | refine i_exit ?_) | ((with_reducible first | refine k_cb ?_ ?_ | refine k_gb ?_ ?_ | refine k_gb' ?_ ?_) <;> (intro hb; try simp only [hb]))) <;> try simp only [go_sem, Nat.reduceAdd, Nat.reduceLeDiff, Nat.reduceEqDiff, Nat.reduceMul, Nat.reduceSub, ↓reduceIte, Int.reduceLT, Int.reduceLE, Int.reduceGT, Int.reduceGE, Nat.reduceLT, Nat.reduceGT, Int.reduceToNat, reduceCtorEq, Nat.reduceBEq, Int.reduceBEq, Int.reduceBNe, Int.reduceEq, Int.reduceNe, decide_true, decide_false, hd])
    refine ⟨_, _, GL.frzS (H' := H.upd t (rdB (rdMany rdNum k st).2)) (id := id) h_same rfl (fun j => ?_) (.cons _ _ _ _ (fz_slc (u := 1) (by simp [M2]) (ints_unit (rdMany rdNum k st).1) ⟨[], by simp [cells_ints]⟩) .nil), rfl, rfl⟩
    by_cases ej : j = id
    · subst ej; left; rw [h_ne (Ne.symm hti)]; exact hfr j hc
    · right; exact ⟨ej, (h_ne ej).symm⟩
end Go.Proofs.YtcallbfckjlagaaDoor
