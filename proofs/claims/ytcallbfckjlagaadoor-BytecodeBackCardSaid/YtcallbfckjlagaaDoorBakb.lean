/-
  HELPERS of the claim: part 2 of its texts.
-/
import Derived.IntWalk
import Derived.Below
import Derived.ChangeSame
import Derived.ReadAgain
import Derived.ChangeBears
import Derived.Deep.Slices
import Derived.OpenShut
import Derived.Test.YtcallbfckjlagaaDoorProg
import Derived.KernelRfl
import Derived.Test.YtcallbfckjlagaaDoorBaka
set_option linter.unusedVariables false
set_option linter.unusedSimpArgs false
namespace Go.Sym
open Go.Eng (Tgt Opd FOp AOp EOp IOp IOper DReg IC RV IFn trC trFn IsFn Callable)
variable {P : Program}
mutual
def DV.nl : DV → Bool
  | .bot => true
  | .bool _ => true
  | .int _ _ => true
  | .str _ => true
  | .pnil => true
  | .ptr _ _ => false
  | .snil => true
  | .slc _ _ _ => false
  | .lst xs => DV.nlL xs
  | .fptr cs => DV.nlL cs
  | .fnil => true
  | .func _ a c => DV.nlL a && DV.nlL c
  | .inil => true
  | .iface _ x => x.nl
  | .agg cs => DV.nlL cs
  | .tup vs => DV.nlL vs
def DV.nlL : List DV → Bool
  | [] => true
  | x :: r => x.nl && DV.nlL r
end
theorem nlL_mem : ∀ {xs : List DV}, DV.nlL xs = true → ∀ x ∈ xs, x.nl = true
  | [], _, x, hx => by cases hx
  | y :: r, h, x, hx => by
    simp only [DV.nlL, Bool.and_eq_true] at h
    cases hx with
    | head => exact h.1
    | tail _ hx => exact nlL_mem h.2 x hx
theorem nlL_of : ∀ {xs : List DV}, (∀ x ∈ xs, x.nl = true) → DV.nlL xs = true
  | [], _ => rfl
  | y :: r, h => by
    simp only [DV.nlL, Bool.and_eq_true]
    exact ⟨h y List.mem_cons_self, nlL_of fun x hx => h x (List.mem_cons_of_mem _ hx)⟩
theorem nl_cells {x : DV} (h : x.nl = true) : ∀ d ∈ x.cells, d.nl = true := by
  cases x <;> simp only [DV.cells, List.mem_singleton, forall_eq] <;> (try exact h)
  exact nlL_mem (by simpa only [DV.nl] using h)
theorem nl_cellsL {xs : List DV} (h : DV.nlL xs = true) : ∀ d ∈ cellsL xs, d.nl = true := by
  intro d hd
  simp only [cellsL, List.mem_flatMap] at hd
  obtain ⟨x, hx, hd⟩ := hd
  exact nl_cells (nlL_mem h x hx) d hd
theorem nlL_map {α : Type} {f : α → DV} (h : ∀ x, (f x).nl = true) (l : List α) : DV.nlL (l.map f) = true :=
  nlL_of fun x hx => by obtain ⟨y, _, rfl⟩ := List.mem_map.1 hx; exact h y
theorem VRel.nl {ρ ρ' : Ren} (hf : ∀ b r, ρ.fz b = some r → ρ'.fz b = some r) {d : DV} {v : Value} (h : VRel ρ d v) : d.nl = true → VRel ρ' d v := by
  induction h with
  | bot v => exact fun _ => .bot v
  | bool b => exact fun _ => .bool b
  | int k n => exact fun _ => .int k n
  | str s => exact fun _ => .str s
  | pnil => exact fun _ => .pnil
  | ptr id off t h => intro hn; simp [DV.nl] at hn
  | snil => exact fun _ => .snil
  | slc id off n c t h hc hm hr => intro hn; simp [DV.nl] at hn
  | lnil0 => exact fun _ => .lnil0
  | lnil a c => exact fun _ => .lnil a c
  | lst xs n u b off c row h hn hc hm hu hl2 h1 _ ih =>
    intro hnl
    simp only [DV.nl] at hnl
    exact .lst xs n u b off c row (hf _ _ h) hn hc hm hu hl2 h1 fun k d v hd hv => ih k d v hd hv (nl_cellsL hnl d (List.mem_of_getElem? hd))
  | fptr cs b off row h hl2 h1 _ ih =>
    intro hnl
    simp only [DV.nl] at hnl
    exact .fptr cs b off row (hf _ _ h) hl2 h1 fun k d v hd hv => ih k d v hd hv (nlL_mem hnl d (List.mem_of_getElem? hd))
  | fnil => exact fun _ => .fnil
  | func f a b c d h1 _ h3 _ ih1 ih2 =>
    intro hnl
    simp only [DV.nl, Bool.and_eq_true] at hnl
    exact .func f a b c d h1 (fun i x y hx hy => ih1 i x y hx hy (nlL_mem hnl.1 x (List.mem_of_getElem? hx))) h3 (fun i x y hx hy => ih2 i x y hx hy (nlL_mem hnl.2 x (List.mem_of_getElem? hx)))
  | inil => exact fun _ => .inil
  | iface t x y _ ih => intro hnl; simp only [DV.nl] at hnl; exact .iface t x y (ih hnl)
  | agg a b h1 _ ih => intro hnl; simp only [DV.nl] at hnl; exact .agg a b h1 (fun i x y hx hy => ih i x y hx hy (nlL_mem hnl x (List.mem_of_getElem? hx)))
  | tup a b h1 _ ih => intro hnl; simp only [DV.nl] at hnl; exact .tup a b h1 (fun i x y hx hy => ih i x y hx hy (nlL_mem hnl x (List.mem_of_getElem? hx)))
theorem ARel.nl {ρ ρ' : Ren} (hf : ∀ b r, ρ.fz b = some r → ρ'.fz b = some r) {ds : List DV} {vs : Array Value} (h : ARel ρ ds vs) (hn : DV.nlL ds = true) : ARel ρ' ds vs :=
  ⟨h.1, fun i x y hx hy => (h.2 i x y hx hy).nl hf (nlL_mem hn x (List.mem_of_getElem? hx))⟩
theorem AC.call {f : Nat} {args : List DV} {H : Hp} {c : Nat} {Q K : DV → Hp → Nat → Prop} (h : AC P f args H c Q) (hk : ∀ v H' c', Q v H' c' → c ≤ c' → K v H' c') : AC P f args H c K :=
  ⟨h.1, fun ρ w args' h1 h2 h3 => (h.2 ρ w args' h1 h2 h3).mono fun e w' ⟨v, v', H', c', ρ', e1, q, d⟩ => ⟨v, v', H', c', ρ', e1, hk _ _ _ q d.up, d⟩⟩
theorem Rep.fresh {ρ : Ren} {H : Hp} {w : World} (hR : Rep ρ H w) {c : Nat} (hf : ∀ id, c ≤ id → ρ.nm id = none) : ∀ id, c ≤ id → H id = none := by
  intro id hid
  cases hb : H id with
  | none => rfl
  | some b =>
    obtain ⟨t, ht, -⟩ := hR.blk id b hb
    rw [hf id hid] at ht; cases ht
theorem IW.fresh {N : Nat} {ic : IC} {s : St} {Q : Exit → St → Prop} (h : (∀ id, s.c ≤ id → s.H id = none) → IW P N ic s Q) : IW P N ic s Q :=
  fun hm c hc ρ a w hS => h (hS.rep.fresh hS.fresh) hm c hc ρ a w hS
def GL (H : Hp) (ds : List DV) (H' : Hp) (ds' : List DV) : Prop :=
  (∀ id, H' id ≠ none → H id ≠ none) ∧ ∀ (ρ : Ren) (w : World) (vs : Array Value), Rep ρ H w → ARel ρ ds vs → ∃ ρ' : Ren, ρ'.nm = ρ.nm ∧ Rep ρ' H' w ∧ ARel ρ' ds' vs ∧ Ext ρ H w ρ' H' w
theorem GL.refl (H : Hp) (ds : List DV) : GL H ds H ds := ⟨fun _ h => h, fun ρ w vs h1 h2 => ⟨ρ, rfl, h1, h2, Ext.refl _ _ _⟩⟩
theorem GL.trans {H H' H'' : Hp} {ds ds' ds'' : List DV} (h : GL H ds H' ds') (k : GL H' ds' H'' ds'') : GL H ds H'' ds'' :=
  ⟨fun id hid => h.1 id (k.1 id hid), fun ρ w vs h1 h2 => by
    obtain ⟨ρ1, e1, r1, a1, x1⟩ := h.2 ρ w vs h1 h2
    obtain ⟨ρ2, e2, r2, a2, x2⟩ := k.2 ρ1 w vs r1 a1
    exact ⟨ρ2, e2.trans e1, r2, a2, x1.trans x2⟩⟩
theorem Ext.less {ρ : Ren} {H H0 : Hp} {w : World} (h : ∀ j, H0 j = none ∨ H0 j = H j) : Ext ρ H w ρ H0 w :=
  ⟨Ren.le_refl _, rfl, rfl, rfl, Nat.le_refl _, fun _ _ _ => rfl, fun id b t h1 h3 => .inr ⟨id, b, t, by
    rcases h id with h0 | h0 <;> rw [h0] at h1
    · cases h1
    · exact h1, fun h => h, h3, rfl⟩, fun k r h => .inl h⟩
theorem GL.less {H H0 : Hp} {ds : List DV} (h : ∀ j, H0 j = none ∨ H0 j = H j) : GL H ds H0 ds :=
  ⟨fun id hid => by rcases h id with h0 | h0 <;> rw [h0] at hid; exact absurd rfl hid; exact hid, fun ρ w vs h1 h2 => ⟨ρ, rfl, h1.less h, h2, Ext.less h⟩⟩
theorem GL.less' {H H0 : Hp} {ds : List DV} (h : ∀ j b, H0 j = some b → H j = some b) : GL H ds H0 ds :=
  GL.less fun j => by
    cases hc : H0 j with
    | none => exact .inl rfl
    | some b => exact .inr (h j b hc).symm
mutual
inductive Fz (id : Nat) (b : Blk) : DV → DV → Prop where
  | same (d : DV) : Fz id b d d
  | bot (d : DV) : Fz id b d .bot
  | slc (off n u : Nat) (xs : List DV) (hl : xs.length = n) (hu : ∀ x ∈ xs, x.cells.length = u) (hle : off + n * u ≤ b.cells.length) (hc : cellsL xs = (b.cells.drop off).take (n * u)) : Fz id b (.slc id off n) (.lst xs)
  | ptr (off : Nat) (cs : List DV) (hle : off ≤ b.cells.length) (hc : cs = b.cells.drop off) : Fz id b (.ptr id off) (.fptr cs)
  | agg (a a' : List DV) (h : FzL id b a a') : Fz id b (.agg a) (.agg a')
  | tup (a a' : List DV) (h : FzL id b a a') : Fz id b (.tup a) (.tup a')
  | func (f : Nat) (a a' c c' : List DV) (h : FzL id b a a') (h' : FzL id b c c') : Fz id b (.func f a c) (.func f a' c')
inductive FzL (id : Nat) (b : Blk) : List DV → List DV → Prop where
  | nil : FzL id b [] []
  | cons (x y : DV) (a a' : List DV) (h : Fz id b x y) (h' : FzL id b a a') : FzL id b (x :: a) (y :: a')
end
theorem FzL.refl {id : Nat} {b : Blk} : ∀ (l : List DV), FzL id b l l
  | [] => .nil
  | x :: r => .cons _ _ _ _ (.same x) (FzL.refl r)
def Ren.frz (ρ : Ren) (k : Nat) (row : Array Value) : Ren := ⟨ρ.nm, fun j => if j = k then some row else ρ.fz j⟩
theorem Ren.le_frz {ρ : Ren} {k : Nat} {row : Array Value} (h : ρ.fz k = none) : ρ.le (ρ.frz k row) :=
  ⟨fun _ _ h => h, fun b r hb => by
    unfold Ren.frz
    by_cases e : b = k
    · subst e; rw [h] at hb; cases hb
    · simp [e, hb]⟩
section
variable {ρ : Ren} {H : Hp} {w : World} {id : Nat} {b : Blk} {t : Tgt} {row : Array Value}
mutual
theorem Fz.rel (hl : ρ.le (ρ.frz t.block row)) (ht : ρ.nm id = some t) (hs : t.shift = 0) (hlen : b.cells.length ≤ row.size) (hC : CRel ρ b.cells row 0) : ∀ {d d' : DV} {v : Value}, Fz id b d d' → VRel ρ d v → VRel (ρ.frz t.block row) d' v
  | _, _, v, .same d, h => h.mono hl
  | _, _, v, .bot d, h => .bot v
  | _, _, v, .slc off n u xs h1 hu hle hc, h => by
    cases h with
    | slc _ _ _ c t' ht' hcc hm hr =>
      rw [ht] at ht'; cases ht'
      rw [hs, Nat.zero_add]
      have hfz : (ρ.frz t.block row).fz t.block = some row := by simp [Ren.frz]
      have hcl : (cellsL xs).length = n * u := by rw [cellsL_length hu, h1]
      have hget : ∀ (k : Nat) d, (cellsL xs)[k]? = some d → b.cells[off + k]? = some d := by
        intro k d hd
        rw [hc, List.getElem?_take] at hd
        split at hd
        · rwa [List.getElem?_drop] at hd
        · cases hd
      refine .lst xs n u t.block off c row hfz h1.symm hcc hm hu (by rw [hcl]; omega) (fun d hd => ?_) (fun k d v hd hv => ?_)
      · obtain ⟨k, hk, hkd⟩ := List.getElem_of_mem hd
        exact (hC _ _ (hget k d (by rw [List.getElem?_eq_getElem hk, hkd]))).1
      · obtain ⟨-, v', e1, e2⟩ := hC _ _ (hget k d hd)
        rw [Nat.zero_add, hv] at e1; cases e1
        exact e2.mono hl
  | _, _, v, .ptr off cs hle hc, h => by
    cases h with
    | ptr _ _ t' ht' =>
      rw [ht] at ht'; cases ht'
      rw [hs, Nat.zero_add]
      have hfz : (ρ.frz t.block row).fz t.block = some row := by simp [Ren.frz]
      have hget : ∀ (k : Nat) d, cs[k]? = some d → b.cells[off + k]? = some d := by
        intro k d hd
        rwa [hc, List.getElem?_drop] at hd
      refine .fptr cs t.block off row hfz (by rw [hc, List.length_drop]; omega) (fun d hd => ?_) (fun k d v hd hv => ?_)
      · obtain ⟨k, hk, hkd⟩ := List.getElem_of_mem hd
        exact (hC _ _ (hget k d (by rw [List.getElem?_eq_getElem hk, hkd]))).1
      · obtain ⟨-, v', e1, e2⟩ := hC _ _ (hget k d hd)
        rw [Nat.zero_add, hv] at e1; cases e1
        exact e2.mono hl
  | _, _, v, .agg a a' hf, h => by
    obtain ⟨b', rfl, hA⟩ := h.agg_inv
    exact .mkAgg (FzL.rel hl ht hs hlen hC hf hA)
  | _, _, v, .tup a a' hf, h => by
    obtain ⟨b', rfl, hA⟩ := h.tup_inv
    exact .mkTup (FzL.rel hl ht hs hlen hC hf hA)
  | _, _, v, .func f a a' c c' hf hf', h => by
    obtain ⟨b', d', rfl, hA, hB⟩ := h.func_inv
    have h1 := FzL.rel hl ht hs hlen hC hf hA
    have h2 := FzL.rel hl ht hs hlen hC hf' hB
    exact .func _ _ _ _ _ h1.1 h1.2 h2.1 h2.2
theorem FzL.rel (hl : ρ.le (ρ.frz t.block row)) (ht : ρ.nm id = some t) (hs : t.shift = 0) (hlen : b.cells.length ≤ row.size) (hC : CRel ρ b.cells row 0) : ∀ {ds ds' : List DV} {vs : Array Value}, FzL id b ds ds' → ARel ρ ds vs → ARel (ρ.frz t.block row) ds' vs
  | _, _, vs, .nil, h => ⟨h.1, fun i x y hx => by cases hx⟩
  | _, _, vs, .cons x y a a' hf hf', h => by
    obtain ⟨h1, h2⟩ := h
    have hpos : 0 < vs.size := by rw [← h1]; simp
    have hhd := Fz.rel hl ht hs hlen hC hf (h2 0 x vs[0] rfl (by simp [hpos]))
    have htl : ARel ρ a (vs.toList.tail).toArray := by
      refine ⟨by simp only [List.size_toArray, List.length_tail, Array.length_toList, ← h1, List.length_cons]; omega, fun i u v hu hv => h2 (i + 1) u v (by simpa using hu) (by simpa using hv)⟩
    have htl' := FzL.rel hl ht hs hlen hC hf' htl
    refine ⟨?_, fun i u v hu hv => ?_⟩
    · have := htl'.1
      simp only [List.size_toArray, List.length_tail, Array.length_toList] at this
      simp only [List.length_cons]
      omega
    · cases i with
      | zero =>
        simp only [List.getElem?_cons_zero, Option.some.injEq] at hu
        subst hu
        rw [Array.getElem?_eq_getElem hpos] at hv
        cases hv
        exact hhd
      | succ i => exact htl'.2 i u v (by simpa using hu) (by simpa using hv)
end
end
def FzH (id : Nat) (b : Blk) (H H' : Hp) : Prop :=
  ∀ j, H' j = none ∨ (j ≠ id ∧ ∃ bj bj', H j = some bj ∧ H' j = some bj' ∧ bj'.unit = bj.unit ∧ bj'.own = bj.own ∧ FzL id b bj.cells bj'.cells ∧ ∀ d ∈ bj'.cells, d.one = true)
theorem GL.frz {H H' : Hp} {ds ds' : List DV} {id : Nat} {b : Blk} (hb : H id = some b) (ho : b.own = true) (hH : FzH id b H H') (hd : FzL id b ds ds') : GL H ds H' ds' := by
  refine ⟨fun j hj => ?_, fun ρ w vs hR hA => ?_⟩
  · rcases hH j with h0 | ⟨-, bj, bj', h1, -⟩
    · exact absurd h0 hj
    · rw [h1]; simp
  · obtain ⟨t, ht, hB⟩ := hR.blk id b hb
    obtain ⟨c, e, fr, g1, g2, g3, g4, g5, g6⟩ := hB
    obtain ⟨rfl, g7⟩ := g6 ho
    rw [g7] at g2 g5
    rw [Nat.zero_add] at g2
    have hnone := hR.dis id b t hb ho ht
    have hl : ρ.le (ρ.frz t.block c) := Ren.le_frz hnone
    have hlen : b.cells.length ≤ c.size := by omega
    refine ⟨ρ.frz t.block c, rfl, ⟨?_, ?_, ?_, ?_⟩, FzL.rel hl ht g7 hlen g5 hd hA, ?_⟩
    · intro j bj' hj
      rcases hH j with h0 | ⟨hne, bj, bj2, h1, h2, h3, h4, h5, h6⟩
      · rw [h0] at hj; cases hj
      · rw [h2] at hj; cases hj
        obtain ⟨tj, q1, cj, ej, frj, r1, r2, r3, r4, r5, r6⟩ := hR.blk j bj h1
        have hA0 : ARel ρ bj.cells ((cj.toList.drop tj.shift).take bj.cells.length).toArray := by
          have hs := r5.seg (off := 0) (n := bj.cells.length) (by omega) (by omega)
          simpa using hs
        have hA1 := FzL.rel hl ht g7 hlen g5 h5 hA0
        have hlen2 : bj'.cells.length = bj.cells.length := by rw [hA1.1, ← hA0.1]
        refine ⟨tj, q1, cj, ej, frj, r1, r2, by omega, r4.trans h3.symm, fun i v hv => ⟨h6 v (List.mem_of_getElem? hv), ?_⟩, fun ho' => r6 (h4 ▸ ho')⟩
        obtain ⟨y, y1, y2⟩ := hA1.get hv
        refine ⟨y, ?_, y2⟩
        simp only [List.getElem?_toArray, List.getElem?_take, List.getElem?_drop] at y1
        split at y1
        · simpa using y1
        · cases y1
    · intro i j bi bj ti tj hi hj hij h1 h2 ho'
      rcases hH i with h0 | ⟨-, b1, b1', e1, e2, -, e4, -⟩
      · rw [h0] at hi; cases hi
      rcases hH j with h0 | ⟨-, b2, b2', f1, f2, -⟩
      · rw [h0] at hj; cases hj
      rw [e2] at hi; cases hi
      exact hR.sep i j b1 b2 ti tj e1 f1 hij h1 h2 (e4 ▸ ho')
    · intro k r hk
      simp only [Ren.frz] at hk
      split at hk
      · rename_i hkt; cases hk; rw [hkt]; exact ⟨e, _, g1⟩
      · exact hR.frz k r hk
    · intro j bj tj hj ho' hjt
      rcases hH j with h0 | ⟨hne, b1, b1', e1, e2, -, e4, -⟩
      · rw [h0] at hj; cases hj
      rw [e2] at hj; cases hj
      have hjo : b1.own = true := e4 ▸ ho'
      simp only [Ren.frz]
      rw [if_neg (hR.sep j id b1 b tj t e1 hb hne hjt ht hjo)]
      exact hR.dis j b1 tj e1 hjo hjt
    · refine ⟨hl, rfl, rfl, rfl, Nat.le_refl _, fun _ _ _ => rfl, fun j bj tj hj hjt => ?_, fun k r hk => ?_⟩
      · rcases hH j with h0 | ⟨hne, b1, b1', e1, e2, -, e4, -⟩
        · rw [h0] at hj; cases hj
        rw [e2] at hj; cases hj
        exact .inr ⟨j, b1, tj, e1, fun h => e4 ▸ h, hjt, rfl⟩
      · simp only [Ren.frz] at hk
        split at hk
        · rename_i hkt
          exact .inr (.inr ⟨id, b, t, hb, ho, ht, hkt.symm⟩)
        · exact .inl hk
theorem FzH.less {id : Nat} {b : Blk} {H H' : Hp} (h : ∀ j, H' j = none ∨ (j ≠ id ∧ H' j = H j)) (h1 : ∀ j bj, H' j = some bj → ∀ d ∈ bj.cells, d.one = true) : FzH id b H H' := by
  intro j
  rcases h j with h0 | ⟨hne, h0⟩
  · exact .inl h0
  · cases hc : H' j with
    | none => exact .inl rfl
    | some bj => exact .inr ⟨hne, bj, bj, by rw [← h0, hc], rfl, rfl, rfl, FzL.refl _, h1 j bj hc⟩
theorem AC.ghost {f : Nat} {args args' : List DV} {H H' : Hp} {c : Nat} {Q : DV → Hp → Nat → Prop} (g : GL H args H' args') (h : AC P f args' H' c Q) : AC P f args H c Q := by
  refine ⟨h.1, fun ρ w vs hR hf hA => ?_⟩
  obtain ⟨ρ1, e1, r1, a1, x1⟩ := g.2 ρ w vs hR hA
  refine (h.2 ρ1 w vs r1 (by rw [e1]; exact hf) a1).mono ?_
  rintro e w' ⟨v, v', H2, c2, ρ2, rfl, q, d⟩
  exact ⟨v, v', H2, c2, ρ2, rfl, q, d.val, d.rep, d.fresh, d.up, fun id hid hne => g.1 id (d.dom id hid hne), fun id hid => (d.same id hid).trans (by rw [e1]), x1.trans d.ext⟩
theorem AC.post {f : Nat} {args : List DV} {H : Hp} {c : Nat} {Q : DV → Hp → Nat → Prop} (h : AC P f args H c fun v H' c' => ∃ v2 H2, GL H' [v] H2 [v2] ∧ Q v2 H2 c') : AC P f args H c Q := by
  refine ⟨h.1, fun ρ w vs hR hf hA => (h.2 ρ w vs hR hf hA).mono ?_⟩
  rintro e w' ⟨v, v', H1, c1, ρ1, rfl, ⟨v2, H2, g, q⟩, d⟩
  have hA1 : ARel ρ1 [v] #[v'] := ⟨rfl, fun i x y hx hy => by
    cases i with
    | zero => simp at hx hy; subst hx hy; exact d.val
    | succ i => simp at hx⟩
  obtain ⟨ρ2, e2, r2, a2, x2⟩ := g.2 ρ1 w' #[v'] d.rep hA1
  exact ⟨v2, v', H2, c1, ρ2, rfl, q, a2.2 0 v2 v' rfl rfl, r2, by rw [e2]; exact d.fresh, d.up, fun id hid hne => d.dom id hid (g.1 id hne), fun id hid => by rw [e2]; exact d.same id hid, d.ext.trans x2⟩
def tm : List (Nat × DV) → Tm
  | [] => fun _ => .bot
  | (k, v) :: r => (tm r).upd k v
theorem tm_of {ρ : Ren} {a : Act} : ∀ {ks : List Nat} {ds : List DV}, (∀ (i k : Nat) (d : DV), ks[i]? = some k → ds[i]? = some d → VRel ρ d (a.tmps.getD k undef)) → TRel ρ (tm (ks.zip ds)) a
  | [], ds, h => fun t => .bot _
  | k :: ks, [], h => fun t => .bot _
  | k :: ks, d :: ds, h => fun t => by
    simp only [List.zip_cons_cons, tm, Tm.upd]
    by_cases e : t = k
    · subst e; rw [if_pos rfl]; exact h 0 _ _ rfl rfl
    · rw [if_neg e]; exact tm_of (fun i k d hk hd => h (i + 1) k d hk hd) t
theorem IW.keep {N : Nat} {ic : IC} {T : Tm} {H H' : Hp} {c : Nat} {Q : Exit → St → Prop} (ks : List Nat) (ds' : List DV) (g : GL H (ks.map T) H' ds') (h : IW P N ic ⟨tm (ks.zip ds'), H', c⟩ Q) : IW P N ic ⟨T, H, c⟩ Q := by
  intro hm cd hc ρ a w hS
  have hA : ARel ρ (ks.map T) ((ks.map fun k => a.tmps.getD k undef)).toArray := by
    refine ⟨by simp, fun i x y hx hy => ?_⟩
    simp only [List.getElem?_map, Option.map_eq_some_iff, List.getElem?_toArray] at hx hy
    obtain ⟨k, hk, rfl⟩ := hx
    obtain ⟨k', hk', rfl⟩ := hy
    rw [hk] at hk'; cases hk'
    exact hS.tm k
  obtain ⟨ρ1, e1, r1, a1, x1⟩ := g.2 ρ w _ hS.rep hA
  have hS1 : Sim N ρ1 ⟨tm (ks.zip ds'), H', c⟩ a w := by
    refine ⟨tm_of fun i k d hk hd => a1.2 i d _ hd (by simp [hk]), r1, by rw [e1]; exact hS.fresh, hS.size, hS.dfr⟩
  refine wp_mono (h hm cd hc ρ1 a w hS1) fun e a' w' hq => ?_
  obtain ⟨ρ2, s2, q, hS2, hst⟩ := hq
  exact ⟨ρ2, s2, q, hS2, ⟨hst.up, fun id hid hne => g.1 id (hst.dom id hid hne), fun id hid => (hst.same id hid).trans (by rw [e1]), x1.trans hst.ext⟩⟩
theorem IW.slots {N : Nat} {ic : IC} {T : Tm} {H : Hp} {c : Nat} {Q : Exit → St → Prop} (ks : List Nat) (h : IW P N ic ⟨tm (ks.zip (ks.map T)), H, c⟩ Q) : IW P N ic ⟨T, H, c⟩ Q :=
  IW.keep ks _ (GL.refl _ _) h
def nil : Hp := fun _ => none
theorem Rep.nil {ρ : Ren} {H : Hp} {w : World} (hR : Rep ρ H w) : Rep ⟨fun _ => none, ρ.fz⟩ nil w :=
  ⟨fun id b h => (by cases h), fun i j bi bj ti tj h => (by cases h), hR.frz, fun id b t h => (by cases h)⟩
theorem AC.lift {f : Nat} {args : List DV} {Q : DV → Prop} (h : AC P f args nil 0 (fun v _ _ => Q v)) (hn : DV.nlL args = true) (hq : ∀ v, Q v → v.nl = true) (H : Hp) (c : Nat) : AC P f args H c (fun v H' c' => Q v ∧ H' = H ∧ c' = c) := by
  refine ⟨h.1, fun ρ w vs hR hf hA => ?_⟩
  refine (h.2 ⟨fun _ => none, ρ.fz⟩ w vs hR.nil (fun _ _ => rfl) (hA.nl (ρ := ρ) (ρ' := ⟨fun _ => none, ρ.fz⟩) (fun _ _ h => h) hn)).mono ?_
  rintro e w' ⟨v, v', H1, c1, ρ1, rfl, q, d⟩
  have hb := d.ext.below (fun id b hb => by cases hb)
  obtain ⟨b1, b2, b3, b4, b5⟩ := hb
  refine ⟨v, v', H, c, ⟨ρ.nm, ρ1.fz⟩, rfl, ⟨q, rfl, rfl⟩, d.val.nl (ρ := ρ1) (ρ' := ⟨ρ.nm, ρ1.fz⟩) (fun _ _ h => h) (hq v q), ?_, hf, Nat.le_refl _, fun _ _ h => h, fun _ _ => rfl, ?_⟩
  · have hle : ρ.le ⟨ρ.nm, ρ1.fz⟩ := ⟨fun _ _ h => h, d.ext.le.fz⟩
    refine ⟨fun id b hb => ?_, hR.sep, d.rep.frz, fun id b t hb ho ht => ?_⟩
    · obtain ⟨t, ht, hbr⟩ := hR.blk id b hb
      exact ⟨t, ht, (hbr.mono hle).world (b5 _ hbr.lt)⟩
    · cases hf1 : ρ1.fz t.block with
      | none => rfl
      | some r =>
        rcases d.ext.fzn _ _ hf1 with h1 | h1 | ⟨i, b0, t0, e1, -⟩
        · rw [hR.dis id b t hb ho ht] at h1; cases h1
        · have := (hR.look hb ht).lt; omega
        · cases e1
  · refine ⟨⟨fun _ _ h => h, d.ext.le.fz⟩, b1, b2, b3, b4, fun k hk _ => b5 k hk, fun id b t h1 h2 => .inr ⟨id, b, t, h1, fun h => h, h2, rfl⟩, fun k r hk => ?_⟩
    rcases d.ext.fzn k r hk with h1 | h1 | ⟨i, b0, t0, e1, -⟩
    · exact .inl h1
    · exact .inr (.inl h1)
    · cases e1
def DV.flat : DV → Bool
  | .tup vs => vs.all DV.scal
  | .agg vs => vs.all DV.scal
  | d => d.scal
theorem VRel.flat {ρ ρ' : Ren} {d : DV} {v : Value} (h : VRel ρ d v) (hs : d.flat = true) : VRel ρ' d v := by
  have key : ∀ {a : List DV} {b : Array Value}, a.all DV.scal = true → ARel ρ a b → ARel ρ' a b := by
    intro a b ha hA
    rw [List.all_eq_true] at ha
    exact ⟨hA.1, fun i x y hx hy => (hA.2 i x y hx hy).scal (ha x (List.mem_of_getElem? hx))⟩
  unfold DV.flat at hs
  split at hs
  · obtain ⟨b, rfl, hA⟩ := h.tup_inv; exact .mkTup (key hs hA)
  · obtain ⟨b, rfl, hA⟩ := h.agg_inv; exact .mkAgg (key hs hA)
  · exact h.scal hs
theorem AC.lend {f : Nat} {args args' : List DV} {Q : DV → Prop} {H H0 : Hp} {c : Nat} (g : GL H args H0 args') (h : AC P f args' nil 0 (fun v _ _ => Q v)) (hn : DV.nlL args' = true) (hq : ∀ v, Q v → v.flat = true) :
    AC P f args H c (fun v H' c' => Q v ∧ H' = H ∧ c' = c) := by
  refine ⟨h.1, fun ρ w vs hR hf hA => ?_⟩
  obtain ⟨ρ0, e0, r0, a0, x0⟩ := g.2 ρ w vs hR hA
  refine (h.2 ⟨fun _ => none, ρ0.fz⟩ w vs r0.nil (fun _ _ => rfl) (a0.nl (ρ := ρ0) (ρ' := ⟨fun _ => none, ρ0.fz⟩) (fun _ _ h => h) hn)).mono ?_
  rintro e w' ⟨v, v', H1, c1, ρ1, rfl, q, d⟩
  have hb := d.ext.below (fun id b hb => by cases hb)
  obtain ⟨b1, b2, b3, b4, b5⟩ := hb
  refine ⟨v, v', H, c, ρ, rfl, ⟨q, rfl, rfl⟩, d.val.flat (hq v q), ⟨fun id b hb => ?_, hR.sep, fun b r hb => ?_, hR.dis⟩, hf, Nat.le_refl _, fun _ _ h => h, fun _ _ => rfl, ?_⟩
  · obtain ⟨t, ht, hbr⟩ := hR.blk id b hb
    exact ⟨t, ht, hbr.world (b5 _ hbr.lt)⟩
  · obtain ⟨e, fr, h1⟩ := hR.frz b r hb
    exact ⟨e, fr, by rw [b5 b (hR.flt hb)]; exact h1⟩
  · exact ⟨Ren.le_refl _, b1, b2, b3, b4, fun k hk _ => b5 k hk, fun id b t h1 h2 => .inr ⟨id, b, t, h1, fun h => h, h2, rfl⟩, fun k r hk => .inl hk⟩
structure PC (P : Program) (f : Nat) (args : List DV) (r : DV) : Prop where
  na : DV.nlL args = true
  nr : r.nl = true
  ac : AC P f args nil 0 (fun v _ _ => v = r)
theorem PC.at {f : Nat} {args : List DV} {r : DV} (h : PC P f args r) (H : Hp) (c : Nat) : AC P f args H c (fun v H' c' => v = r ∧ H' = H ∧ c' = c) :=
  h.ac.lift h.na (fun v e => by rw [e]; exact h.nr) H c
theorem PC.of (hm : P.follows .mixedOrders = true) {f : Nat} {i : IFn} (hf : IsFn P f i) {args : List DV} (hn : args.length ≤ i.n) {r : DV} (na : DV.nlL args = true) (nr : r.nl = true)
    (h : IW P i.n i.body ⟨argT args, nil, 0⟩ (retQ i.res fun v H' _ => ∃ H2, GL H' [v] H2 [r])) : PC P f args r :=
  ⟨na, nr, AC.post (AC.of hm hf hn (h.mono fun e s' q => by
    cases e <;> simp only [retQ] at q ⊢ <;> (try exact q)
    all_goals
      split at q
      · obtain ⟨H2, g⟩ := q; exact ⟨r, H2, g, rfl⟩
      · exact q.elim))⟩
theorem AC.body (hm : P.follows .mixedOrders = true) {f : Nat} {i : IFn} (hf : IsFn P f i) {args : List DV} (hn : args.length ≤ i.n) {H : Hp} {c : Nat} {Q : DV → Hp → Nat → Prop}
    (h : (∀ id, c ≤ id → H id = none) → IW P i.n i.body ⟨argT args, H, c⟩ (retQ i.res fun v H' c' => ∃ v2 H2, GL H' [v] H2 [v2] ∧ Q v2 H2 c')) : AC P f args H c Q :=
  AC.post (AC.of hm hf hn (IW.fresh h))
end Go.Sym
set_option linter.unusedVariables false
set_option linter.unusedSimpArgs false
namespace Go.Sym
open Go.Eng (Tgt Opd FOp AOp EOp IOp IOper DReg IC RV IFn trC trFn IsFn Callable)
variable {P : Program} {N : Nat} {Q : Exit → St → Prop} {R : St → Prop} {s : St} {x y : IC} {os : List IOper} {T : Tm} {H : Hp} {c : Nat} {dst : Option Nat} {v : DV}
def nx (P : Program) (N : Nat) (y : IC) (Q : Exit → St → Prop) : St → Prop := fun s => IW P N y s Q
def sq (P : Program) (N : Nat) (y : IC) (Q : Exit → St → Prop) : Exit → St → Prop := thenS (nx P N y Q) Q
def bk (id : Nat) (Q : Exit → St → Prop) : Exit → St → Prop := blkS id Q
def no (Q : Exit → St → Prop) : St → Prop := Q .normal
def rt (rs : List RV) (Q : DV → Hp → Nat → Prop) : Exit → St → Prop := retQ rs Q
def purK (P : Program) (R : St → Prop) (os : List IOper) (T : Tm) (H : Hp) (c : Nat) (dst : Option Nat) : Option DV → Prop
  | some v => rwp P R os ⟨updO T dst v, H, c⟩
  | none => False
def newK (P : Program) (R : St → Prop) (os : List IOper) (T : Tm) (H : Hp) (c : Nat) (dst : Option Nat) : Option (Option Nat × Blk) → Prop
  | some (k, b) => rwp P R os ⟨updO T dst (mkv c k), H.upd c b, c + 1⟩
  | none => False
def effK (P : Program) (R : St → Prop) (os : List IOper) (T : Tm) (dst : Option Nat) : Option (DV × Hp × Nat) → Prop
  | some (v, H', c') => rwp P R os ⟨updO T dst v, H', c'⟩
  | none => False
def calK (P : Program) (R : St → Prop) (os : List IOper) (T : Tm) (dst : Option Nat) (v : DV) (H : Hp) (c : Nat) : Prop := rwp P R os ⟨updO T dst v, H, c⟩
def clvK (P : Program) (R : St → Prop) (os : List IOper) (T : Tm) (H : Hp) (c : Nat) (dst : Option Nat) (args : List DV) : DV → Prop
  | .func f a cs => AC P f (a ++ args ++ cs) H c (calK P R os T dst)
  | _ => False
def grdK (P : Program) (R : St → Prop) (dst : Option Nat) (op : IOp) (os : List IOper) (T : Tm) (H : Hp) (c : Nat) : Option Bool → Prop
  | some true => rwp P R (⟨dst, op, none⟩ :: os) ⟨T, H, c⟩
  | some false => rwp P R os ⟨updO T dst (.tup []), H, c⟩
  | none => False
def cndK (P : Program) (N : Nat) (x y : IC) (s : St) (Q : Exit → St → Prop) : DV → Prop
  | .bool b => (b = true → IW P N x s Q) ∧ (b = false → IW P N y s Q)
  | _ => False
theorem i_seq (h : IW P N x s (sq P N y Q)) : IW P N (.seq x y) s Q := by
  intro hm c hc
  cases c <;> simp only [trC] at hc <;> (try (cases hc; done))
  case seq a b =>
    split at hc
    · rename_i x' y' hx hy
      cases hc
      refine .seq ((h hm a hx).mono fun e s' q => ?_)
      cases e with
      | normal => exact q hm b hy
      | _ => exact q
    · cases hc
  all_goals (repeat' (split at hc)) <;> (try (cases hc; done))
  all_goals simp at hc
theorem i_sreg (h : rwp P (nx P N y Q) os s) : IW P N (.seq (.reg os) y) s Q := IW.of h
theorem i_sdrw {n : Nat} {d : DReg} (h : dwp P (nx P N y Q) d.ops s.c d.plan ⟨s.T, s.H, s.c + n⟩) : IW P N (.seq (.drw n d) y) s Q := IW.of h
theorem i_reg (h : rwp P (no Q) os s) : IW P N (.reg os) s Q := IW.of h
theorem i_drw {n : Nat} {d : DReg} (h : dwp P (no Q) d.ops s.c d.plan ⟨s.T, s.H, s.c + n⟩) : IW P N (.drw n d) s Q := IW.of h
theorem i_cond {o : Opd} (h : cndK P N x y s Q (ev s.T o)) : IW P N (.cond o x y) s Q := by
  refine IW.of ?_
  simp only [wpI]
  cases hv : ev s.T o <;> rw [hv] at h <;> first | exact h | exact h.elim
theorem i_scond {o : Opd} {z : IC} (h : cndK P N x y s (sq P N z Q) (ev s.T o)) : IW P N (.seq (.cond o x y) z) s Q := i_seq (i_cond h)
theorem i_blk {id : Nat} (h : IW P N x s (bk id Q)) : IW P N (.blk id x) s Q := by
  intro hm c hc
  cases c <;> simp only [trC] at hc <;> (try (cases hc; done))
  case block i b =>
    simp only [Option.map_eq_some_iff] at hc
    obtain ⟨x', hx, he⟩ := hc
    cases he
    exact .block (h hm b hx)
  all_goals (repeat' (split at hc)) <;> (try (cases hc; done))
  all_goals simp at hc
theorem i_exit {id : Nat} (h : Q (.exit id) s) : IW P N (.exit id) s Q := IW.of h
theorem i_ret (h : Q .ret s) : IW P N .ret s Q := IW.of h
theorem i_skip (h : Q .normal s) : IW P N .skip s Q := IW.of h
theorem k_nx : nx P N y Q ⟨T, H, c⟩ = IW P N y ⟨T, H, c⟩ Q := propext Iff.rfl
theorem k_no : no Q s = Q .normal s := propext Iff.rfl
theorem k_sn : sq P N y Q .normal ⟨T, H, c⟩ = IW P N y ⟨T, H, c⟩ Q := propext Iff.rfl
theorem k_sr : sq P N y Q .ret s = Q .ret s := propext Iff.rfl
theorem k_se {i : Nat} : sq P N y Q (.exit i) s = Q (.exit i) s := propext Iff.rfl
theorem k_bn {i : Nat} : bk i Q .normal s = Q .normal s := propext Iff.rfl
theorem k_br {i : Nat} : bk i Q .ret s = Q .ret s := propext Iff.rfl
theorem k_be {i : Nat} : bk i Q (.exit i) s = Q .normal s := if_pos rfl
theorem k_bo {i j : Nat} (h : ¬ j = i) : bk i Q (.exit j) s = Q (.exit j) s := if_neg h
theorem k_r1 {t : Nat} {q : DV → Hp → Nat → Prop} : rt [.tmp t] q .ret ⟨T, H, c⟩ = q (T t) H c := propext Iff.rfl
theorem k_r2 {t u : Nat} {q : DV → Hp → Nat → Prop} : rt [.tmp t, .tmp u] q .ret ⟨T, H, c⟩ = q (.tup [T t, T u]) H c := propext Iff.rfl
theorem k_n0 {q : DV → Hp → Nat → Prop} : rt [] q .normal ⟨T, H, c⟩ = q (.tup []) H c := propext Iff.rfl
theorem k_rv {rs : List RV} {q : DV → Hp → Nat → Prop} {v : DV} (h : resV s rs = some v) : rt rs q .ret s = q v s.H s.c := by simp only [rt, retQ, h]
theorem k_nil : rwp P R [] s = R s := propext Iff.rfl
theorem k_pur {f : FOp} : rwp P R (⟨dst, .pur f, none⟩ :: os) ⟨T, H, c⟩ = purK P R os T H c dst (fev H (ev T) f) := by
  simp only [rwp, wantG, oneP, purK]
  cases fev H (ev T) f <;> rfl
theorem k_new {f : AOp} : rwp P R (⟨dst, .new f, none⟩ :: os) ⟨T, H, c⟩ = newK P R os T H c dst (aev (ev T) f) := by
  simp only [rwp, wantG, oneP, newK]
  cases aev (ev T) f <;> rfl
theorem k_eff {f : EOp} : rwp P R (⟨dst, .eff f, none⟩ :: os) ⟨T, H, c⟩ = effK P R os T dst (eev H c (ev T) f) := by
  simp only [rwp, wantG, oneP, effK]
  cases eev H c (ev T) f <;> rfl
theorem k_call {f : Nat} {asx : List Opd} : rwp P R (⟨dst, .call f asx, none⟩ :: os) ⟨T, H, c⟩ = AC P f (asx.map (ev T)) H c (calK P R os T dst) := propext Iff.rfl
theorem k_clv {o : Opd} {asx : List Opd} : rwp P R (⟨dst, .callv o asx, none⟩ :: os) ⟨T, H, c⟩ = clvK P R os T H c dst (asx.map (ev T)) (ev T o) := by
  simp only [rwp, wantG, oneP]
  unfold clvK
  cases ev T o <;> rfl
theorem k_clf {f : Nat} {a cs args : List DV} : clvK P R os T H c dst args (.func f a cs) = AC P f (a ++ args ++ cs) H c (calK P R os T dst) := propext Iff.rfl
theorem k_some : purK P R os T H c dst (some v) = rwp P R os ⟨updO T dst v, H, c⟩ := propext Iff.rfl
theorem k_nsome {k : Option Nat} {b : Blk} : newK P R os T H c dst (some (k, b)) = rwp P R os ⟨updO T dst (mkv c k), H.upd c b, c + 1⟩ := propext Iff.rfl
theorem k_esome {H' : Hp} {c' : Nat} : effK P R os T dst (some (v, H', c')) = rwp P R os ⟨updO T dst v, H', c'⟩ := propext Iff.rfl
theorem k_ap {H' : Hp} {c' : Nat} : calK P R os T dst v H' c' = rwp P R os ⟨updO T dst v, H', c'⟩ := propext Iff.rfl
theorem k_grd {op : IOp} {t : Nat} {b : Bool} : rwp P R (⟨dst, op, some (t, b)⟩ :: os) ⟨T, H, c⟩ = grdK P R dst op os T H c (wantV (T t) b) := by
  simp only [rwp, wantG, grdK]
  cases wantV (T t) b with
  | none => rfl
  | some b => cases b <;> rfl
theorem k_gt {op : IOp} : grdK P R dst op os T H c (some true) = rwp P R (⟨dst, op, none⟩ :: os) ⟨T, H, c⟩ := propext Iff.rfl
theorem k_gf {op : IOp} : grdK P R dst op os T H c (some false) = rwp P R os ⟨updO T dst (.tup []), H, c⟩ := propext Iff.rfl
theorem k_want {b d : Bool} : wantV (.bool b) d = some (b == d) := id rfl
theorem k_wu {d : Bool} : wantV (.tup []) d = some false := id rfl
theorem k_ct : cndK P N x y s Q (.bool true) = IW P N x s Q := by
  apply propext
  constructor
  · intro h; exact h.1 rfl
  · intro h; exact ⟨fun _ => h, fun e => (by cases e)⟩
theorem k_cf : cndK P N x y s Q (.bool false) = IW P N y s Q := by
  apply propext
  constructor
  · intro h; exact h.2 rfl
  · intro h; exact ⟨fun e => (by cases e), fun _ => h⟩
theorem k_cb {b : Bool} (h1 : b = true → IW P N x s Q) (h2 : b = false → IW P N y s Q) : cndK P N x y s Q (.bool b) := ⟨h1, h2⟩
theorem k_gb {op : IOp} {b d : Bool} (h1 : b = true → grdK P R dst op os T H c (some (true == d))) (h2 : b = false → grdK P R dst op os T H c (some (false == d))) : grdK P R dst op os T H c (some (b == d)) := by
  cases b
  · exact h2 rfl
  · exact h1 rfl
theorem k_gb' {op : IOp} {b : Bool} (h1 : b = true → grdK P R dst op os T H c (some true)) (h2 : b = false → grdK P R dst op os T H c (some false)) : grdK P R dst op os T H c (some b) := by
  cases b
  · exact h2 rfl
  · exact h1 rfl
theorem k_val {o : Option DV} (h : o = some v) (k : rwp P R os ⟨updO T dst v, H, c⟩) : purK P R os T H c dst o := by rw [h]; exact k
theorem k_eval {o : Option (DV × Hp × Nat)} {H' : Hp} {c' : Nat} (h : o = some (v, H', c')) (k : rwp P R os ⟨updO T dst v, H', c'⟩) : effK P R os T dst o := by rw [h]; exact k
theorem k_nval {o : Option (Option Nat × Blk)} {k : Option Nat} {b : Blk} (h : o = some (k, b)) (k' : rwp P R os ⟨updO T dst (mkv c k), H.upd c b, c + 1⟩) : newK P R os T H c dst o := by rw [h]; exact k'
theorem u_some {d : Nat} : updO T (some d) v = T.upd d v := id rfl
theorem u_none : updO T none v = T := id rfl
theorem u_same {d : Nat} : T.upd d v d = v := by simp [Tm.upd]
theorem u_ne {d j : Nat} (h : ¬ j = d) : T.upd d v j = T j := by simp [Tm.upd, h]
theorem t_same {k : Nat} {r : List (Nat × DV)} : tm ((k, v) :: r) k = v := by simp [tm, Tm.upd]
theorem t_ne {k j : Nat} {r : List (Nat × DV)} (h : ¬ j = k) : tm ((k, v) :: r) j = tm r j := by simp [tm, Tm.upd, h]
theorem h_same {id : Nat} {b : Blk} : (H.upd id b) id = some b := by simp [Hp.upd]
theorem h_ne {id j : Nat} {b : Blk} (h : ¬ j = id) : (H.upd id b) j = H j := by simp [Hp.upd, h]
theorem h_dsame {id : Nat} : (H.del id) id = none := by simp [Hp.del]
theorem h_dne {id j : Nat} (h : ¬ j = id) : (H.del id) j = H j := by simp [Hp.del, h]
theorem h_nil {j : Nat} : nil j = none := id rfl
theorem h_upd2 {id : Nat} {b b' : Blk} : (H.upd id b).upd id b' = H.upd id b' := by
  funext j; simp only [Hp.upd]; split <;> rfl
theorem e_t {n : Nat} : ev T (.t n) = T n := id rfl
theorem e_k {v : Value} : ev T (.k v) = inj v := id rfl
theorem e_f {n : Nat} : ev T (.f n) = .func n [] [] := id rfl
theorem a_0 {r : List DV} : argT (v :: r) 0 = v := id rfl
theorem a_1 {a b : DV} {r : List DV} : argT (a :: b :: r) 1 = b := id rfl
theorem a_2 {a b d : DV} {r : List DV} : argT (a :: b :: d :: r) 2 = d := id rfl
theorem a_3 {a b d e : DV} {r : List DV} : argT (a :: b :: d :: e :: r) 3 = e := id rfl
theorem j_bool {b : Bool} : inj (.bool b) = .bool b := id rfl
theorem j_int {k : IntKind} {n : Int} : inj (.int k n) = .int k n := id rfl
theorem j_str {a : Array UInt8} : inj (.string ⟨a⟩) = .str a.toList := id rfl
theorem j_snil : inj (.slice none 0 0) = .snil := id rfl
theorem j_agg {a : List Value} : inj (.agg ⟨a⟩) = .agg (a.map injS) := id rfl
theorem j_sbool {b : Bool} : injS (.bool b) = .bool b := id rfl
theorem j_sint {k : IntKind} {n : Int} : injS (.int k n) = .int k n := id rfl
theorem j_sstr {a : Array UInt8} : injS (.string ⟨a⟩) = .str a.toList := id rfl
theorem j_ssnil : injS (.slice none 0 0) = .snil := id rfl
section
variable {e : Opd → DV} {a b o : Opd} {n off sz : Nat}
theorem f_mv : fev H e (.mv o) = some (e o) := id rfl
theorem f_pick : fev H e (.pick o a b) = pickR (e o) (e a) (e b) := id rfl
theorem f_ld {g : Bool} : fev H e (.ld n g o) = ldv H n g (e o) := id rfl
theorem f_fad : fev H e (.fad off o) = fadR off (e o) := id rfl
theorem f_iad : fev H e (.iad sz a b) = iadR sz (e a) (e b) := id rfl
theorem f_iada : fev H e (.iada n sz a b) = iadaR n sz (e a) (e b) := id rfl
theorem f_idx : fev H e (.idx a b) = idxR (e a) (e b) := id rfl
theorem f_ext : fev H e (.ext o n) = extR n (e o) := id rfl
theorem f_nck : fev H e (.nck o) = nckR (e o) := id rfl
theorem f_bin {op : BinOp} : fev H e (.bin op a b) = binR op (e a) (e b) := id rfl
theorem f_eqb {g : Bool} : fev H e (.eqb g a b) = eqbR g (e a) (e b) := id rfl
theorem f_eqa {g : Bool} {ks : List Nat} : fev H e (.eqa g ks a b) = eqaR g ks (e a) (e b) := id rfl
theorem f_un {op : UnOp} : fev H e (.un op a) = unR op (e a) := id rfl
theorem f_cvi {k : IntKind} : fev H e (.cvi k a) = cviR k (e a) := id rfl
theorem f_cvbs : fev H e (.cvbs a) = cvbsR H (e a) := id rfl
theorem f_slc {lo hi : Option Opd} : fev H e (.slc sz a lo hi) = slcR H sz (e a) (lo.map e) (hi.map e) := id rfl
theorem f_sls {lo hi : Option Opd} : fev H e (.sls a lo hi) = slsX (e a) (lo.map e) (hi.map e) := id rfl
theorem f_mkf {f : Nat} {p q : List Opd} : fev H e (.mkf f p q) = some (.func f (p.map e) (q.map e)) := id rfl
theorem f_bld {z : Array Value} {pl : List (Nat × Nat)} {ps : List (Nat × Opd)} : fev H e (.bld z pl ps) = bldR (z.toList.map injS) pl (ps.map fun p => (p.1, e p.2)) := id rfl
theorem f_len : fev H e (.len a) = lenR (e a) := id rfl
theorem f_lens : fev H e (.lens a) = lensR (e a) := id rfl
theorem f_mn : fev H e (.mn a b) = mnR (e a) (e b) := id rfl
theorem g_box : aev e (.box a) = boxR (e a) := id rfl
theorem g_bsl {z : Array Value} {ps : List (Nat × Opd)} : aev e (.bsl sz n z ps) = bslR sz n (z.toList.map injS) (ps.map fun p => (p.1, e p.2)) := id rfl
theorem g_msl {z : Array Value} {bytes : Nat} : aev e (.msl sz bytes z a b) = mslR sz bytes (z.toList.map injS) (e a) (e b) := id rfl
theorem g_st : eev H c e (.st n a b) = stR H c n (e a) (e b) := id rfl
theorem g_app {bytes : Nat} : eev H c e (.app sz bytes a b) = apX H c sz bytes (e a) (srcOf H sz (e b)) := id rfl
theorem g_apps : eev H c e (.apps a b) = apsX H c (e a) (e b) := id rfl
end
def ldB (n : Nat) (agg : Bool) (off : Nat) : Option Blk → Option DV
  | some b => match agg with
    | true => match Nat.ble (off + n) b.cells.length with
      | true => some (.agg ((b.cells.drop off).take n))
      | false => none
    | false => b.cells[off]?
  | none => none
def iadO (sz : Nat) : Option DV → Option DV
  | some y => if y.cells.length = sz then some (.fptr y.cells) else none
  | none => none
def chO : Option UInt8 → Option DV
  | some d => some (.int .u8 d.toNat)
  | none => none
def stB (H : Hp) (c id n off : Nat) (v : DV) : Option Blk → Option (DV × Hp × Nat)
  | some b =>
    if b.own = true ∧ v.cells.length = n ∧ off + n ≤ b.cells.length ∧ v.cells.all DV.one = true then
      some (.tup [], H.upd id ⟨b.unit, true, b.cells.take off ++ v.cells ++ b.cells.drop (off + n)⟩, c)
    else none
  | none => none
def srB (sz o m : Nat) : Option Blk → Option (Nat × List DV)
  | some b => match Nat.ble (o + m * sz) b.cells.length with
    | true => some (m, (b.cells.drop o).take (m * sz))
    | false => none
  | none => none
def apB (H : Hp) (c id sz bytes n m : Nat) (src : List DV) : Option Blk → Option (DV × Hp × Nat)
  | some b =>
    if b.own = true ∧ b.unit = sz ∧ n * sz ≤ b.cells.length ∧ (n + m) * bytes ≤ 140737488355328 ∧ n + m ≤ maxLen then
      some (.slc c 0 (n + m), (H.del id).upd c ⟨sz, true, b.cells.take (n * sz) ++ src⟩, c + 1)
    else none
  | none => none
section
variable {k : IntKind} {m n j : Int} {id off i sz bytes : Nat} {cs xs : List DV} {blk : Blk} {p q b : Bool}
theorem r_pt {a b : DV} : pickR (.bool true) a b = some a := _root_.id rfl
theorem r_pf {a b : DV} : pickR (.bool false) a b = some b := _root_.id rfl
theorem r_ld {g : Bool} : ldv H i g (.ptr id off) = ldB i g off (H id) := by
  simp only [ldv, ldB]
  cases H id <;> rfl
theorem b_ld1 {u : Nat} {o : Bool} : ldB 1 false off (some ⟨u, o, cs⟩) = cs[off]? := _root_.id rfl
theorem b_ldn {u : Nat} {o : Bool} (hl : off + i ≤ cs.length) : ldB i true off (some ⟨u, o, cs⟩) = some (.agg ((cs.drop off).take i)) := by
  have : Nat.ble (off + i) cs.length = true := by rw [Nat.ble_eq]; exact hl
  simp only [ldB, this]
theorem r_fld1 : ldv H 1 false (.fptr cs) = cs[0]? := _root_.id rfl
theorem r_fldn {sz : Nat} (hl : sz ≤ cs.length) : ldv H sz true (.fptr cs) = some (.agg (cs.take sz)) := by
  have : Nat.ble sz cs.length = true := by rw [Nat.ble_eq]; exact hl
  simp only [ldv, this]
theorem r_fadp : fadR off (.ptr id i) = some (.ptr id (i + off)) := _root_.id rfl
theorem r_fadf (hl : off ≤ cs.length) : fadR off (.fptr cs) = some (.fptr (cs.drop off)) := by
  have : Nat.ble off cs.length = true := by rw [Nat.ble_eq]; exact hl
  simp only [fadR, this]
theorem r_iadl : iadR sz (.lst xs) (.int k j) = if 0 ≤ j then iadO sz xs[j.toNat]? else none := by
  by_cases h : 0 ≤ j
  · simp only [iadR, h, true_and, if_true]
    by_cases h2 : j < xs.length
    · simp only [h2, if_true]; unfold iadO; rfl
    · simp only [h2, if_false]
      rw [List.getElem?_eq_none (by omega)]; rfl
  · simp only [iadR, h, false_and, if_false]
theorem r_iadn {l : Nat} : iadR sz (.lst xs) (.int k (l : Int)) = iadO sz xs[l]? := by
  rw [r_iadl, if_pos (Int.natCast_nonneg l), Int.toNat_natCast]
theorem o_iad {y : DV} (h : y.cells.length = sz) : iadO sz (some y) = some (.fptr y.cells) := by simp only [iadO, h, if_true]
theorem r_iads {l : Nat} (h0 : 0 ≤ j) (h1 : j < l) : iadR sz (.slc id off l) (.int k j) = some (.ptr id (off + j.toNat * sz)) := by
  simp only [iadR, h0, h1, and_self, if_true]
theorem r_iada {l : Nat} (h0 : 0 ≤ j) (h1 : j < l) : iadaR l sz (.ptr id off) (.int k j) = some (.ptr id (off + j.toNat * sz)) := by
  simp only [iadaR, h0, h1, and_self, if_true]
theorem r_idx {s : List UInt8} : idxR (.str s) (.int k j) = if 0 ≤ j then chO s[j.toNat]? else none := by
  simp only [idxR]; split <;> rfl
theorem r_idxn {s : List UInt8} {l : Nat} : idxR (.str s) (.int k (l : Int)) = chO s[l]? := by
  rw [r_idx, if_pos (Int.natCast_nonneg l), Int.toNat_natCast]
theorem o_ch {d : UInt8} : chO (some d) = some (.int .u8 d.toNat) := _root_.id rfl
theorem r_ext : extR i (.tup xs) = xs[i]? := _root_.id rfl
theorem r_nckp : nckR (.ptr id off) = some (.ptr id off) := _root_.id rfl
theorem r_eqb : eqbR p (.bool q) (.bool b) = some (.bool (p != (q == b))) := _root_.id rfl
theorem r_neg : unR .neg (.int k n) = some (.int k (k.wrap (0 - n))) := _root_.id rfl
theorem r_not : unR .not (.bool p) = some (.bool (!p)) := _root_.id rfl
theorem r_cvi {k' : IntKind} : cviR k (.int k' n) = some (.int k (k.wrap n)) := _root_.id rfl
theorem r_lenn : lenR .snil = some (.int .i64 0) := _root_.id rfl
theorem r_lens {l : Nat} : lenR (.slc id off l) = some (.int .i64 l) := _root_.id rfl
theorem r_lenl : lenR (.lst xs) = some (.int .i64 xs.length) := _root_.id rfl
theorem r_slen {s : List UInt8} : lensR (.str s) = some (.int .i64 s.length) := _root_.id rfl
theorem r_mn {k' : IntKind} : mnR (.int k m) (.int k' n) = some (.int k (if n < m then n else m)) := _root_.id rfl
theorem r_slsx {s : List UInt8} {lo hi : Option DV} : slsX (.str s) lo hi = slsR s lo hi := _root_.id rfl
theorem r_sls {s : List UInt8} {lo hi : Option DV} {l h : Nat} (h1 : boundOf s.length hi = some h) (h2 : boundOf 0 lo = some l) (h3 : h ≤ s.length) (h4 : l ≤ h) : slsR s lo hi = some (.str ((s.drop l).take (h - l))) := by
  simp only [slsR, h1, h2, h3, h4, and_self, if_true]
theorem r_eql : binR .eql (.int k m) (.int k n) = some (.bool (m == n)) := by cases k <;> rfl
theorem r_neq : binR .neq (.int k m) (.int k n) = some (.bool (m != n)) := by cases k <;> rfl
theorem r_lss : binR .lss (.int k m) (.int k n) = some (.bool (decide (m < n))) := by cases k <;> rfl
theorem r_leq : binR .leq (.int k m) (.int k n) = some (.bool (decide (m ≤ n))) := by cases k <;> rfl
theorem r_gtr : binR .gtr (.int k m) (.int k n) = some (.bool (decide (m > n))) := by cases k <;> rfl
theorem r_geq : binR .geq (.int k m) (.int k n) = some (.bool (decide (m ≥ n))) := by cases k <;> rfl
theorem r_add : binR .add (.int k m) (.int k n) = some (.int k (k.wrap (m + n))) := by cases k <;> rfl
theorem r_sub : binR .sub (.int k m) (.int k n) = some (.int k (k.wrap (m - n))) := by cases k <;> rfl
theorem r_mul : binR .mul (.int k m) (.int k n) = some (.int k (k.wrap (m * n))) := by cases k <;> rfl
theorem r_quo (h : ¬ n = 0) : binR .quo (.int k m) (.int k n) = some (.int k (k.wrap (m.tdiv n))) := by cases k <;> exact if_neg h
theorem r_rem (h : ¬ n = 0) : binR .rem (.int k m) (.int k n) = some (.int k (m.tmod n)) := by cases k <;> exact if_neg h
theorem r_and : binR .and (.int k m) (.int k n) = some (.int k (bits .and k m n)) := by cases k <;> rfl
theorem r_or : binR .or (.int k m) (.int k n) = some (.int k (bits .or k m n)) := by cases k <;> rfl
theorem r_shl {k' : IntKind} (h : ¬ n < 0) : binR .shl (.int k m) (.int k' n) = some (.int k (k.wrap (m * 2 ^ (min n.toNat k.bits)))) := if_neg h
theorem r_sadd {s t : List UInt8} (h : s.length + t.length ≤ maxLen) : binR .add (.str s) (.str t) = some (.str (s ++ t)) := if_pos h
theorem r_seql {s t : List UInt8} : binR .eql (.str s) (.str t) = some (.bool (s == t)) := _root_.id rfl
theorem r_sneq {s t : List UInt8} : binR .neq (.str s) (.str t) = some (.bool (!(s == t))) := _root_.id rfl
theorem m_p : mkv c none = .ptr c 0 := _root_.id rfl
theorem m_s {l : Nat} : mkv c (some l) = .slc c 0 l := _root_.id rfl
theorem r_box (h : v.cells.all DV.one = true) : boxR v = some (none, ⟨0, true, v.cells⟩) := by simp only [boxR, h]
theorem r_st : stR H c i (.ptr id off) v = stB H c id i off v (H id) := by
  simp only [stR, stB]
  cases H id <;> rfl
theorem b_st {u : Nat} (h1 : v.cells.length = i) (h2 : off + i ≤ cs.length) (h3 : v.cells.all DV.one = true) :
    stB H c id i off v (some ⟨u, true, cs⟩) = some (.tup [], H.upd id ⟨u, true, cs.take off ++ v.cells ++ cs.drop (off + i)⟩, c) := by
  simp only [stB, h1, h2, h3, and_self, if_true]
theorem r_apx {l : Nat} {s : DV} : apX H c sz bytes s (some (l, cs)) = appR H c sz bytes s l cs := _root_.id rfl
theorem r_aps {s : DV} {t : List UInt8} : apsX H c s (.str t) = appR H c 1 1 s t.length (bytesV t) := _root_.id rfl
theorem r_srcl (h : unit sz xs = true) : srcOf H sz (.lst xs) = some (xs.length, cellsL xs) := by simp only [srcOf, h]
theorem r_srcs {l : Nat} : srcOf H sz (.slc id off l) = srB sz off l (H id) := by
  simp only [srcOf, srB]
  cases H id <;> rfl
theorem b_src {l u : Nat} {o : Bool} (h1 : off + l * sz ≤ cs.length) : srB sz off l (some ⟨u, o, cs⟩) = some (l, (cs.drop off).take (l * sz)) := by
  have : Nat.ble (off + l * sz) cs.length = true := by rw [Nat.ble_eq]; exact h1
  simp only [srB, this]
theorem r_appn {l : Nat} (h : ¬ l = 0) (h1 : l * bytes ≤ 140737488355328) (h2 : l ≤ maxLen) : appR H c sz bytes .snil l cs = some (.slc c 0 l, H.upd c ⟨sz, true, cs⟩, c + 1) := by
  simp only [appR, h, if_false, h1, h2, and_self, if_true]
theorem r_apps {l w : Nat} : appR H c sz bytes (.slc id 0 l) w cs = apB H c id sz bytes l w cs (H id) := by
  simp only [appR, apB]
  cases H id <;> rfl
theorem b_app {l w : Nat} {cs' : List DV} (h1 : l * sz ≤ cs'.length) (h2 : (l + w) * bytes ≤ 140737488355328) (h3 : l + w ≤ maxLen) :
    apB H c id sz bytes l w cs (some ⟨sz, true, cs'⟩) = some (.slc c 0 (l + w), (H.del id).upd c ⟨sz, true, cs'.take (l * sz) ++ cs⟩, c + 1) := by
  simp only [apB, h1, h2, h3, and_self, if_true]
end
theorem pc_ret {r : DV} (h : v = r) : ∃ H2, GL H [v] H2 [r] := ⟨H, by rw [h]; exact GL.refl _ _⟩
def tmLe : List (Nat × DV) → Tm → Prop
  | [], _ => True
  | (k, v) :: r, T => T k = v ∧ tmLe r T
def Sub (h H : Hp) : Prop := ∀ j b, h j = some b → H j = some b
theorem Sub.refl (H : Hp) : Sub H H := fun _ _ h => h
theorem Sub.upd {h H : Hp} (hs : Sub h H) {id : Nat} (b : Blk) (hn : h id = none) : Sub h (H.upd id b) := fun j b' hj => by
  unfold Hp.upd
  by_cases e : j = id
  · subst e; rw [hn] at hj; cases hj
  · rw [if_neg e]; exact hs j b' hj
theorem Sub.put {h H : Hp} (hs : Sub h H) {id : Nat} {b : Blk} (hb : H id = some b) : Sub (h.upd id b) H := fun j b' hj => by
  unfold Hp.upd at hj
  by_cases e : j = id
  · subst e; rw [if_pos rfl] at hj; cases hj; exact hb
  · rw [if_neg e] at hj; exact hs j b' hj
theorem Sub.nil (H : Hp) : Sub nil H := fun j b h => by cases h
theorem tm_le {l : List (Nat × DV)} {T : Tm} (h : tmLe l T) : ∀ t, tm l t = .bot ∨ tm l t = T t := by
  induction l with
  | nil => exact fun t => .inl rfl
  | cons p r ih =>
    intro t
    simp only [tm, Tm.upd]
    by_cases e : t = p.1
    · rw [if_pos e, e]; exact .inr h.1.symm
    · rw [if_neg e]; exact ih h.2 t
theorem IW.weaken {T' : Tm} {H' : Hp} (hT : ∀ t, T' t = .bot ∨ T' t = T t) (hH : Sub H' H) (h : IW P N x ⟨T', H', c⟩ Q) : IW P N x ⟨T, H, c⟩ Q := by
  intro hm cd hc ρ a w hS
  have hj : ∀ j, H' j = none ∨ H' j = H j := fun j => by
    cases hc : H' j with
    | none => exact .inl rfl
    | some b => exact .inr (hH j b hc).symm
  have hS1 : Sim N ρ ⟨T', H', c⟩ a w := ⟨fun t => by
    show VRel ρ (T' t) _
    rcases hT t with h0 | h0
    · rw [h0]; exact .bot _
    · rw [h0]; exact hS.tm t, hS.rep.less hj, hS.fresh, hS.size, hS.dfr⟩
  refine wp_mono (h hm cd hc ρ a w hS1) fun e a' w' hq => ?_
  obtain ⟨ρ2, s2, q, hS2, hst⟩ := hq
  exact ⟨ρ2, s2, q, hS2, ⟨hst.up, fun id hid hne => by
    have := hst.dom id hid hne
    rcases hj id with h0 | h0
    · exact absurd h0 this
    · show H id ≠ none; rw [← h0]; exact this, hst.same, (Ext.less hj).trans hst.ext⟩⟩
def lp {σ : Type} (L : σ → List (Nat × DV)) (h : σ → Hp) (I : σ → Nat → Prop) (μ : σ → Nat) (m : Nat) (Q : Exit → St → Prop) : Exit → St → Prop
  | .normal, ⟨T, H, c⟩ => ∃ b, tmLe (L b) T ∧ Sub (h b) H ∧ I b c ∧ μ b < m
  | e, s => Q e s
theorem i_loop {σ : Type} (L : σ → List (Nat × DV)) (h : σ → Hp) (I : σ → Nat → Prop) (μ : σ → Nat) (a : σ) (h0 : tmLe (L a) T) (hH : Sub (h a) H) (hI : I a c)
    (step : ∀ a c, I a c → IW P N x ⟨tm (L a), h a, c⟩ (lp L h I μ (μ a) Q)) : IW P N (.loop x) ⟨T, H, c⟩ Q := by
  refine IW.loop (fun n s => ∃ b, tmLe (L b) s.T ∧ Sub (h b) s.H ∧ I b s.c ∧ μ b = n) (μ a) ⟨a, h0, hH, hI, rfl⟩ ?_
  rintro n ⟨T, H, c⟩ ⟨b, e1, e2, e3, rfl⟩
  refine IW.weaken (tm_le e1) e2 ((step b c e3).mono fun e s' q => ?_)
  obtain ⟨T', H', c'⟩ := s'
  cases e with
  | normal => obtain ⟨d, q1, q2, q3, q4⟩ := q; exact ⟨_, q4, d, q1, q2, q3, rfl⟩
  | _ => exact q
def Keep {σ : Type} (I : σ → Nat → Prop) (b : σ) (c : Nat) : Prop := I b c
theorem inv {σ : Type} {I : σ → Nat → Prop} {b : σ} {c : Nat} (h : I b c) : Keep I b c := h
theorem k_ln {σ : Type} {L : σ → List (Nat × DV)} {h : σ → Hp} {I : σ → Nat → Prop} {μ : σ → Nat} {m : Nat} : lp L h I μ m Q .normal ⟨T, H, c⟩ = ∃ b, tmLe (L b) T ∧ Sub (h b) H ∧ Keep I b c ∧ μ b < m := propext Iff.rfl
theorem k_lr {σ : Type} {L : σ → List (Nat × DV)} {h : σ → Hp} {I : σ → Nat → Prop} {μ : σ → Nat} {m : Nat} : lp L h I μ m Q .ret ⟨T, H, c⟩ = Q .ret ⟨T, H, c⟩ := propext Iff.rfl
theorem k_le {σ : Type} {L : σ → List (Nat × DV)} {h : σ → Hp} {I : σ → Nat → Prop} {μ : σ → Nat} {m i : Nat} : lp L h I μ m Q (.exit i) ⟨T, H, c⟩ = Q (.exit i) ⟨T, H, c⟩ := propext Iff.rfl
theorem le_nil : tmLe [] T = True := id rfl
theorem le_cons {k : Nat} {r : List (Nat × DV)} : tmLe ((k, v) :: r) T = (T k = v ∧ tmLe r T) := id rfl
theorem w64 {n : Int} (h1 : -9223372036854775808 ≤ n) (h2 : n ≤ 9223372036854775807) : IntKind.i64.wrap n = n := by rw [IntWalk.i64_left, IntWalk.wrap64_in n ⟨h1, h2⟩]
end Go.Sym
set_option linter.unusedVariables false
set_option linter.unusedSimpArgs false
namespace Go.Sym
open Go.Eng (Tgt Opd FOp AOp EOp IOp IOper DReg IC RV IFn trC trFn IsFn Callable isNew)
variable {P : Program} {N : Nat} {Q : Exit → St → Prop} {R : St → Prop} {s : St} {x y z : IC} {os io : List IOper} {T : Tm} {H : Hp} {c c0 : Nat} {dst : Option Nat} {v : DV}
def kp (L : List Nat) (T : Tm) : List (Nat × DV) := L.map fun k => (k, T k)
theorem kp_zip : ∀ (L : List Nat), L.zip (L.map T) = kp L T
  | [] => rfl
  | k :: L => by simp only [List.map_cons, List.zip_cons_cons, kp_zip L]; rfl
theorem IW.kp (L : List Nat) (h : IW P N x ⟨tm (kp L T), H, c⟩ Q) : IW P N x ⟨T, H, c⟩ Q := IW.slots L (by rw [kp_zip]; exact h)
theorem kp_nil : kp [] T = [] := id rfl
theorem kp_cons {k : Nat} {L : List Nat} : kp (k :: L) T = (k, T k) :: kp L T := id rfl
theorem oneP_mono {K K' : DV → Hp → Nat → Prop} (hk : ∀ v H c, K v H c → K' v H c) {op : IOp} (h : oneP P s K op) : oneP P s K' op := by
  cases op with
  | pur f => simp only [oneP] at h ⊢; split at h; exact hk _ _ _ h; exact h.elim
  | new f => simp only [oneP] at h ⊢; split at h; exact hk _ _ _ h; exact h.elim
  | eff f => simp only [oneP] at h ⊢; split at h; exact hk _ _ _ h; exact h.elim
  | call f a => exact AC.mono h hk
  | callv x a =>
    simp only [oneP] at h ⊢
    split at h
    · exact AC.mono h hk
    · exact h.elim
abbrev WS (P : Program) (N : Nat) (u : IC) (r : List IOper) (y : IC) (L : List Nat) : Prop := ∀ {Q : Exit → St → Prop} {T : Tm} {H : Hp} {c : Nat}, rwp P (nx P N y Q) r ⟨tm (kp L T), H, c⟩ → IW P N u ⟨T, H, c⟩ Q
abbrev WE (P : Program) (N : Nat) (u : IC) (r : List IOper) (L : List Nat) : Prop := ∀ {Q : Exit → St → Prop} {T : Tm} {H : Hp} {c : Nat}, rwp P (no Q) r ⟨tm (kp L T), H, c⟩ → IW P N u ⟨T, H, c⟩ Q
abbrev WP (P : Program) (N : Nat) (u : IC) (n : Nat) (d : DReg) (y : IC) (L : List Nat) : Prop := ∀ {Q : Exit → St → Prop} {T : Tm} {H : Hp} {c : Nat}, rwp P (nx P N y Q) d.ops ⟨tm (kp L T), H, c + n⟩ → IW P N u ⟨T, H, c⟩ Q
abbrev WD (P : Program) (N : Nat) (u : IC) (n : Nat) (d : DReg) (y : IC) (L : List Nat) : Prop := ∀ {Q : Exit → St → Prop} {T : Tm} {H : Hp} {c : Nat}, dwp P (nx P N y Q) d.ops c d.plan ⟨tm (kp L T), H, c + n⟩ → IW P N u ⟨T, H, c⟩ Q
abbrev WDE (P : Program) (N : Nat) (u : IC) (n : Nat) (d : DReg) (L : List Nat) : Prop := ∀ {Q : Exit → St → Prop} {T : Tm} {H : Hp} {c : Nat}, dwp P (no Q) d.ops c d.plan ⟨tm (kp L T), H, c + n⟩ → IW P N u ⟨T, H, c⟩ Q
abbrev WC (P : Program) (N : Nat) (u : IC) (o : Opd) (x z y : IC) (L : List Nat) : Prop := ∀ {Q : Exit → St → Prop} {T : Tm} {H : Hp} {c : Nat}, cndK P N x z ⟨tm (kp L T), H, c⟩ (sq P N y Q) (ev (tm (kp L T)) o) → IW P N u ⟨T, H, c⟩ Q
abbrev WCE (P : Program) (N : Nat) (u : IC) (o : Opd) (x z : IC) (L : List Nat) : Prop := ∀ {Q : Exit → St → Prop} {T : Tm} {H : Hp} {c : Nat}, cndK P N x z ⟨tm (kp L T), H, c⟩ Q (ev (tm (kp L T)) o) → IW P N u ⟨T, H, c⟩ Q
abbrev WB (P : Program) (N : Nat) (u : IC) (i : Nat) (x y : IC) (L : List Nat) : Prop := ∀ {Q : Exit → St → Prop} {T : Tm} {H : Hp} {c : Nat}, IW P N x ⟨tm (kp L T), H, c⟩ (bk i (sq P N y Q)) → IW P N u ⟨T, H, c⟩ Q
abbrev WBE (P : Program) (N : Nat) (u : IC) (i : Nat) (x : IC) (L : List Nat) : Prop := ∀ {Q : Exit → St → Prop} {T : Tm} {H : Hp} {c : Nat}, IW P N x ⟨tm (kp L T), H, c⟩ (bk i Q) → IW P N u ⟨T, H, c⟩ Q
abbrev WQ (P : Program) (N : Nat) (u x y : IC) (L : List Nat) : Prop := ∀ {Q : Exit → St → Prop} {T : Tm} {H : Hp} {c : Nat}, IW P N x ⟨tm (kp L T), H, c⟩ (sq P N y Q) → IW P N u ⟨T, H, c⟩ Q
def asc : Nat → List (Nat × Option (List Nat)) → List IOper → Bool
  | _, [], [] => true
  | k, (i, none) :: r, ⟨_, .pur _, _⟩ :: io => Nat.beq i k && asc (k + 1) r io
  | k, (i, some []) :: r, _ :: io => Nat.beq i k && asc (k + 1) r io
  | _, _, _ => false
theorem dwp_of_rwp : ∀ (plan : List (Nat × Option (List Nat))) (os : List IOper) (k : Nat) (s : St), asc k plan os = true → io.drop k = os → rwp P R os s → dwp P R io c0 plan s
  | [], [], k, s, _, _, h => h
  | [], _ :: _, k, s, ha, _, h => by simp [asc] at ha
  | (i, none) :: r, [], k, s, ha, _, h => by simp [asc] at ha
  | (i, none) :: r, ⟨d, .pur f, g⟩ :: os, k, s, ha, he, h => by
    simp only [asc, Bool.and_eq_true, Nat.beq_eq] at ha
    obtain ⟨rfl, ha⟩ := ha
    have hget : io[i]? = some ⟨d, .pur f, g⟩ := by
      have : (io.drop i)[0]? = some ⟨d, .pur f, g⟩ := by rw [he]; rfl
      simpa using this
    have hdr : io.drop (i + 1) = os := by rw [← List.drop_drop, he]; rfl
    simp only [dwp, hget, freeV]
    simp only [rwp] at h
    split at h
    · rename_i hw
      try simp only [hw]
      simp only [oneP] at h
      split at h
      · rename_i v hv
        simp only [hv]
        exact dwp_of_rwp r os (i + 1) _ ha hdr h
      · exact h.elim
    · rename_i hw
      try simp only [hw]
      exact dwp_of_rwp r os (i + 1) _ ha hdr h
    · exact h.elim
  | (i, none) :: r, ⟨d, .new f, g⟩ :: os, k, s, ha, _, h => by simp [asc] at ha
  | (i, none) :: r, ⟨d, .eff f, g⟩ :: os, k, s, ha, _, h => by simp [asc] at ha
  | (i, none) :: r, ⟨d, .call f a, g⟩ :: os, k, s, ha, _, h => by simp [asc] at ha
  | (i, none) :: r, ⟨d, .callv f a, g⟩ :: os, k, s, ha, _, h => by simp [asc] at ha
  | (i, some (_ :: _)) :: r, os, k, s, ha, _, h => by simp [asc] at ha
  | (i, some []) :: r, [], k, s, ha, _, h => by simp [asc] at ha
  | (i, some []) :: r, o :: os, k, s, ha, he, h => by
    simp only [asc, Bool.and_eq_true, Nat.beq_eq] at ha
    obtain ⟨rfl, ha⟩ := ha
    have hget : io[i]? = some o := by
      have : (io.drop i)[0]? = some o := by rw [he]; rfl
      simpa using this
    have hdr : io.drop (i + 1) = os := by rw [← List.drop_drop, he]; rfl
    have hh : ∀ H : Hp, hide H [] = H := fun H => by funext j; simp [hide]
    have hm : ∀ H H' : Hp, merge [] H H' = H' := fun H H' => by funext j; simp [merge]
    simp only [dwp, hget, List.filter_nil, List.map_nil, hh, hm, AgainL, true_and, effP]
    simp only [rwp] at h
    split at h
    · rename_i hw
      try simp only [hw]
      exact oneP_mono (fun v H' c' h' => dwp_of_rwp r os (i + 1) _ ha hdr h') h
    · rename_i hw
      try simp only [hw]
      exact dwp_of_rwp r os (i + 1) _ ha hdr h
    · exact h.elim
section
variable {u : IC} {r : List IOper} {L : List Nat} {n i : Nat} {d : DReg} {o : Opd}
theorem mkS : WS P N (.seq (.reg r) y) r y L := fun h => IW.kp L (i_sreg h)
theorem mkE : WE P N (.reg r) r L := fun h => IW.kp L (i_reg h)
theorem mkP (h1 : asc 0 d.plan d.ops = true) : WP P N (.seq (.drw n d) y) n d y L := fun h => IW.kp L (i_sdrw (dwp_of_rwp d.plan d.ops 0 _ h1 rfl h))
theorem mkD : WD P N (.seq (.drw n d) y) n d y L := fun h => IW.kp L (i_sdrw h)
theorem mkDE : WDE P N (.drw n d) n d L := fun h => IW.kp L (i_drw h)
theorem mkC : WC P N (.seq (.cond o x z) y) o x z y L := fun h => IW.kp L (i_scond h)
theorem mkCE : WCE P N (.cond o x z) o x z L := fun h => IW.kp L (i_cond h)
theorem mkB : WB P N (.seq (.blk i x) y) i x y L := fun h => IW.kp L (i_seq (i_blk h))
theorem mkBE : WBE P N (.blk i x) i x L := fun h => IW.kp L (i_blk h)
theorem mkQ : WQ P N (.seq x y) x y L := fun h => IW.kp L (i_seq h)
end
def dpK (P : Program) (R : St → Prop) (io : List IOper) (c0 : Nat) (r : List (Nat × Option (List Nat))) (T : Tm) (H : Hp) (c : Nat) (dst : Option Nat) : Option DV → Prop
  | some v => dwp P R io c0 r ⟨updO T dst v, H, c⟩
  | none => False
def dnK (P : Program) (R : St → Prop) (io : List IOper) (c0 i : Nat) (r : List (Nat × Option (List Nat))) (T : Tm) (H : Hp) (c : Nat) (dst : Option Nat) : Option (Option Nat × Blk) → Prop
  | some (k, b) => dwp P R io c0 r ⟨updO T dst (mkv (c0 + i) k), H.upd (c0 + i) b, c⟩
  | none => False
def dgK (P : Program) (R : St → Prop) (io : List IOper) (c0 i : Nat) (r : List (Nat × Option (List Nat))) (T : Tm) (H : Hp) (c : Nat) (dst : Option Nat) (op : IOp) : Option Bool → Prop
  | some true => match op with
    | .pur f => dpK P R io c0 r T H c dst (fev H (ev T) f)
    | .new f => dnK P R io c0 i r T H c dst (aev (ev T) f)
    | _ => False
  | some false => dwp P R io c0 r ⟨updO T dst (.tup []), H, c⟩
  | none => False
def dfK (P : Program) (R : St → Prop) (io : List IOper) (c0 i : Nat) (r : List (Nat × Option (List Nat))) (T : Tm) (H : Hp) (c : Nat) : Option IOper → Prop
  | some o => dgK P R io c0 i r T H c o.dst o.op (wantG T o.guard)
  | none => False
def dk (P : Program) (R : St → Prop) (io : List IOper) (c0 : Nat) (r : List (Nat × Option (List Nat))) (T : Tm) (H : Hp) (dst : Option Nat) (pend : List Nat) (v : DV) (H' : Hp) (c' : Nat) : Prop :=
  AgainL io c0 ⟨updO T dst v, merge ((pend.filter (isNew io)).map (c0 + ·)) H H', c'⟩ pend ∧ dwp P R io c0 r ⟨updO T dst v, merge ((pend.filter (isNew io)).map (c0 + ·)) H H', c'⟩
def deK (P : Program) (R : St → Prop) (io : List IOper) (c0 : Nat) (r : List (Nat × Option (List Nat))) (T : Tm) (H : Hp) (c : Nat) (pend : List Nat) : Option IOper → Prop
  | some o => effP P ⟨T, hide H ((pend.filter (isNew io)).map (c0 + ·)), c⟩ o (dk P R io c0 r T H o.dst pend)
  | none => False
section
variable {i : Nat} {r : List (Nat × Option (List Nat))} {pend : List Nat} {op : IOp}
theorem d_nil : dwp P R io c0 [] s = R s := propext Iff.rfl
theorem d_free : dwp P R io c0 ((i, none) :: r) ⟨T, H, c⟩ = dfK P R io c0 i r T H c io[i]? := by
  simp only [dwp]
  cases io[i]? with
  | none => rfl
  | some o =>
    obtain ⟨d, op, g⟩ := o
    simp only [dfK, freeV]
    cases wantG T g with
    | none => rfl
    | some b =>
      cases b with
      | false => rfl
      | true =>
        cases op with
        | pur f => simp only [dgK, dpK]; cases fev H (ev T) f <;> rfl
        | new f => simp only [dgK, dnK]; cases aev (ev T) f <;> rfl
        | _ => rfl
theorem d_fs {o : IOper} : dfK P R io c0 i r T H c (some o) = dgK P R io c0 i r T H c o.dst o.op (wantG T o.guard) := propext Iff.rfl
theorem d_gp {f : FOp} : dgK P R io c0 i r T H c dst (.pur f) (some true) = dpK P R io c0 r T H c dst (fev H (ev T) f) := propext Iff.rfl
theorem d_gn {f : AOp} : dgK P R io c0 i r T H c dst (.new f) (some true) = dnK P R io c0 i r T H c dst (aev (ev T) f) := propext Iff.rfl
theorem d_ps : dpK P R io c0 r T H c dst (some v) = dwp P R io c0 r ⟨updO T dst v, H, c⟩ := propext Iff.rfl
theorem d_ns {k : Option Nat} {b : Blk} : dnK P R io c0 i r T H c dst (some (k, b)) = dwp P R io c0 r ⟨updO T dst (mkv (c0 + i) k), H.upd (c0 + i) b, c⟩ := propext Iff.rfl
theorem d_eff : dwp P R io c0 ((i, some pend) :: r) ⟨T, H, c⟩ = deK P R io c0 r T H c pend io[i]? := by
  simp only [dwp]
  cases io[i]? <;> rfl
theorem d_es {o : IOper} : deK P R io c0 r T H c pend (some o) = effP P ⟨T, hide H ((pend.filter (isNew io)).map (c0 + ·)), c⟩ o (dk P R io c0 r T H o.dst pend) := propext Iff.rfl
theorem want_none : wantG T none = some true := id rfl
def egK (P : Program) (T : Tm) (H : Hp) (c : Nat) (op : IOp) (K : DV → Hp → Nat → Prop) : Option Bool → Prop
  | some true => oneP P ⟨T, H, c⟩ K op
  | some false => K (.tup []) H c
  | none => False
def opK (H : Hp) (c : Nat) (K : DV → Hp → Nat → Prop) : Option DV → Prop
  | some v => K v H c
  | none => False
def oeK (K : DV → Hp → Nat → Prop) : Option (DV × Hp × Nat) → Prop
  | some (v, H', c') => K v H' c'
  | none => False
variable {K : DV → Hp → Nat → Prop}
theorem x_eff {o : IOper} : effP P ⟨T, H, c⟩ o K = egK P T H c o.op K (wantG T o.guard) := by
  simp only [effP, egK]
  cases wantG T o.guard with
  | none => rfl
  | some b => cases b <;> rfl
theorem x_t : egK P T H c op K (some true) = oneP P ⟨T, H, c⟩ K op := propext Iff.rfl
theorem x_pur {f : FOp} : oneP P ⟨T, H, c⟩ K (.pur f) = opK H c K (fev H (ev T) f) := by
  simp only [oneP, opK]; cases fev H (ev T) f <;> rfl
theorem x_e {f : EOp} : oneP P ⟨T, H, c⟩ K (.eff f) = oeK K (eev H c (ev T) f) := by
  simp only [oneP, oeK]; cases eev H c (ev T) f <;> rfl
theorem x_call {f : Nat} {asx : List Opd} : oneP P ⟨T, H, c⟩ K (.call f asx) = AC P f (asx.map (ev T)) H c K := propext Iff.rfl
theorem x_ps : opK H c K (some v) = K v H c := propext Iff.rfl
theorem x_es {H' : Hp} {c' : Nat} : oeK K (some (v, H', c')) = K v H' c' := propext Iff.rfl
theorem x_dk {H' : Hp} {c' : Nat} : dk P R io c0 r T H dst pend v H' c' = (AgainL io c0 ⟨updO T dst v, merge ((pend.filter (isNew io)).map (c0 + ·)) H H', c'⟩ pend ∧ dwp P R io c0 r ⟨updO T dst v, merge ((pend.filter (isNew io)).map (c0 + ·)) H H', c'⟩) := propext Iff.rfl
theorem hide_nil : hide H [] = H := by funext j; simp [hide]
theorem merge_nil {H' : Hp} : merge [] H H' = H' := by funext j; simp [merge]
theorem hm_same {ks : List Nat} : merge ks H (hide H ks) = H := by
  funext j; simp only [merge, hide]; split <;> rfl
def agK (c0 j : Nat) (T : Tm) (H : Hp) (dst : Option Nat) (op : IOp) : Option Bool → Prop
  | some true => match op with
    | .pur f => match fev H (ev T) f with
      | some v => (∀ d, dst = some d → T d = v) ∧ H (c0 + j) = none
      | none => False
    | .new f => match aev (ev T) f with
      | some (k, b) => (∀ d, dst = some d → T d = mkv (c0 + j) k) ∧ H (c0 + j) = some b
      | none => False
    | _ => False
  | some false => (∀ d, dst = some d → T d = .tup []) ∧ H (c0 + j) = none
  | none => False
def agO (c0 j : Nat) (T : Tm) (H : Hp) : Option IOper → Prop
  | some o => agK c0 j T H o.dst o.op (wantG T o.guard)
  | none => False
theorem ag_nil : AgainL io c0 s [] = True := id rfl
theorem ag_cons {j : Nat} {l : List Nat} : AgainL io c0 ⟨T, H, c⟩ (j :: l) = (agO c0 j T H io[j]? ∧ AgainL io c0 ⟨T, H, c⟩ l) := by
  simp only [AgainL, Again]
  congr 1
  cases io[j]? with
  | none => rfl
  | some o =>
    obtain ⟨d, op, g⟩ := o
    simp only [agO, agK, freeV]
    cases wantG T g with
    | none => rfl
    | some b =>
      cases b with
      | false => rfl
      | true =>
        cases op with
        | pur f => simp only []; cases fev H (ev T) f <;> rfl
        | new f => simp only []; cases aev (ev T) f <;> rfl
        | _ => rfl
theorem ag_s {j : Nat} {o : IOper} : agO c0 j T H (some o) = agK c0 j T H o.dst o.op (wantG T o.guard) := propext Iff.rfl
def apK (T : Tm) (d : Nat) (hn : Prop) : Option DV → Prop
  | some v => T d = v ∧ hn
  | none => False
theorem ag_p {j d : Nat} {f : FOp} : agK c0 j T H (some d) (.pur f) (some true) = apK T d (H (c0 + j) = none) (fev H (ev T) f) := by
  simp only [agK, apK]
  cases fev H (ev T) f with
  | none => rfl
  | some v =>
    apply propext
    simp only []
    constructor
    · rintro ⟨h1, h2⟩; exact ⟨h1 d rfl, h2⟩
    · rintro ⟨h1, h2⟩; exact ⟨fun d' e => by cases e; exact h1, h2⟩
theorem ag_ps {d : Nat} {hn : Prop} : apK T d hn (some v) = (T d = v ∧ hn) := propext Iff.rfl
end
theorem PC.lend {f : Nat} {args args' : List DV} {r : DV} {H0 : Hp} (h : PC P f args' r) (hr : r.flat = true) (g : GL H args H0 args') : AC P f args H c (fun v H' c' => v = r ∧ H' = H ∧ c' = c) :=
  AC.lend g h.ac h.na (fun v e => by rw [e]; exact hr)
theorem PC.give {f : Nat} {args args' : List DV} {r : DV} {H0 : Hp} (h : PC P f args' r) (g : GL H args H0 args') : AC P f args H c (fun v H' c' => v = r ∧ H' = H0 ∧ c' = c) :=
  AC.ghost g (h.at H0 c)
theorem GL.one {id : Nat} {b : Blk} {ds ds' : List DV} (hb : H id = some b) (ho : b.own = true) (hd : FzL id b ds ds') : GL H ds nil ds' :=
  GL.frz hb ho (fun j => .inl rfl) hd
theorem madeL_zero {z : List DV} : madeL z 0 = [] := id rfl
theorem madeL_succ {z : List DV} {n : Nat} : madeL z (n + 1) = z ++ madeL z n := by simp [madeL, List.replicate_succ]
attribute [go_sem] kp_nil kp_cons k_nx k_no k_sn k_sr k_se k_bn k_br k_be k_bo k_r1 k_r2 k_n0 k_nil k_pur k_new k_eff k_call k_clv k_clf k_some k_nsome k_esome k_ap k_grd k_gt k_gf k_want k_wu k_ct k_cf k_ln k_lr k_le le_nil le_cons u_some u_none u_same u_ne t_same t_ne h_same h_ne h_dsame h_dne h_nil e_t e_k e_f a_0 a_1 a_2 a_3 j_bool j_int j_str j_snil j_agg j_sbool j_sint j_sstr j_ssnil f_mv f_pick f_ld f_fad f_iad f_iada f_idx f_ext f_nck f_bin f_eqb f_eqa f_un f_cvi f_cvbs f_slc f_sls f_mkf f_bld f_len f_lens f_mn g_box g_bsl g_msl g_st g_app g_apps r_pt r_pf r_ld b_ld1 b_ldn r_fld1 r_fldn r_fadp r_fadf r_iadn o_iad r_iads r_iada r_idxn o_ch r_ext r_nckp r_eqb r_neg r_not r_cvi r_lenn r_lens r_lenl r_slen r_mn r_slsx r_eql r_neq r_lss r_leq r_gtr r_geq r_add r_sub r_mul r_and r_or r_sadd r_seql r_sneq m_p m_s r_box r_st b_st r_apx r_aps r_srcl r_srcs b_src r_apps bslR bldR fillL setL madeL_zero madeL_succ d_nil d_free d_fs d_gp d_gn d_ps d_ns d_eff d_es want_none x_eff x_t x_pur x_e x_call x_ps x_es x_dk hide_nil merge_nil hm_same ag_nil ag_cons ag_s ag_p ag_ps List.filter_cons Eng.isNew Bool.false_eq_true List.map_cons List.map_nil List.getElem?_cons_zero List.getElem?_cons_succ List.getElem?_map Option.map_some Option.map_none List.drop_succ_cons List.drop_zero List.take_succ_cons List.take_zero List.length_cons List.length_nil List.length_map List.cons_append List.nil_append List.append_nil List.set_cons_zero List.set_cons_succ List.replicate_succ List.replicate_zero List.flatten_cons List.flatten_nil List.filter_nil hide_nil DV.cells DV.one List.all_cons List.all_nil Bool.and_true Bool.true_and Bool.and_self Bool.false_and Bool.and_false not_false_eq_true and_self and_true true_and beq_self_eq_true bne_self_eq_false Bool.true_beq Bool.false_beq Bool.not_true Bool.not_false Int.toNat_natCast Nat.le_refl Nat.zero_add Nat.add_zero Nat.zero_mul Nat.one_mul Nat.mul_one
end Go.Sym
set_option linter.unusedVariables false
set_option linter.unusedSimpArgs false
namespace Go.Sym
open Go.Eng (Tgt Opd FOp AOp EOp IOp IOper DReg IC RV IFn trC trFn IsFn Callable isNew)
variable {P : Program} {N : Nat} {Q : Exit → St → Prop} {R : St → Prop} {s : St} {x y z : IC} {os io : List IOper} {T : Tm} {H : Hp} {c c0 : Nat} {dst : Option Nat} {v : DV}
theorem GL.view {ds ds' : List DV} (h : ∀ (ρ : Ren) (vs : Array Value), ARel ρ ds vs → ARel ρ ds' vs) : GL H ds H ds' :=
  ⟨fun _ h => h, fun ρ w vs h1 h2 => ⟨ρ, rfl, h1, h ρ vs h2, Ext.refl _ _ _⟩⟩
theorem arel_one {ρ : Ren} {d d' : DV} (h : ∀ v, VRel ρ d v → VRel ρ d' v) (vs : Array Value) (hA : ARel ρ [d] vs) : ARel ρ [d'] vs :=
  ⟨hA.1, fun i x y hx hy => by
    cases i with
    | zero => cases hx; exact h y (hA.2 0 d y rfl hy)
    | succ i => cases hx⟩
theorem VRel.snil_lst {ρ : Ren} {v : Value} (h : VRel ρ .snil v) : VRel ρ (.lst []) v := by cases h; exact .lnil0
theorem VRel.tup2 {ρ : Ren} {a a' b : DV} {v : Value} (ha : ∀ v, VRel ρ a v → VRel ρ a' v) (h : VRel ρ (.tup [a, b]) v) : VRel ρ (.tup [a', b]) v := by
  obtain ⟨vs, rfl, hA⟩ := h.tup_inv
  refine .mkTup ⟨hA.1, fun i x y hx hy => ?_⟩
  match i with
  | 0 => cases hx; exact ha y (hA.2 0 a y rfl hy)
  | 1 => cases hx; exact hA.2 1 b y rfl hy
  | _ + 2 => cases hx
theorem pc_snil2 {b : DV} : ∃ H2, GL H [.tup [.snil, b]] H2 [.tup [.lst [], b]] := ⟨H, GL.view fun ρ vs h => arel_one (fun v h => h.tup2 fun v h => h.snil_lst) vs h⟩
theorem fz_slc {id n u : Nat} {xs : List DV} {blk : Blk} (hl : xs.length = n) (hu : ∀ x ∈ xs, x.cells.length = u) (hc : ∃ r, blk.cells = cellsL xs ++ r) : Fz id blk (.slc id 0 n) (.lst xs) := by
  obtain ⟨r, hr⟩ := hc
  have hcl := cellsL_length hu
  refine .slc 0 n u xs hl hu ?_ ?_
  · rw [hr, List.length_append, hcl, hl]; omega
  · rw [hr, List.drop_zero, List.take_left' (by rw [hcl, hl])]
theorem pc_slc2 {id n u : Nat} {xs : List DV} {blk : Blk} {b : DV} (hb : H id = some blk) (ho : blk.own = true) (hl : xs.length = n) (hu : ∀ x ∈ xs, x.cells.length = u) (hc : ∃ r, blk.cells = cellsL xs ++ r) :
    ∃ H2, GL H [.tup [.slc id 0 n, b]] H2 [.tup [.lst xs, b]] :=
  ⟨nil, GL.one hb ho (.cons _ _ _ _ (.tup _ _ (.cons _ _ _ _ (fz_slc hl hu hc) (.cons _ _ _ _ (.same _) .nil))) .nil)⟩
theorem cellsL_map1 {α : Type} {f : α → DV} (h : ∀ a, (f a).cells = [f a]) : ∀ (l : List α), cellsL (l.map f) = l.map f
  | [] => rfl
  | a :: l => by
    have := cellsL_map1 h l
    simp only [cellsL, List.map_cons, List.flatMap_cons, h a, List.cons_append, List.nil_append] at this ⊢
    rw [this]
theorem cellsL_append (a b : List DV) : cellsL (a ++ b) = cellsL a ++ cellsL b := by simp [cellsL]
theorem put_map {α : Type} {f : α → DV} {l : List α} {n : Nat} {a : α} (h : n < l.length) : (l.map f).take n ++ [f a] ++ (l.map f).drop (n + 1) = (l.set n a).map f := by
  rw [List.set_eq_take_append_cons_drop, if_pos h]
  simp [List.map_take, List.map_drop]
theorem r_iadsn {id off l n sz : Nat} {k : IntKind} (h : n < l) : iadR sz (.slc id off l) (.int k (n : Int)) = some (.ptr id (off + n * sz)) := by
  rw [r_iads (Int.natCast_nonneg n) (by exact_mod_cast h), Int.toNat_natCast]
theorem r_slch {id off l h sz : Nat} {k : IntKind} (hh : h ≤ l) : slcR H sz (.slc id off l) none (some (.int k (h : Int))) = some (.slc id off h) := by
  simp only [slcR, boundOf, Int.natCast_nonneg, if_true, Int.toNat_natCast, hh, Nat.zero_le, and_self]
theorem r_msl {sz bytes n : Nat} {z : List DV} {k k' : IntKind} (h1 : bytes * n ≤ 281474976710656) (h2 : n ≤ 9223372036854775807) (h3 : z.all DV.one = true) (h4 : z.length = sz) :
    mslR sz bytes z (.int k (n : Int)) (.int k' (n : Int)) = some (some n, ⟨sz, true, madeL z n⟩) := by
  simp only [mslR]
  rw [if_pos]
  · simp
  · have h5 : ((bytes * n : Nat) : Int) ≤ 281474976710656 := by omega
    rw [Int.natCast_mul] at h5
    exact ⟨Int.natCast_nonneg _, Int.le_refl _, h5, by omega, h3, h4⟩
theorem madeL_one (a : DV) (n : Nat) : madeL [a] n = List.replicate n a := by
  induction n with
  | zero => rfl
  | succ n ih => simp only [madeL, List.replicate_succ, List.flatten_cons, List.cons_append, List.nil_append] at ih ⊢; rw [ih]
section
variable {id sz bytes l w : Nat} {cs cs' a j : List DV}
theorem b_appx (h0 : cs'.length = l * sz) (h2 : (l + w) * bytes ≤ 140737488355328) (h3 : l + w ≤ 9223372036854775807) :
    apB H c id sz bytes l w cs (some ⟨sz, true, cs'⟩) = some (.slc c 0 (l + w), (H.del id).upd c ⟨sz, true, cs' ++ cs⟩, c + 1) := by
  rw [b_app (by omega) h2 (by simpa [maxLen] using h3), List.take_of_length_le (by omega)]
theorem r_appn' (h : ¬ l = 0) (h1 : l * bytes ≤ 140737488355328) (h2 : l ≤ 9223372036854775807) : appR H c sz bytes .snil l cs = some (.slc c 0 l, H.upd c ⟨sz, true, cs⟩, c + 1) :=
  r_appn h h1 (by simpa [maxLen] using h2)
end
def todoV : Option Nat → Nat → DV
  | none, _ => .snil
  | some id, n => .slc id 0 n
def optH (H : Hp) : Option Nat → Blk → Hp
  | none, _ => H
  | some id, b => H.upd id b
theorem todo_n {n : Nat} : todoV none n = .snil := id rfl
theorem todo_s {i n : Nat} : todoV (some i) n = .slc i 0 n := id rfl
theorem opt_n {b : Blk} : optH H none b = H := id rfl
theorem opt_s {i : Nat} {b : Blk} : optH H (some i) b = H.upd i b := id rfl
attribute [go_sem] r_iadsn r_slch todo_n todo_s opt_n opt_s
end Go.Sym
set_option linter.unusedVariables false
namespace Go.Sym
open Go.Eng (Opd IOper DReg IC)
abbrev Rl : Type := Program → Nat → (Exit → St → Prop) → Tm → Hp → Nat → Prop
def rS (r : List IOper) (y : IC) (L : List Nat) : Rl := fun P N Q T H c => rwp P (nx P N y Q) r ⟨tm (kp L T), H, c⟩
def rE (r : List IOper) (L : List Nat) : Rl := fun P N Q T H c => rwp P (no Q) r ⟨tm (kp L T), H, c⟩
def rP (n : Nat) (d : DReg) (y : IC) (L : List Nat) : Rl := fun P N Q T H c => rwp P (nx P N y Q) d.ops ⟨tm (kp L T), H, c + n⟩
def rD (n : Nat) (d : DReg) (y : IC) (L : List Nat) : Rl := fun P N Q T H c => dwp P (nx P N y Q) d.ops c d.plan ⟨tm (kp L T), H, c + n⟩
def rDE (n : Nat) (d : DReg) (L : List Nat) : Rl := fun P N Q T H c => dwp P (no Q) d.ops c d.plan ⟨tm (kp L T), H, c + n⟩
def rC (o : Opd) (x z y : IC) (L : List Nat) : Rl := fun P N Q T H c => cndK P N x z ⟨tm (kp L T), H, c⟩ (sq P N y Q) (ev (tm (kp L T)) o)
def rCE (o : Opd) (x z : IC) (L : List Nat) : Rl := fun P N Q T H c => cndK P N x z ⟨tm (kp L T), H, c⟩ Q (ev (tm (kp L T)) o)
def rB (i : Nat) (x y : IC) (L : List Nat) : Rl := fun P N Q T H c => IW P N x ⟨tm (kp L T), H, c⟩ (bk i (sq P N y Q))
def rBE (i : Nat) (x : IC) (L : List Nat) : Rl := fun P N Q T H c => IW P N x ⟨tm (kp L T), H, c⟩ (bk i Q)
def rQ (x y : IC) (L : List Nat) : Rl := fun P N Q T H c => IW P N x ⟨tm (kp L T), H, c⟩ (sq P N y Q)
class WR (P : Program) (N : Nat) (u : IC) (r : outParam Rl) : Prop where
  out : ∀ {Q : Exit → St → Prop} {T : Tm} {H : Hp} {c : Nat}, r P N Q T H c → IW P N u ⟨T, H, c⟩ Q
section
variable {P : Program} {N : Nat} {u x y z : IC} {Q : Exit → St → Prop} {T : Tm} {H : Hp} {c n i : Nat} {r : List IOper} {d : DReg} {L : List Nat} {o : Opd}
theorem wr {w : Rl} [k : WR P N u w] (h : w P N Q T H c) : IW P N u ⟨T, H, c⟩ Q := k.out h
theorem e_S : rS r y L P N Q T H c = rwp P (nx P N y Q) r ⟨tm (kp L T), H, c⟩ := propext Iff.rfl
theorem e_E : rE r L P N Q T H c = rwp P (no Q) r ⟨tm (kp L T), H, c⟩ := propext Iff.rfl
theorem e_P : rP n d y L P N Q T H c = rwp P (nx P N y Q) d.ops ⟨tm (kp L T), H, c + n⟩ := propext Iff.rfl
theorem e_D : rD n d y L P N Q T H c = dwp P (nx P N y Q) d.ops c d.plan ⟨tm (kp L T), H, c + n⟩ := propext Iff.rfl
theorem e_DE : rDE n d L P N Q T H c = dwp P (no Q) d.ops c d.plan ⟨tm (kp L T), H, c + n⟩ := propext Iff.rfl
theorem e_C : rC o x z y L P N Q T H c = cndK P N x z ⟨tm (kp L T), H, c⟩ (sq P N y Q) (ev (tm (kp L T)) o) := propext Iff.rfl
theorem e_CE : rCE o x z L P N Q T H c = cndK P N x z ⟨tm (kp L T), H, c⟩ Q (ev (tm (kp L T)) o) := propext Iff.rfl
theorem e_B : rB i x y L P N Q T H c = IW P N x ⟨tm (kp L T), H, c⟩ (bk i (sq P N y Q)) := propext Iff.rfl
theorem e_BE : rBE i x L P N Q T H c = IW P N x ⟨tm (kp L T), H, c⟩ (bk i Q) := propext Iff.rfl
theorem e_Q : rQ x y L P N Q T H c = IW P N x ⟨tm (kp L T), H, c⟩ (sq P N y Q) := propext Iff.rfl
end
attribute [go_sem] e_S e_E e_P e_D e_DE e_C e_CE e_B e_BE e_Q
end Go.Sym
set_option linter.unusedVariables false
namespace Go.Eng
open Go.RowKit Go.WideShapes Go.ChangeShapes
section
variable {H : Type} {enc : TypeId × Value → H} {P : Program}
theorem post_of_below {f : Func} {s : ChangeSpec} {apart fresh handsOn again : Bool} {W W' : World} {args : Array Value} {v : Value} {ds gs : List (DataW H)} {before pa pv : List MemPlace}
    (hW : DataW.Whole enc P f.params.toList s.vars apart W args.toList ds gs before)
    (hres : ∀ (b : Nat) (sp : Nat → Bool) (hd : Bool), DataW.TrodAll enc P W' b sp hd f.resultTypes.toList (v.resultList f.resultTypes.size) (s.fn H (ds ++ gs)).results [])
    (hargs : ∀ sp : Nat → Bool, (∀ p ∈ before, sp p.block = true) → DataW.TrodAll enc P W' 0 sp true f.params.toList args.toList (s.fn H (ds ++ gs)).args pa)
    (hvars : ∀ sp : Nat → Bool, (∀ p ∈ before, sp p.block = true) → DataW.TrodVars enc P W' sp s.vars (s.fn H (ds ++ gs)).vars pv)
    (hps : before = pa ++ pv) (hb : Below W.heap.size W W')
    (hok : ∀ (j : Nat) (t : TypeId) (r : Value), f.resultTypes[j]? = some t → (v.resultList f.resultTypes.size)[j]? = some r → Value.okWide P W' .any 0 t r) :
    s.post enc P f apart fresh handsOn again W args v W' := by
  have hlt : ∀ p ∈ before, p.block < W.heap.size := fun p hp => hW.lt p hp
  have hold : ∀ p ∈ before, (fun b => decide (b < W.heap.size)) p.block = true := fun p hp => by simpa using hlt p hp
  refine ⟨ds, gs, before, [], pa, pv, hW, hres _ _ _, hargs _ hold, hvars _ hold, World.keptBut_mono (fun p hp => ⟨hp, ?_⟩) (hb.frame (· ∈ before)), fun _ => ?_⟩
  · rw [hps, List.mem_append] at hp
    exact Or.inr hp
  · obtain ⟨_, _, _, _, _, hz, hn⟩ := hW
    refine ⟨hok, _, _, ([] ++ pa) ++ pv, ⟨[] ++ pa, pv, trodAll_append (hargs _ (fun _ _ => rfl)) (hres _ _ _), hvars _ (fun _ _ => rfl), rfl, ?_, ?_⟩, ?_⟩
    · intro b off hp
      have hin : MemPlace.cell b off ∈ before := by rw [hps]; simpa using hp
      rw [hb.frozen (hlt _ hin)]
      exact hz b off hin
    · intro ha
      have := hn ha
      rw [hps] at this
      simpa using this
    · intro p hp _
      rw [hps]
      simpa using hp
end
end Go.Eng
set_option linter.unusedVariables false
set_option linter.unusedSimpArgs false
namespace Go.Sym
open Go.Eng (Tgt Opd FOp AOp EOp IOp IOper DReg IC RV IFn trC trFn IsFn Callable isNew)
open Go.RowKit
variable {P : Program}
def topR (w : World) : Ren := ⟨fun _ => none, fun b => match w.heap[b]? with
  | some (.cells r _ _) => some r
  | _ => none⟩
theorem topR_cells {w : World} {b : Nat} {r : Array Value} {e : TypeId} {fr : Nat × Nat} (h : w.heap[b]? = some (.cells r e fr)) : (topR w).fz b = some r := by
  simp only [topR, h]
theorem topR_rep (w : World) : Rep (topR w) nil w := by
  refine ⟨fun id b h => (by cases h), fun i j bi bj ti tj h => (by cases h), fun b r h => ?_, fun id b t h => (by cases h)⟩
  simp only [topR] at h
  split at h
  · rename_i r' e fr h1; cases h; exact ⟨e, fr, h1⟩
  · cases h
theorem AC.top {f : Nat} {args : List DV} {Q : DV → Hp → Nat → Prop} (h : AC P f args nil 0 Q) (w : World) (vs : Array Value) (ha : ARel (topR w) args vs) :
    Calls P f vs w fun e w' => ∃ v v' H' c' ρ', e = .returned v' ∧ Q v H' c' ∧ VRel ρ' v v' ∧ Below w.heap.size w w' := by
  refine (h.2 (topR w) w vs (topR_rep w) (fun _ _ => rfl) ha).mono ?_
  rintro e w' ⟨v, v', H', c', ρ', e1, q, d⟩
  exact ⟨v, v', H', c', ρ', e1, q, d.val, d.ext.below (fun id b hb => by cases hb)⟩
theorem PC.of_calls {f : Nat} {args : List DV} {r : DV} (hc : Callable P f = true) (na : DV.nlL args = true) (nr : r.nl = true)
    (h : ∀ (ρ : Ren) (w : World) (vs : Array Value), (∀ b r, ρ.fz b = some r → ∃ e fr, w.heap[b]? = some (.cells r e fr)) → ARel ρ args vs →
      Calls P f vs w fun e w' => ∃ v', e = .returned v' ∧ (∀ ρ' : Ren, VRel ρ' r v') ∧ Below w.heap.size w w') : PC P f args r := by
  refine ⟨na, nr, hc, fun ρ w vs hR hf hA => ?_⟩
  refine (h ρ w vs hR.frz hA).mono ?_
  rintro e w' ⟨v', rfl, hv, b1, b2, b3, b4, b5⟩
  refine ⟨r, v', nil, 0, ρ, rfl, rfl, hv ρ, ⟨fun id b h => (by cases h), fun i j bi bj ti tj h => (by cases h), fun b r hb => ?_, fun id b t h => (by cases h)⟩, hf, Nat.le_refl _, fun id hid h => absurd rfl h, fun _ _ => rfl,
    ⟨Ren.le_refl _, b1, b2, b3, b4, fun k hk _ => b5 k hk, fun id b t h1 => (by cases h1), fun k r h => .inl h⟩⟩
  obtain ⟨e, fr, h1⟩ := hR.frz b r hb
  exact ⟨e, fr, by rw [b5 b (hR.flt hb)]; exact h1⟩
theorem GL.cells {H H' : Hp} {ds : List DV} (h : ∀ j, H' j = none ∨ ∃ bj bj', H j = some bj ∧ H' j = some bj' ∧ bj'.unit = bj.unit ∧ bj'.own = bj.own ∧ bj'.cells.length ≤ bj.cells.length ∧
      ∀ (i : Nat) d', bj'.cells[i]? = some d' → ∃ d, bj.cells[i]? = some d ∧ (d' = d ∨ (d'.one = true ∧ ∀ ρ v, VRel ρ d v → VRel ρ d' v))) : GL H ds H' ds := by
  have hd : ∀ id, H' id ≠ none → H id ≠ none := fun id hid => by
    rcases h id with h0 | ⟨bj, bj', h1, -⟩
    · exact absurd h0 hid
    · rw [h1]; simp
  refine ⟨hd, fun ρ w vs hR hA => ⟨ρ, rfl, ⟨fun j b hj => ?_, fun i j bi bj ti tj hi hj hij h1 h2 ho => ?_, hR.frz, fun j b t hj ho ht => ?_⟩, hA, ?_⟩⟩
  · rcases h j with h0 | ⟨bj, bj', h1, h2, h3, h4, h5, h6⟩
    · rw [h0] at hj; cases hj
    rw [h2] at hj; cases hj
    obtain ⟨t, ht, c, e, fr, g1, g2, g3, g4, g5, g6⟩ := hR.blk j bj h1
    refine ⟨t, ht, c, e, fr, g1, g2, by omega, g4.trans h3.symm, fun i v hv => ?_, fun ho => g6 (h4 ▸ ho)⟩
    obtain ⟨d, q2, q3⟩ := h6 i v hv
    obtain ⟨q1, v', q4, q5⟩ := g5 i d q2
    rcases q3 with rfl | ⟨q6, q7⟩
    · exact ⟨q1, v', q4, q5⟩
    · exact ⟨q6, v', q4, q7 ρ v' q5⟩
  · rcases h i with h0 | ⟨b1, b1', e1, e2, -, e4, -⟩
    · rw [h0] at hi; cases hi
    rcases h j with h0 | ⟨b2, b2', f1, f2, -⟩
    · rw [h0] at hj; cases hj
    rw [e2] at hi; cases hi
    exact hR.sep i j b1 b2 ti tj e1 f1 hij h1 h2 (e4 ▸ ho)
  · rcases h j with h0 | ⟨b1, b1', e1, e2, -, e4, -⟩
    · rw [h0] at hj; cases hj
    rw [e2] at hj; cases hj
    exact hR.dis j b1 t e1 (e4 ▸ ho) ht
  · refine ⟨Ren.le_refl _, rfl, rfl, rfl, Nat.le_refl _, fun _ _ _ => rfl, fun j b t hj ht => ?_, fun k r hk => .inl hk⟩
    rcases h j with h0 | ⟨b1, b1', e1, e2, -, e4, -⟩
    · rw [h0] at hj; cases hj
    rw [e2] at hj; cases hj
    exact .inr ⟨j, b1, t, e1, fun ho => e4 ▸ ho, ht, rfl⟩
theorem GL.frzS {H H' : Hp} {ds ds' : List DV} {id : Nat} {b : Blk} (hb : H id = some b) (ho : b.own = true) (h : ∀ j, H' j = none ∨ (j ≠ id ∧ H' j = H j)) (hd : FzL id b ds ds') : GL H ds H' ds' := by
  refine ⟨fun j hj => ?_, fun ρ w vs hR hA => ?_⟩
  · rcases h j with h0 | ⟨-, h0⟩
    · exact absurd h0 hj
    · rw [← h0]; exact hj
  · refine (GL.frz hb ho (FzH.less h fun j bj hj d hd => ?_) hd).2 ρ w vs hR hA
    rcases h j with h0 | ⟨-, h0⟩
    · rw [h0] at hj; cases hj
    · rw [h0] at hj
      obtain ⟨t, ht, c, e, fr, g1, g2, g3, g4, g5, g6⟩ := hR.blk j bj hj
      obtain ⟨i, hi⟩ := List.getElem?_of_mem hd
      exact (g5 i d hi).1
theorem GL.frzT {H H' : Hp} {ds ds' : List DV} {id : Nat} {b : Blk} (hb : H id = some b) (ho : b.own = true)
    (h : ∀ j, H' j = none ∨ (j ≠ id ∧ (H' j = H j ∨ ∃ bj bj', H j = some bj ∧ H' j = some bj' ∧ bj'.unit = bj.unit ∧ bj'.own = bj.own ∧ FzL id b bj.cells bj'.cells ∧ ∀ d ∈ bj'.cells, d.one = true))) (hd : FzL id b ds ds') : GL H ds H' ds' := by
  have h0 : ∀ j, H' j ≠ none → H j ≠ none := fun j hj => by
    rcases h j with h0 | ⟨-, h0 | ⟨bj, bj', e1, -⟩⟩
    · exact absurd h0 hj
    · rw [← h0]; exact hj
    · rw [e1]; simp
  refine ⟨h0, fun ρ w vs hR hA => ?_⟩
  refine (GL.frz hb ho (fun j => ?_) hd).2 ρ w vs hR hA
  rcases h j with h0 | ⟨hne, h0 | h0⟩
  · exact .inl h0
  · cases hj : H' j with
    | none => exact .inl rfl
    | some bj =>
      refine .inr ⟨hne, bj, bj, by rw [← h0, hj], rfl, rfl, rfl, FzL.refl _, fun d hd => ?_⟩
      rw [h0] at hj
      obtain ⟨t, ht, c, e, fr, g1, g2, g3, g4, g5, g6⟩ := hR.blk j bj hj
      obtain ⟨i, hi⟩ := List.getElem?_of_mem hd
      exact (g5 i d hi).1
  · exact .inr ⟨hne, h0⟩
theorem x_eval {K : DV → Hp → Nat → Prop} {o : Option (DV × Hp × Nat)} {v : DV} {H' : Hp} {c' : Nat} (h : o = some (v, H', c')) (k : K v H' c') : oeK K o := by rw [h]; exact k
theorem FzL.app {id : Nat} {b : Blk} : ∀ {a a' c c' : List DV}, FzL id b a a' → FzL id b c c' → FzL id b (a ++ c) (a' ++ c')
  | [], [], _, _, _, h => h
  | x :: a, y :: a', _, _, h, k => by cases h with | cons _ _ _ _ h1 h2 => exact .cons _ _ _ _ h1 (FzL.app h2 k)
theorem g_fin {Hb : Hp} {ci u n : Nat} {o : Option Nat} {pre suf : List DV} {xs ds : List DV} (h1 : ∀ d ∈ pre ++ suf, d.one = true) (hn : o = none → xs = []) (hs : ∀ i, o = some i → i ≠ ci ∧ Hb i = none)
    (hl : xs.length = n) (hu : ∀ x ∈ xs, x.cells.length = u) :
    GL (optH (Hb.upd ci ⟨0, true, pre ++ [todoV o n] ++ suf⟩) o ⟨u, true, cellsL xs⟩) ds (Hb.upd ci ⟨0, true, pre ++ [.lst xs] ++ suf⟩) ds := by
  cases o with
  | none =>
    obtain rfl := hn rfl
    refine GL.cells fun j => ?_
    simp only [optH]
    by_cases ej : j = ci
    · subst ej
      rw [h_same, h_same]
      refine .inr ⟨_, _, rfl, rfl, rfl, rfl, by simp, fun i d' hd => ?_⟩
      simp only [todoV] at hd ⊢
      rcases Nat.lt_trichotomy i pre.length with hi | hi | hi
      · refine ⟨d', ?_, .inl rfl⟩
        rw [List.append_assoc, List.getElem?_append_left hi] at hd ⊢; exact hd
      · subst hi
        rw [List.append_assoc, List.getElem?_append_right (Nat.le_refl _)] at hd ⊢
        simp at hd ⊢
        subst hd
        exact .inr ⟨rfl, fun ρ v h => h.snil_lst⟩
      · refine ⟨d', ?_, .inl rfl⟩
        rw [List.append_assoc, List.getElem?_append_right (by omega)] at hd ⊢
        obtain ⟨m, hm⟩ : ∃ m, i - pre.length = m + 1 := ⟨i - pre.length - 1, by omega⟩
        rw [hm] at hd ⊢
        exact hd
    · rw [h_ne ej, h_ne ej]
      cases hj : Hb j with
      | none => exact .inl rfl
      | some b => exact .inr ⟨b, b, rfl, rfl, rfl, rfl, Nat.le_refl _, fun i d' hd => ⟨d', hd, .inl rfl⟩⟩
  | some id =>
    obtain ⟨e1, e2⟩ := hs id rfl
    simp only [optH, todoV]
    refine GL.frzT (id := id) (b := ⟨u, true, cellsL xs⟩) h_same rfl (fun j => ?_) (FzL.refl ds)
    by_cases ej : j = ci
    · subst ej
      refine .inr ⟨Ne.symm e1, .inr ⟨⟨0, true, pre ++ [.slc id 0 n] ++ suf⟩, ⟨0, true, pre ++ [.lst xs] ++ suf⟩, by rw [h_ne (Ne.symm e1), h_same], h_same, rfl, rfl, ?_, fun d hd => ?_⟩⟩
      · exact FzL.app (FzL.app (FzL.refl _) (.cons _ _ _ _ (fz_slc (blk := ⟨u, true, cellsL xs⟩) hl hu ⟨[], by simp⟩) .nil)) (FzL.refl _)
      · simp only [List.append_assoc, List.mem_append, List.mem_singleton] at hd
        rcases hd with hd | rfl | hd
        · exact h1 d (List.mem_append_left _ hd)
        · rfl
        · exact h1 d (List.mem_append_right _ hd)
    · rw [h_ne ej]
      by_cases ei : j = id
      · subst ei; exact .inl e2
      · exact .inr ⟨ei, .inl (by rw [h_ne ei, h_ne ej])⟩
theorem g_one {H : Hp} {a k u u' n : Nat} {pre suf xs r junk : List DV} (hk : H k = some ⟨0, true, pre ++ [.slc a 0 n] ++ suf⟩) (ha : H a = some ⟨u, true, cellsL xs ++ junk⟩)
    (h1 : ∀ d ∈ pre ++ suf, d.one = true) (hl : xs.length = n) (hu : ∀ x ∈ xs, x.cells.length = u') (hak : ¬ a = k) :
    GL H (.agg (pre ++ [.slc a 0 n] ++ suf) :: r) ((H.del a).upd k ⟨0, true, pre ++ [.lst xs] ++ suf⟩) (.agg (pre ++ [.lst xs] ++ suf) :: r) := by
  have hz : FzL a ⟨u, true, cellsL xs ++ junk⟩ (pre ++ [.slc a 0 n] ++ suf) (pre ++ [.lst xs] ++ suf) :=
    FzL.app (FzL.app (FzL.refl _) (.cons _ _ _ _ (fz_slc (blk := ⟨u, true, cellsL xs ++ junk⟩) hl hu ⟨junk, rfl⟩) .nil)) (FzL.refl _)
  refine GL.frzT (id := a) ha rfl (fun j => ?_) (.cons _ _ _ _ (.agg _ _ hz) (FzL.refl _))
  by_cases ej : j = k
  · subst ej
    refine .inr ⟨Ne.symm hak, .inr ⟨_, _, hk, h_same, rfl, rfl, hz, fun d hd => ?_⟩⟩
    simp only [List.append_assoc, List.mem_append, List.mem_singleton] at hd
    rcases hd with hd | rfl | hd
    · exact h1 d (List.mem_append_left _ hd)
    · rfl
    · exact h1 d (List.mem_append_right _ hd)
  · rw [h_ne ej]
    by_cases ea : j = a
    · subst ea; exact .inl h_dsame
    · exact .inr ⟨ea, .inl (h_dne ea)⟩
theorem g_cell {H : Hp} {a k u u' n : Nat} {pre suf xs ds junk : List DV} (hk : H k = some ⟨0, true, pre ++ [.slc a 0 n] ++ suf⟩) (ha : H a = some ⟨u, true, cellsL xs ++ junk⟩)
    (h1 : ∀ d ∈ pre ++ suf, d.one = true) (hl : xs.length = n) (hu : ∀ x ∈ xs, x.cells.length = u') (hak : ¬ a = k) :
    GL H ds ((H.del a).upd k ⟨0, true, pre ++ [.lst xs] ++ suf⟩) ds := by
  have hz : FzL a ⟨u, true, cellsL xs ++ junk⟩ (pre ++ [.slc a 0 n] ++ suf) (pre ++ [.lst xs] ++ suf) :=
    FzL.app (FzL.app (FzL.refl _) (.cons _ _ _ _ (fz_slc (blk := ⟨u, true, cellsL xs ++ junk⟩) hl hu ⟨junk, rfl⟩) .nil)) (FzL.refl _)
  refine GL.frzT (id := a) ha rfl (fun j => ?_) (FzL.refl ds)
  by_cases ej : j = k
  · subst ej
    refine .inr ⟨Ne.symm hak, .inr ⟨_, _, hk, h_same, rfl, rfl, hz, fun d hd => ?_⟩⟩
    simp only [List.append_assoc, List.mem_append, List.mem_singleton] at hd
    rcases hd with hd | rfl | hd
    · exact h1 d (List.mem_append_left _ hd)
    · rfl
    · exact h1 d (List.mem_append_right _ hd)
  · rw [h_ne ej]
    by_cases ea : j = a
    · subst ea; exact .inl h_dsame
    · exact .inr ⟨ea, .inl (h_dne ea)⟩
theorem mid_get {α : Type} {pre suf : List α} {x y : α} {i : Nat} {d : α} (h : (pre ++ [y] ++ suf)[i]? = some d) : (pre ++ [x] ++ suf)[i]? = some d ∨ (d = y ∧ (pre ++ [x] ++ suf)[i]? = some x) := by
  rw [List.append_assoc] at h ⊢
  rcases Nat.lt_trichotomy i pre.length with hi | hi | hi
  · rw [List.getElem?_append_left hi] at h ⊢; exact .inl h
  · subst hi
    rw [List.getElem?_append_right (Nat.le_refl _)] at h ⊢
    simp at h ⊢
    exact .inr h.symm
  · rw [List.getElem?_append_right (by omega)] at h ⊢
    obtain ⟨m, hm⟩ : ∃ m, i - pre.length = m + 1 := ⟨i - pre.length - 1, by omega⟩
    rw [hm] at h ⊢
    exact .inl h
theorem g_nil {H : Hp} {k : Nat} {pre suf r : List DV} (hk : H k = some ⟨0, true, pre ++ [.snil] ++ suf⟩) :
    GL H (.agg (pre ++ [.snil] ++ suf) :: r) (H.upd k ⟨0, true, pre ++ [.lst []] ++ suf⟩) (.agg (pre ++ [.lst []] ++ suf) :: r) := by
  refine GL.trans (GL.cells (H' := H.upd k ⟨0, true, pre ++ [.lst []] ++ suf⟩) fun j => ?_) (GL.view fun ρ vs hA => ?_)
  · by_cases ej : j = k
    · subst ej
      rw [h_same]
      refine .inr ⟨_, _, hk, rfl, rfl, rfl, by simp, fun i d' hd => ?_⟩
      rcases mid_get (x := DV.snil) hd with h | ⟨rfl, h⟩
      · exact ⟨d', h, .inl rfl⟩
      · exact ⟨_, h, .inr ⟨rfl, fun ρ v h => h.snil_lst⟩⟩
    · rw [h_ne ej]
      cases hj : H j with
      | none => exact .inl rfl
      | some b => exact .inr ⟨b, b, rfl, rfl, rfl, rfl, Nat.le_refl _, fun i d' hd => ⟨d', hd, .inl rfl⟩⟩
  · refine ⟨hA.1, fun i x y hx hy => ?_⟩
    match i with
    | 0 =>
      cases hx
      obtain ⟨b, rfl, hB⟩ := (hA.2 0 _ y rfl hy).agg_inv
      refine .mkAgg ⟨by rw [← hB.1]; simp, fun i x y hx hy => ?_⟩
      rcases mid_get (x := DV.snil) hx with h | ⟨rfl, h⟩
      · exact hB.2 i x y h hy
      · exact (hB.2 i _ y h hy).snil_lst
    | i + 1 => exact hA.2 (i + 1) x y hx hy
end Go.Sym
set_option linter.unusedVariables false
set_option linter.unusedSimpArgs false
namespace Go.Pb
open Go.Sym
abbrev I64 (n : Int) : DV := .int .i64 n
abbrev ints (l : List Int) : DV := .lst (l.map I64)
abbrev strs (l : List (List UInt8)) : DV := .lst (l.map DV.str)
structure Ins where
  op : Int
  A : Int
deriving DecidableEq
structure Ent where
  mode : Int
  trigger : Int
  index : Int
  pos : Int
deriving DecidableEq
structure Prg where
  instrs : List Ins
  strings : List (List UInt8)
  entries : List Ent
  prios : List Int
  vars : List Int
  timers : Int
  events : Int
deriving DecidableEq
abbrev Ins.v (i : Ins) : DV := .agg [I64 i.op, I64 i.A]
abbrev Ent.v (e : Ent) : DV := .agg [I64 e.mode, I64 e.trigger, I64 e.index, I64 e.pos]
abbrev inssV (l : List Ins) : DV := .lst (l.map Ins.v)
abbrev entsV (l : List Ent) : DV := .lst (l.map Ent.v)
abbrev Prg.cs (c : Prg) : List DV := [inssV c.instrs, strs c.strings, entsV c.entries, ints c.prios, ints c.vars, I64 c.timers, I64 c.events]
abbrev Prg.v (c : Prg) : DV := .agg c.cs
theorem nlL_ints (l : List Int) : DV.nlL (l.map I64) = true := nlL_map (fun _ => rfl) l
theorem nlL_strs (l : List (List UInt8)) : DV.nlL (l.map DV.str) = true := nlL_map (fun _ => rfl) l
theorem nlL_instrs (l : List Ins) : DV.nlL (l.map Ins.v) = true := nlL_map (fun _ => rfl) l
theorem nlL_entries (l : List Ent) : DV.nlL (l.map Ent.v) = true := nlL_map (fun _ => rfl) l
def inM (n lo hi : Int) : Bool := decide (lo ≤ n) && decide (n ≤ hi)
def effM (op : Int) : Int × Int × Int :=
  if op = 1 then (0, 1, 1) else if op = 2 then (0, 1, 2) else if op = 3 then (1, 0, 2) else if op = 4 then (0, 1, 3) else if op = 5 then (0, 1, 4) else if op = 6 then (0, 1, 5)
  else if op = 7 then (0, 1, 0) else if op = 8 then (0, 1, 0) else if op = 9 then (1, 1, 0) else if op = 10 then (1, 1, 0) else if op = 11 then (2, 1, 6) else if op = 12 then (0, 0, 7)
  else if op = 13 then (1, 0, 7) else if op = 14 then (1, 1, 7) else if op = 15 then (1, 0, 0) else if op = 16 then (0, 0, 8) else if op = 17 then (0, 0, 8) else if op = 18 then (0, 0, 8)
  else if op = 19 then (1, 0, 9) else if op = 20 then (2, 0, 9) else if op = 21 then (1, 0, 5) else if op = 22 then (0, 0, 5) else if op = 23 then (0, 0, 4) else if op = 24 then (0, 0, 4)
  else if op = 25 then (0, 0, 10) else if op = 26 then (0, 0, 9) else if op = 27 then (0, 0, 9) else if op = 28 then (0, 0, 9) else if op = 29 then (1, 0, 11) else if op = 30 then (0, 0, 0) else if op = 31 then (0, 0, 0)
  else (0, 0, -1)
theorem eff_mem (op : Int) : effM op ∈ [((0 : Int), (1 : Int), (1 : Int)), (0, 1, 2), (1, 0, 2), (0, 1, 3), (0, 1, 4), (0, 1, 5), (0, 1, 0), (1, 1, 0), (2, 1, 6), (0, 0, 7), (1, 0, 7), (1, 1, 7), (1, 0, 0), (0, 0, 8), (1, 0, 9), (2, 0, 9), (1, 0, 5), (0, 0, 5), (0, 0, 4), (0, 0, 10), (0, 0, 9), (1, 0, 11), (0, 0, 0), (0, 0, -1)] := by
  by_cases h1 : op = 1
  · subst h1; decide
  by_cases h2 : op = 2
  · subst h2; decide
  by_cases h3 : op = 3
  · subst h3; decide
  by_cases h4 : op = 4
  · subst h4; decide
  by_cases h5 : op = 5
  · subst h5; decide
  by_cases h6 : op = 6
  · subst h6; decide
  by_cases h7 : op = 7
  · subst h7; decide
  by_cases h8 : op = 8
  · subst h8; decide
  by_cases h9 : op = 9
  · subst h9; decide
  by_cases h10 : op = 10
  · subst h10; decide
  by_cases h11 : op = 11
  · subst h11; decide
  by_cases h12 : op = 12
  · subst h12; decide
  by_cases h13 : op = 13
  · subst h13; decide
  by_cases h14 : op = 14
  · subst h14; decide
  by_cases h15 : op = 15
  · subst h15; decide
  by_cases h16 : op = 16
  · subst h16; decide
  by_cases h17 : op = 17
  · subst h17; decide
  by_cases h18 : op = 18
  · subst h18; decide
  by_cases h19 : op = 19
  · subst h19; decide
  by_cases h20 : op = 20
  · subst h20; decide
  by_cases h21 : op = 21
  · subst h21; decide
  by_cases h22 : op = 22
  · subst h22; decide
  by_cases h23 : op = 23
  · subst h23; decide
  by_cases h24 : op = 24
  · subst h24; decide
  by_cases h25 : op = 25
  · subst h25; decide
  by_cases h26 : op = 26
  · subst h26; decide
  by_cases h27 : op = 27
  · subst h27; decide
  by_cases h28 : op = 28
  · subst h28; decide
  by_cases h29 : op = 29
  · subst h29; decide
  by_cases h30 : op = 30
  · subst h30; decide
  by_cases h31 : op = 31
  · subst h31; decide
  have e : effM op = (0, 0, -1) := by simp [effM, *]
  rw [e]; decide
theorem eff_bd (op : Int) : 0 ≤ (effM op).1 ∧ (effM op).1 ≤ 2 ∧ 0 ≤ (effM op).2.1 ∧ (effM op).2.1 ≤ 1 := by
  have h : ∀ x ∈ [((0 : Int), (1 : Int), (1 : Int)), (0, 1, 2), (1, 0, 2), (0, 1, 3), (0, 1, 4), (0, 1, 5), (0, 1, 0), (1, 1, 0), (2, 1, 6), (0, 0, 7), (1, 0, 7), (1, 1, 7), (1, 0, 0), (0, 0, 8), (1, 0, 9), (2, 0, 9), (1, 0, 5), (0, 0, 5), (0, 0, 4), (0, 0, 10), (0, 0, 9), (1, 0, 11), (0, 0, 0), (0, 0, -1)], 0 ≤ x.1 ∧ x.1 ≤ 2 ∧ 0 ≤ x.2.1 ∧ x.2.1 ≤ 1 := by decide
  exact h _ (eff_mem op)
def kindM (c : Prg) (k a : Int) : Bool :=
  if k = 0 then decide (a = 0) else if k = 1 then inM a (-2147483647) 2147483647 else if k = 2 then inM a 0 (c.vars.length - 1) else if k = 3 then inM a 0 63 else if k = 9 then inM a 0 63
  else if k = 4 then inM a 0 (c.prios.length - 1) else if k = 5 then inM a 0 (c.timers - 1) else if k = 6 then inM a 12 24 else if k = 7 then true else if k = 8 then inM a 0 31
  else if k = 10 then inM a 0 (c.events - 1) else if k = 11 then inM a 0 (c.strings.length - 1) else false
def numberM (c : Prg) (i : Ins) : Bool := kindM c (effM i.op).2.2 i.A
def entryM (c : Prg) (e : Ent) : Bool :=
  inM e.mode 0 (c.prios.length - 1) && (if e.trigger = 1 ∨ e.trigger = 2 then decide (e.index = 0) else if e.trigger = 3 ∨ e.trigger = 4 then inM e.index 0 63
    else if e.trigger = 5 then inM e.index 0 (c.timers - 1) else if e.trigger = 6 then inM e.index 0 (c.events - 1) else false)
def printB (b : UInt8) : Bool := decide (32 ≤ b.toNat) && decide (b.toNat ≤ 126)
def printM (s : List UInt8) : Bool := s.all printB && decide (s.length ≤ 32)
def partsM (c : Prg) : Bool :=
  c.strings.all printM && c.prios.all (fun n => inM n 0 99) && c.vars.all (fun n => inM n (-2147483647) 2147483647) && c.entries.all (entryM c) && c.instrs.all (numberM c)
def jumpI (c : Prg) (i : Ins) : Bool := !(decide ((effM i.op).2.2 = 7) && !inM i.A 0 (c.instrs.length - 1))
def jumpE (c : Prg) (e : Ent) : Bool := inM e.pos 0 (c.instrs.length - 1)
def jumpsM (c : Prg) : Bool := c.instrs.all (jumpI c) && c.entries.all (jumpE c)
def lessM (a b : Ent) : Bool := if a.mode ≠ b.mode then decide (a.mode < b.mode) else if a.trigger ≠ b.trigger then decide (a.trigger < b.trigger) else decide (a.index < b.index)
def chainM : List Ent → Bool
  | a :: b :: r => lessM a b && chainM (b :: r)
  | _ => true
def limitsM (c : Prg) : Bool :=
  decide (c.instrs.length ≤ 4000) && decide (c.strings.length ≤ 200) && decide (c.entries.length ≤ 512) && decide (c.prios.length ≤ 16) && decide (c.vars.length ≤ 128) && inM c.timers 0 128 && inM c.events 0 128
structure Lim (c : Prg) : Prop where
  p : IntKind.i64.wrap ((c.prios.length : Int) - 1) = (c.prios.length : Int) - 1
  v : IntKind.i64.wrap ((c.vars.length : Int) - 1) = (c.vars.length : Int) - 1
  s : IntKind.i64.wrap ((c.strings.length : Int) - 1) = (c.strings.length : Int) - 1
  i : IntKind.i64.wrap ((c.instrs.length : Int) - 1) = (c.instrs.length : Int) - 1
  t : IntKind.i64.wrap (c.timers - 1) = c.timers - 1
  e : IntKind.i64.wrap (c.events - 1) = c.events - 1
  li : c.instrs.length ≤ 4000
  ls : c.strings.length ≤ 200
  le : c.entries.length ≤ 512
  lp : c.prios.length ≤ 16
  lv : c.vars.length ≤ 128
theorem Lim.of {c : Prg} (h : limitsM c = true) : Lim c := by
  simp only [limitsM, inM, Bool.and_eq_true, decide_eq_true_eq] at h
  obtain ⟨⟨⟨⟨⟨⟨h1, h2⟩, h3⟩, h4⟩, h5⟩, h6, h7⟩, h8, h9⟩ := h
  constructor <;> first | assumption | exact w64 (by omega) (by omega)
abbrev Stp.v (p : Nat × Int) : DV := .agg [I64 (p.1 : Int), I64 p.2]
theorem nlL_stp (l : List (Nat × Int)) : DV.nlL (l.map Stp.v) = true := nlL_map (fun _ => rfl) l
theorem ints_unit (l : List Int) : ∀ x ∈ l.map I64, x.cells.length = 1 := by
  intro x hx; obtain ⟨y, -, rfl⟩ := List.mem_map.1 hx; rfl
theorem cells_ints (l : List Int) : cellsL (l.map I64) = l.map I64 := cellsL_map1 (fun _ => rfl) l
def afterM (i : Ins) (p : Nat) (h : Int) : List (Nat × Int) :=
  if i.op = 31 then [] else if i.op = 12 then [(i.A.toNat, h)] else if i.op = 13 then [(p + 1, h - 1), (i.A.toNat, h - 1)] else if i.op = 14 then [(p + 1, h), (i.A.toNat, h - 1)]
  else [(p + 1, h - (effM i.op).1 + (effM i.op).2.1)]
def hgtR (c : Prg) : Nat → List Int → List (Nat × Int) → Option (Option (List Int))
  | 0, _, _ => none
  | n + 1, h, [] => some (some h)
  | n + 1, h, (p, x) :: st =>
    if h.length ≤ p ∨ x > 48 then some none
    else if 0 ≤ h.getD p 0 then (if h.getD p 0 ≠ x then some none else hgtR c n h st)
    else if (effM (c.instrs.getD p ⟨0, 0⟩).op).1 > x ∨ ((c.instrs.getD p ⟨0, 0⟩).op = 31 ∧ x ≠ 0) then some none
    else hgtR c n (h.set p x) ((afterM (c.instrs.getD p ⟨0, 0⟩) p x).reverse ++ st)
def entP (e : Ent) : Nat × Int := (e.pos.toNat, 0)
def entR (c : Prg) : List (Nat × Int) := (c.entries.map entP).reverse
def hgtV : Option (List Int) → DV
  | none => .tup [.lst [], .bool false]
  | some h => .tup [ints h, .bool true]
def fillM (n k : Nat) : List Int := List.replicate k (-1) ++ List.replicate (n - k) 0
theorem fillM_succ {n k : Nat} (h : k < n) : fillM n (k + 1) = (fillM n k).set k (-1) := by
  unfold fillM
  rw [List.set_append_right _ _ (by simp)]
  simp only [List.length_replicate, Nat.sub_self]
  obtain ⟨m, hm⟩ : ∃ m, n - k = m + 1 := ⟨n - k - 1, by omega⟩
  have h2 : n - (k + 1) = m := by omega
  rw [hm, h2, List.replicate_succ (n := m), List.set_cons_zero, List.replicate_succ' (n := k)]
  simp
theorem afterM_len (i : Ins) (p : Nat) (h : Int) : (afterM i p h).length ≤ 2 := by
  unfold afterM; split <;> (try split) <;> (try split) <;> (try split) <;> simp
def baseH (c : Prg) (h : List Int) : Hp := (Sym.nil.upd 0 ⟨0, true, c.cs⟩).upd 1 ⟨1, true, h.map I64⟩
theorem afterM_bd {i : Ins} {p : Nat} {x : Int} {len : Nat} (hl : len ≤ 4000) (hp : p < len) (hA : i.op = 12 ∨ i.op = 13 ∨ i.op = 14 → 0 ≤ i.A ∧ i.A ≤ (len : Int) - 1) (h0 : 0 ≤ x) (h1 : x ≤ 48) (he : (effM i.op).1 ≤ x) :
    ∀ s ∈ afterM i p x, s.1 ≤ 4000 ∧ 0 ≤ s.2 ∧ s.2 ≤ 50 := by
  obtain ⟨b1, b2, b3, b4⟩ := eff_bd i.op
  intro s hs
  unfold afterM at hs
  split at hs
  · cases hs
  split at hs
  · rename_i e
    have := hA (.inl e)
    simp only [List.mem_singleton] at hs; subst hs
    simp only; omega
  split at hs
  · rename_i e
    have := hA (.inr (.inl e))
    have e1 : (effM i.op).1 = 1 := by rw [e]; decide
    simp only [List.mem_cons, List.not_mem_nil, or_false] at hs
    rcases hs with rfl | rfl <;> simp only <;> omega
  split at hs
  · rename_i e
    have := hA (.inr (.inr e))
    have e1 : (effM i.op).1 = 1 := by rw [e]; decide
    simp only [List.mem_cons, List.not_mem_nil, or_false] at hs
    rcases hs with rfl | rfl <;> simp only <;> omega
  · simp only [List.mem_singleton] at hs; subst hs
    simp only; omega
theorem jump_bd {c : Prg} (hj : jumpsM c = true) : ∀ i ∈ c.instrs, i.op = 12 ∨ i.op = 13 ∨ i.op = 14 → 0 ≤ i.A ∧ i.A ≤ (c.instrs.length : Int) - 1 := by
  intro i hi hop
  simp only [jumpsM, Bool.and_eq_true, List.all_eq_true] at hj
  have := hj.1 i hi
  have hk : (effM i.op).2.2 = 7 := by rcases hop with e | e | e <;> rw [e] <;> decide
  simpa [jumpI, hk, inM] using this
theorem ent_bd {c : Prg} (hj : jumpsM c = true) : ∀ e ∈ c.entries, 0 ≤ e.pos ∧ e.pos ≤ (c.instrs.length : Int) - 1 := by
  intro e he
  simp only [jumpsM, Bool.and_eq_true, List.all_eq_true] at hj
  have := hj.2 e he
  simpa [jumpE, inM] using this
def negs (h : List Int) : Nat := h.countP fun x => decide (x < 0)
theorem hgtR_some (c : Prg) (hl : c.instrs.length ≤ 4000) (hj : jumpsM c = true) : ∀ (n : Nat) (h : List Int) (st : List (Nat × Int)), h.length = c.instrs.length → (∀ s ∈ st, s.1 ≤ 4000 ∧ 0 ≤ s.2 ∧ s.2 ≤ 50) → 3 * negs h + st.length < n → ∃ r, hgtR c n h st = some r
  | 0, h, st, _, _, hlt => by omega
  | n + 1, h, [], _, _, _ => ⟨some h, rfl⟩
  | n + 1, h, (p, x) :: st, hlen, hst, hlt => by
    simp only [List.length_cons] at hlt
    have hst' : ∀ s ∈ st, s.1 ≤ 4000 ∧ 0 ≤ s.2 ∧ s.2 ≤ 50 := fun s hs => hst s (List.mem_cons_of_mem _ hs)
    obtain ⟨s1, s2, s3⟩ := hst (p, x) List.mem_cons_self
    simp only at s1 s2 s3
    simp only [hgtR]
    split
    · exact ⟨none, rfl⟩
    · rename_i h1
      have hp : p < h.length := by omega
      have hpi : p < c.instrs.length := by omega
      have hgi : c.instrs.getD p ⟨0, 0⟩ = c.instrs[p] := by simp [List.getD, hpi]
      have hgh : h.getD p 0 = h[p] := by simp [List.getD, hp]
      rw [hgi, hgh]
      split
      · split
        · exact ⟨none, rfl⟩
        · exact hgtR_some c hl hj n h st hlen hst' (by omega)
      · rename_i h2
        split
        · exact ⟨none, rfl⟩
        · rename_i h3
          have hbd := afterM_bd (x := x) hl hpi (jump_bd hj _ (List.getElem_mem hpi)) s2 (by omega) (by omega)
          have hal := afterM_len c.instrs[p] p x
          refine hgtR_some c hl hj n (h.set p x) _ (by simpa using hlen) (fun s hs => ?_) ?_
          · rw [List.mem_append, List.mem_reverse] at hs
            rcases hs with hs | hs
            · exact hbd s hs
            · exact hst' s hs
          · have hneg : negs (h.set p x) + 1 = negs h := by
              unfold negs
              rw [List.countP_set hp]
              have e1 : decide (h[p] < 0) = true := by simp; omega
              have e2 : decide (x < 0) = false := by simp; omega
              simp only [e1, e2, if_true, Bool.false_eq_true, if_false]
              have : 0 < h.countP fun x => decide (x < 0) := List.countP_pos_iff.2 ⟨h[p], List.getElem_mem hp, e1⟩
              omega
            simp only [List.length_append, List.length_reverse]
            omega
def fuelR (c : Prg) : Nat := 3 * c.instrs.length + c.entries.length + 1
def hR (c : Prg) : Option (List Int) := (hgtR c (fuelR c) (List.replicate c.instrs.length (-1)) (entR c)).getD none
theorem hR_eq {c : Prg} (hl : c.instrs.length ≤ 4000) (hj : jumpsM c = true) : hgtR c (fuelR c) (List.replicate c.instrs.length (-1)) (entR c) = some (hR c) := by
  obtain ⟨r, hr⟩ := hgtR_some c hl hj (fuelR c) (List.replicate c.instrs.length (-1)) (entR c) (by simp) (by
    intro s hs
    simp only [entR, List.mem_reverse, List.mem_map] at hs
    obtain ⟨e, h1, rfl⟩ := hs
    have := ent_bd hj e h1
    simp only [entP]; omega) (by simp [negs, fuelR, entR, List.countP_replicate])
  rw [hR, hr]; rfl
def validM (c : Prg) : Int := if limitsM c = false then 9 else if partsM c = false then 51 else if jumpsM c = false then 54 else if chainM c.entries = false then 66 else if (hR c).isNone then 53 else 0
theorem chain_take {l : List Ent} : ∀ {k : Nat} {a b : Ent}, 1 ≤ k → l[k - 1]? = some a → l[k]? = some b → chainM (l.take k) = true → chainM (l.take (k + 1)) = lessM a b := by
  induction l with
  | nil => intro k a b _ h; simp at h
  | cons x l ih =>
    intro k a b hk ha hb hc
    obtain ⟨k, rfl⟩ : ∃ j, k = j + 1 := ⟨k - 1, by omega⟩
    rw [List.take_succ_cons] at hc ⊢
    simp only [Nat.add_sub_cancel, List.getElem?_cons_succ] at ha hb
    cases k with
    | zero =>
      simp only [List.getElem?_cons_zero, Option.some.injEq] at ha
      subst ha
      cases l with
      | nil => simp at hb
      | cons y l => simp at hb; subst hb; simp [chainM]
    | succ k =>
      cases l with
      | nil => simp at hb
      | cons y l =>
        simp only [List.getElem?_cons_succ] at ha
        have hb' : (y :: l)[k + 1]? = some b := hb
        rw [List.take_succ_cons] at hc ⊢
        simp only [chainM, Bool.and_eq_true] at hc ⊢
        have := ih (k := k + 1) (a := a) (b := b) (by omega) (by simpa using ha) hb' (by rw [List.take_succ_cons]; exact hc.2)
        rw [List.take_succ_cons] at this
        rw [this, hc.1, Bool.true_and]
theorem chain_fail {l : List Ent} : ∀ {k : Nat} {a b : Ent}, 1 ≤ k → l[k - 1]? = some a → l[k]? = some b → lessM a b = false → chainM l = false := by
  induction l with
  | nil => intro k a b _ h; simp at h
  | cons x l ih =>
    intro k a b hk ha hb hc
    obtain ⟨k, rfl⟩ : ∃ j, k = j + 1 := ⟨k - 1, by omega⟩
    simp only [Nat.add_sub_cancel, List.getElem?_cons_succ] at ha hb
    cases l with
    | nil => simp at hb
    | cons y l =>
      simp only [chainM]
      cases k with
      | zero => simp at ha hb; subst ha hb; rw [hc, Bool.false_and]
      | succ k =>
        rw [ih (k := k + 1) (by omega) (by simpa using ha) hb hc, Bool.and_false]
def idxM {α : Type} (g : α → Bool) : List α → Nat → Int
  | [], _ => -1
  | x :: r, k => if g x then (k : Int) else idxM g r (k + 1)
theorem idxM_pos {α : Type} (g : α → Bool) : ∀ (l : List α) (k : Nat), (0 ≤ idxM g l k) ↔ l.any g = true
  | [], k => by simp [idxM]
  | x :: r, k => by
    simp only [idxM, List.any_cons, Bool.or_eq_true]
    by_cases hg : g x = true
    · simp [hg]
    · rw [if_neg hg, idxM_pos g r (k + 1)]; simp [hg]
theorem idxM_any {α : Type} (g : α → Bool) (l : List α) (k : Nat) : decide (idxM g l k ≥ 0) = l.any g := by
  rw [Bool.eq_iff_iff, decide_eq_true_iff]
  exact idxM_pos g l k
theorem idxM_step {α : Type} {g : α → Bool} {l : List α} {k : Nat} {x : α} (h : l[k]? = some x) : idxM g (l.drop k) k = if g x then (k : Int) else idxM g (l.drop (k + 1)) (k + 1) := by
  have hk : k < l.length := (List.getElem?_eq_some_iff.1 h).1
  rw [List.drop_eq_getElem_cons hk]
  rw [List.getElem?_eq_getElem hk] at h
  cases h
  rfl
theorem idxM_end {α : Type} {g : α → Bool} {l : List α} {k : Nat} (h : l.length ≤ k) : idxM g (l.drop k) k = -1 := by
  rw [List.drop_eq_nil_of_le h]; rfl
def isJ (op : Int) : Bool := decide (op = 12) || (decide (op = 13) || decide (op = 14))
def spanM (c : Prg) (op : Int) : Int × Int :=
  if op = 1 then (-2147483647, 2147483647) else if op = 2 ∨ op = 3 then (0, c.vars.length - 1) else if op = 4 then (0, 63) else if op = 5 ∨ op = 23 ∨ op = 24 then (0, c.prios.length - 1)
  else if op = 6 ∨ op = 21 ∨ op = 22 then (0, c.timers - 1) else if op = 11 then (12, 24) else if op = 16 ∨ op = 17 ∨ op = 18 then (0, 31)
  else if op = 19 ∨ op = 20 ∨ op = 26 ∨ op = 27 ∨ op = 28 then (0, 63) else if op = 25 then (0, c.events - 1) else if op = 29 then (0, c.strings.length - 1)
  else if op = 7 ∨ op = 8 ∨ op = 9 ∨ op = 10 ∨ op = 15 ∨ op = 30 ∨ op = 31 then (0, 0) else (1, 0)
theorem eff0 {op : Int} (h1 : ¬ op = 1) (h2 : ¬ op = 2) (h3 : ¬ op = 3) (h4 : ¬ op = 4) (h5 : ¬ op = 5) (h6 : ¬ op = 6) (h7 : ¬ op = 7) (h8 : ¬ op = 8) (h9 : ¬ op = 9) (h10 : ¬ op = 10) (h11 : ¬ op = 11) (h13 : ¬ op = 13) (h14 : ¬ op = 14) (h15 : ¬ op = 15) (h19 : ¬ op = 19) (h20 : ¬ op = 20) (h21 : ¬ op = 21) (h29 : ¬ op = 29) : (effM op).1 = 0 ∧ (effM op).2.1 = 0 := by
  by_cases h12 : op = 12
  · subst h12; decide
  by_cases h16 : op = 16
  · subst h16; decide
  by_cases h17 : op = 17
  · subst h17; decide
  by_cases h18 : op = 18
  · subst h18; decide
  by_cases h22 : op = 22
  · subst h22; decide
  by_cases h23 : op = 23
  · subst h23; decide
  by_cases h24 : op = 24
  · subst h24; decide
  by_cases h25 : op = 25
  · subst h25; decide
  by_cases h26 : op = 26
  · subst h26; decide
  by_cases h27 : op = 27
  · subst h27; decide
  by_cases h28 : op = 28
  · subst h28; decide
  by_cases h30 : op = 30
  · subst h30; decide
  by_cases h31 : op = 31
  · subst h31; decide
  have e : effM op = (0, 0, -1) := by simp [effM, *]
  rw [e]; decide
theorem isJ_kind (op : Int) : isJ op = decide ((effM op).2.2 = 7) := by
  by_cases h1 : op = 1
  · subst h1; decide
  by_cases h2 : op = 2
  · subst h2; decide
  by_cases h3 : op = 3
  · subst h3; decide
  by_cases h4 : op = 4
  · subst h4; decide
  by_cases h5 : op = 5
  · subst h5; decide
  by_cases h6 : op = 6
  · subst h6; decide
  by_cases h7 : op = 7
  · subst h7; decide
  by_cases h8 : op = 8
  · subst h8; decide
  by_cases h9 : op = 9
  · subst h9; decide
  by_cases h10 : op = 10
  · subst h10; decide
  by_cases h11 : op = 11
  · subst h11; decide
  by_cases h12 : op = 12
  · subst h12; decide
  by_cases h13 : op = 13
  · subst h13; decide
  by_cases h14 : op = 14
  · subst h14; decide
  by_cases h15 : op = 15
  · subst h15; decide
  by_cases h16 : op = 16
  · subst h16; decide
  by_cases h17 : op = 17
  · subst h17; decide
  by_cases h18 : op = 18
  · subst h18; decide
  by_cases h19 : op = 19
  · subst h19; decide
  by_cases h20 : op = 20
  · subst h20; decide
  by_cases h21 : op = 21
  · subst h21; decide
  by_cases h22 : op = 22
  · subst h22; decide
  by_cases h23 : op = 23
  · subst h23; decide
  by_cases h24 : op = 24
  · subst h24; decide
  by_cases h25 : op = 25
  · subst h25; decide
  by_cases h26 : op = 26
  · subst h26; decide
  by_cases h27 : op = 27
  · subst h27; decide
  by_cases h28 : op = 28
  · subst h28; decide
  by_cases h29 : op = 29
  · subst h29; decide
  by_cases h30 : op = 30
  · subst h30; decide
  by_cases h31 : op = 31
  · subst h31; decide
  have e : effM op = (0, 0, -1) := by simp [effM, *]
  rw [e]; simp [isJ, *]
theorem in00 (a : Int) : inM a 0 0 = decide (a = 0) := by
  rw [Bool.eq_iff_iff]; simp [inM]; omega
theorem number_span (c : Prg) (i : Ins) : numberM c i = (isJ i.op || inM i.A (spanM c i.op).1 (spanM c i.op).2) := by
  by_cases h1 : i.op = 1
  · simp [numberM, kindM, effM, isJ, spanM, in00, h1]
  by_cases h2 : i.op = 2
  · simp [numberM, kindM, effM, isJ, spanM, in00, h2]
  by_cases h3 : i.op = 3
  · simp [numberM, kindM, effM, isJ, spanM, in00, h3]
  by_cases h4 : i.op = 4
  · simp [numberM, kindM, effM, isJ, spanM, in00, h4]
  by_cases h5 : i.op = 5
  · simp [numberM, kindM, effM, isJ, spanM, in00, h5]
  by_cases h6 : i.op = 6
  · simp [numberM, kindM, effM, isJ, spanM, in00, h6]
  by_cases h7 : i.op = 7
  · simp [numberM, kindM, effM, isJ, spanM, in00, h7]
  by_cases h8 : i.op = 8
  · simp [numberM, kindM, effM, isJ, spanM, in00, h8]
  by_cases h9 : i.op = 9
  · simp [numberM, kindM, effM, isJ, spanM, in00, h9]
  by_cases h10 : i.op = 10
  · simp [numberM, kindM, effM, isJ, spanM, in00, h10]
  by_cases h11 : i.op = 11
  · simp [numberM, kindM, effM, isJ, spanM, in00, h11]
  by_cases h12 : i.op = 12
  · simp [numberM, kindM, effM, isJ, spanM, in00, h12]
  by_cases h13 : i.op = 13
  · simp [numberM, kindM, effM, isJ, spanM, in00, h13]
  by_cases h14 : i.op = 14
  · simp [numberM, kindM, effM, isJ, spanM, in00, h14]
  by_cases h15 : i.op = 15
  · simp [numberM, kindM, effM, isJ, spanM, in00, h15]
  by_cases h16 : i.op = 16
  · simp [numberM, kindM, effM, isJ, spanM, in00, h16]
  by_cases h17 : i.op = 17
  · simp [numberM, kindM, effM, isJ, spanM, in00, h17]
  by_cases h18 : i.op = 18
  · simp [numberM, kindM, effM, isJ, spanM, in00, h18]
  by_cases h19 : i.op = 19
  · simp [numberM, kindM, effM, isJ, spanM, in00, h19]
  by_cases h20 : i.op = 20
  · simp [numberM, kindM, effM, isJ, spanM, in00, h20]
  by_cases h21 : i.op = 21
  · simp [numberM, kindM, effM, isJ, spanM, in00, h21]
  by_cases h22 : i.op = 22
  · simp [numberM, kindM, effM, isJ, spanM, in00, h22]
  by_cases h23 : i.op = 23
  · simp [numberM, kindM, effM, isJ, spanM, in00, h23]
  by_cases h24 : i.op = 24
  · simp [numberM, kindM, effM, isJ, spanM, in00, h24]
  by_cases h25 : i.op = 25
  · simp [numberM, kindM, effM, isJ, spanM, in00, h25]
  by_cases h26 : i.op = 26
  · simp [numberM, kindM, effM, isJ, spanM, in00, h26]
  by_cases h27 : i.op = 27
  · simp [numberM, kindM, effM, isJ, spanM, in00, h27]
  by_cases h28 : i.op = 28
  · simp [numberM, kindM, effM, isJ, spanM, in00, h28]
  by_cases h29 : i.op = 29
  · simp [numberM, kindM, effM, isJ, spanM, in00, h29]
  by_cases h30 : i.op = 30
  · simp [numberM, kindM, effM, isJ, spanM, in00, h30]
  by_cases h31 : i.op = 31
  · simp [numberM, kindM, effM, isJ, spanM, in00, h31]
  have e : effM i.op = (0, 0, -1) := by simp [effM, *]
  simp [numberM, kindM, e, isJ, spanM, *, inM]; omega
theorem any_not {α : Type} (p : α → Bool) (l : List α) : (l.any fun x => !p x) = !l.all p := by
  induction l with
  | nil => rfl
  | cons x l ih => simp only [List.any_cons, List.all_cons, ih, Bool.not_and]
theorem all_take' {α : Type} (p : α → Bool) (l : List α) (k : Nat) (x : α) (hx : l[k]? = some x) : (l.take (k + 1)).all p = ((l.take k).all p && p x) := by
  rw [List.take_add_one, hx, List.all_append]; simp
theorem step_bad (b x n : Bool) : (b || !(x && n)) = ((b || !x) || !n) := by cases b <;> cases x <;> cases n <;> rfl
def reachM (h : List Int) (wk : List Nat) (p : Nat) (x : Int) : Option (List Int × List Nat) :=
  if h.length ≤ p ∨ x > 48 ∨ (0 ≤ h.getD p 0 ∧ h.getD p 0 ≠ x) then none
  else if h.getD p 0 < 0 then some (h.set p x, p :: wk) else some (h, wk)
def wkC (wk : List Nat) : List DV := wk.reverse.map fun (p : Nat) => I64 (p : Int)
theorem wkC_cons (p : Nat) (wk : List Nat) : wkC (p :: wk) = wkC wk ++ [I64 (p : Int)] := by simp [wkC]
theorem wkC_len (wk : List Nat) : (wkC wk).length = wk.length := by simp [wkC]
structure WkS (c : Prg) (h : List Int) (wk : List Nat) (o : Option Nat) (junk : List DV) (H : Hp) (cc : Nat) : Prop where
  h0 : H 0 = some ⟨0, true, c.cs⟩
  h1 : H 1 = some ⟨1, true, h.map I64⟩
  h2 : H 2 = some ⟨0, true, [.slc 1 0 h.length]⟩
  h3 : H 3 = some ⟨0, true, [todoV o wk.length]⟩
  hn : o = none → wk = []
  hs : ∀ i, o = some i → 4 ≤ i ∧ i < cc ∧ H i = some ⟨1, true, wkC wk ++ junk⟩
  hc : 4 ≤ cc
def WH (c : Prg) (h : List Int) (wk : List Nat) (o : Option Nat) (junk : List DV) : Hp :=
  optH ((((Sym.nil.upd 0 ⟨0, true, c.cs⟩).upd 1 ⟨1, true, h.map I64⟩).upd 2 ⟨0, true, [.slc 1 0 h.length]⟩).upd 3 ⟨0, true, [todoV o wk.length]⟩) o ⟨1, true, wkC wk ++ junk⟩
theorem WkS.sub {c : Prg} {h : List Int} {wk : List Nat} {o : Option Nat} {junk : List DV} {H : Hp} {cc : Nat} (hS : WkS c h wk o junk H cc) : Sub (WH c h wk o junk) H := by
  obtain ⟨h0, h1, h2, h3, hn, hs, hc⟩ := hS
  have base : Sub ((((Sym.nil.upd 0 ⟨0, true, c.cs⟩).upd 1 ⟨1, true, h.map I64⟩).upd 2 ⟨0, true, [.slc 1 0 h.length]⟩).upd 3 ⟨0, true, [todoV o wk.length]⟩) H :=
    ((((Sub.nil H).put h0).put h1).put h2).put h3
  cases o with
  | none => exact base
  | some i => exact base.put (hs i rfl).2.2
theorem WkS.mk' {c : Prg} {h : List Int} {wk : List Nat} {o : Option Nat} {junk : List DV} {cc : Nat} (hn : o = none → wk = []) (hs : ∀ i, o = some i → 4 ≤ i ∧ i < cc) (hc : 4 ≤ cc) : WkS c h wk o junk (WH c h wk o junk) cc := by
  cases o with
  | none => exact ⟨rfl, rfl, rfl, rfl, hn, fun i hi => (by cases hi), hc⟩
  | some i =>
    obtain ⟨i1, i2⟩ := hs i rfl
    refine ⟨?_, ?_, ?_, ?_, hn, fun j hj => ?_, hc⟩
    · simp only [WH, optH]; rw [h_ne (by omega)]; rfl
    · simp only [WH, optH]; rw [h_ne (by omega)]; rfl
    · simp only [WH, optH]; rw [h_ne (by omega)]; rfl
    · simp only [WH, optH]; rw [h_ne (by omega)]; rfl
    · cases hj; exact ⟨i1, i2, h_same⟩
theorem WkS.upd {c : Prg} {h : List Int} {wk : List Nat} {o : Option Nat} {junk : List DV} {H : Hp} {cc : Nat} (hS : WkS c h wk o junk H cc) {k c2 : Nat} (b : Blk) (hk : cc ≤ k) (hk2 : cc ≤ c2) : WkS c h wk o junk (H.upd k b) c2 := by
  obtain ⟨h0, h1, h2, h3, hn, hs, hc⟩ := hS
  exact ⟨by rw [h_ne (by omega)]; exact h0, by rw [h_ne (by omega)]; exact h1, by rw [h_ne (by omega)]; exact h2, by rw [h_ne (by omega)]; exact h3, hn,
    fun i hi => ⟨(hs i hi).1, by have := (hs i hi).2.1; omega, by have := (hs i hi).2.1; rw [h_ne (by omega)]; exact (hs i hi).2.2⟩, by omega⟩
def reachL (h : List Int) (wk : List Nat) : List (Nat × Int) → Option (List Int × List Nat)
  | [] => some (h, wk)
  | (p, x) :: r => match reachM h wk p x with
    | none => none
    | some (h', wk') => reachL h' wk' r
def hgtP (c : Prg) : Nat → List Int → List Nat → Option (Option (List Int))
  | 0, _, _ => none
  | n + 1, h, [] => some (some h)
  | n + 1, h, p :: wk =>
    if (effM (c.instrs.getD p ⟨0, 0⟩).op).1 > h.getD p 0 ∨ ((c.instrs.getD p ⟨0, 0⟩).op = 31 ∧ h.getD p 0 ≠ 0) then some none
    else match reachL h wk (afterM (c.instrs.getD p ⟨0, 0⟩) p (h.getD p 0)) with
      | none => some none
      | some (h', wk') => hgtP c n h' wk'
def hgtP0 (c : Prg) (n : Nat) : Option (Option (List Int)) :=
  match reachL (List.replicate c.instrs.length (-1)) [] (c.entries.map entP) with
  | none => some none
  | some (h, wk) => hgtP c n h wk
structure WkI (len : Nat) (h : List Int) (wk : List Nat) : Prop where
  hl : h.length = len
  mem : ∀ p ∈ wk, p < len ∧ 0 ≤ h.getD p 0 ∧ h.getD p 0 ≤ 48
theorem reach_inv {len : Nat} {h h' : List Int} {wk wk' : List Nat} {p : Nat} {x : Int} (hI : WkI len h wk) (hx : 0 ≤ x) (hr : reachM h wk p x = some (h', wk')) : WkI len h' wk' ∧ wk'.length ≤ wk.length + 1 := by
  unfold reachM at hr
  split at hr
  · cases hr
  · rename_i hc
    have hp : p < h.length := by omega
    split at hr
    · cases hr
      refine ⟨⟨by simpa using hI.hl, fun q hq => ?_⟩, by simp⟩
      have hset : ∀ j, (h.set p x).getD j 0 = if j = p then x else h.getD j 0 := by
        intro j
        simp only [List.getD, List.getElem?_set]
        by_cases e : p = j
        · subst e; simp [hp]
        · rw [if_neg e, if_neg (Ne.symm e)]
      simp only [hset]
      by_cases e : q = p
      · subst e; simp only [if_true]; have := hI.hl; omega
      · simp only [e, if_false]
        cases hq with
        | head => exact absurd rfl e
        | tail _ hq => exact hI.mem q hq
    · cases hr
      exact ⟨hI, by omega⟩
theorem reachL_inv {len : Nat} : ∀ (l : List (Nat × Int)) {h h' : List Int} {wk wk' : List Nat}, WkI len h wk → (∀ s ∈ l, 0 ≤ s.2) → reachL h wk l = some (h', wk') → WkI len h' wk' ∧ wk'.length ≤ wk.length + l.length
  | [], h, h', wk, wk', hI, _, hr => by cases hr; exact ⟨hI, Nat.le_refl _⟩
  | (p, x) :: l, h, h', wk, wk', hI, hx, hr => by
    simp only [reachL] at hr
    split at hr
    · cases hr
    · rename_i h1 wk1 h2
      obtain ⟨a, b⟩ := reach_inv hI (hx _ List.mem_cons_self) h2
      obtain ⟨a', b'⟩ := reachL_inv l a (fun s hs => hx s (List.mem_cons_of_mem _ hs)) hr
      exact ⟨a', by simp only [List.length_cons]; omega⟩
theorem WkS.pop {c : Prg} {h : List Int} {p : Nat} {wk : List Nat} {id : Nat} {junk : List DV} {H : Hp} {cc : Nat} (hS : WkS c h (p :: wk) (some id) junk H cc) :
    WkS c h wk (some id) (I64 p :: junk) (H.upd 3 ⟨0, true, [.slc id 0 wk.length]⟩) cc := by
  obtain ⟨h0, h1, h2, h3, hn, hs, hc⟩ := hS
  refine ⟨by rw [h_ne (by omega)]; exact h0, by rw [h_ne (by omega)]; exact h1, by rw [h_ne (by omega)]; exact h2, h_same, by simp, fun i hi => ?_, hc⟩
  obtain ⟨a, b, d⟩ := hs i hi
  refine ⟨a, b, ?_⟩
  rw [h_ne (by omega), d, wkC_cons]; simp
theorem all_take {α : Type} (p : α → Bool) (l : List α) (k : Nat) (x : α) (hx : l[k]? = some x) (h : (l.take k).all p = true) : (l.take (k + 1)).all p = p x := by
  rw [List.take_add_one, hx, List.all_append, h]; simp
theorem all_fail {α : Type} (p : α → Bool) (l : List α) (k : Nat) (x : α) (hx : l[k]? = some x) (h : p x = false) : l.all p = false := by
  rw [List.all_eq_false]
  exact ⟨x, List.mem_of_getElem? hx, by simp [h]⟩
theorem all_done {α : Type} (p : α → Bool) (l : List α) (k : Nat) (hk : l.length ≤ k) (h : (l.take k).all p = true) : l.all p = true := by
  rwa [List.take_of_length_le hk] at h
end Go.Pb
set_option linter.unusedVariables false
set_option linter.unusedSimpArgs false
namespace Go.Pb
open Go.Sym
abbrev Prg.ins (c : Prg) (p : Nat) : Ins := c.instrs.getD p ⟨0, 0⟩
def OKs (c : Prg) (p : Nat) (x : Int) : Prop := p < c.instrs.length ∧ x ≤ 48 ∧ (effM (c.ins p).op).1 ≤ x ∧ ¬((c.ins p).op = 31 ∧ x ≠ 0)
inductive Rch (c : Prg) : Nat → Int → Prop
  | ent {e : Ent} : e ∈ c.entries → Rch c e.pos.toNat 0
  | step {p : Nat} {x : Int} {s : Nat × Int} : Rch c p x → OKs c p x → s ∈ afterM (c.ins p) p x → Rch c s.1 s.2
def Bad (c : Prg) : Prop := ∃ p x, Rch c p x ∧ (¬OKs c p x ∨ ∃ y, Rch c p y ∧ y ≠ x)
structure Hts (c : Prg) (h : List Int) : Prop where
  len : h.length = c.instrs.length
  all : ∀ p x, Rch c p x → OKs c p x ∧ h[p]? = some x
  only : ∀ p x, h[p]? = some x → x = -1 ∨ (0 ≤ x ∧ Rch c p x)
theorem OKs.nn {c : Prg} {p : Nat} {x : Int} (h : OKs c p x) : 0 ≤ x := by
  have := (eff_bd (c.ins p).op).1
  have := h.2.2.1
  omega
theorem after_nn {c : Prg} {p : Nat} {x : Int} (hok : OKs c p x) : ∀ s ∈ afterM (c.ins p) p x, 0 ≤ s.2 := by
  intro s hs'
  have q3 := hok.2.2.1
  have b := eff_bd (c.ins p).op
  unfold afterM at hs'
  split at hs'
  · cases hs'
  split at hs'
  · simp only [List.mem_singleton] at hs'; subst hs'; simp only; omega
  split at hs'
  · rename_i e
    rw [e] at q3
    have : (effM 13).1 = 1 := by decide
    simp only [List.mem_cons, List.not_mem_nil, or_false] at hs'
    rcases hs' with rfl | rfl <;> simp only <;> omega
  split at hs'
  · rename_i e
    rw [e] at q3
    have : (effM 14).1 = 1 := by decide
    simp only [List.mem_cons, List.not_mem_nil, or_false] at hs'
    rcases hs' with rfl | rfl <;> simp only <;> omega
  · simp only [List.mem_singleton] at hs'; subst hs'; simp only; omega
theorem Hts.uniq {c : Prg} {h h' : List Int} (a : Hts c h) (b : Hts c h') : h = h' := by
  refine List.ext_getElem? fun p => ?_
  by_cases hp : p < c.instrs.length
  · have e1 := List.getElem?_eq_getElem (l := h) (i := p) (by rw [a.len]; exact hp)
    have e2 := List.getElem?_eq_getElem (l := h') (i := p) (by rw [b.len]; exact hp)
    rcases a.only _ _ e1 with h1 | ⟨h1, h2⟩
    · rcases b.only _ _ e2 with h3 | ⟨h3, h4⟩
      · rw [e1, e2, h1, h3]
      · rw [(a.all _ _ h4).2, e2]
    · rw [e1, (b.all _ _ h2).2]
  · rw [List.getElem?_eq_none (by rw [a.len]; omega), List.getElem?_eq_none (by rw [b.len]; omega)]
theorem Hts.notBad {c : Prg} {h : List Int} (a : Hts c h) : ¬Bad c := by
  rintro ⟨p, x, h1, h2 | ⟨y, h2, h3⟩⟩
  · exact h2 (a.all _ _ h1).1
  · have e1 := (a.all _ _ h1).2
    rw [(a.all _ _ h2).2] at e1
    cases e1; exact h3 rfl
def Says (c : Prg) : Option (List Int) → Prop
  | some h => Hts c h
  | none => Bad c
theorem Says.uniq {c : Prg} {r r' : Option (List Int)} (a : Says c r) (b : Says c r') : r = r' := by
  cases r with
  | none => cases r' with
    | none => rfl
    | some h => exact absurd a (Hts.notBad b)
  | some h => cases r' with
    | none => exact absurd b (Hts.notBad a)
    | some h' => rw [Hts.uniq a b]
theorem getD_in {h : List Int} {p : Nat} (hp : p < h.length) : h[p]? = some (h.getD p 0) := by
  simp [List.getD, List.getElem?_eq_getElem hp]
structure HInv (c : Prg) (h : List Int) (wk : List Nat) (l : List (Nat × Int)) : Prop where
  len : h.length = c.instrs.length
  ok : ∀ p x, h[p]? = some x → x = -1 ∨ (0 ≤ x ∧ Rch c p x ∧ (p ∉ wk → OKs c p x ∧ ∀ s ∈ afterM (c.ins p) p x, h[s.1]? = some s.2 ∨ s ∈ l))
  to : ∀ s ∈ l, Rch c s.1 s.2
  en : ∀ e ∈ c.entries, h[e.pos.toNat]? = some 0 ∨ entP e ∈ l
theorem HInv.done {c : Prg} {h : List Int} (a : HInv c h [] []) : Hts c h := by
  have key : ∀ p x, Rch c p x → h[p]? = some x := by
    intro p x hr
    induction hr with
    | ent he =>
      rcases a.en _ he with h1 | h1
      · exact h1
      · cases h1
    | step h1 h2 h3 ih =>
      rcases a.ok _ _ ih with h4 | ⟨-, -, h4⟩
      · have := h2.nn; omega
      · rcases (h4 (by simp)).2 _ h3 with h5 | h5
        · exact h5
        · cases h5
  refine ⟨a.len, fun p x hr => ⟨?_, key p x hr⟩, fun p x hp => ?_⟩
  · rcases a.ok _ _ (key p x hr) with h4 | ⟨-, -, h4⟩
    · exfalso
      cases hr with
      | ent he => omega
      | step h1 h2 h3 =>
        have := after_nn h2 _ h3
        omega
    · exact (h4 (by simp)).1
  · rcases a.ok _ _ hp with h4 | ⟨h5, h6, -⟩
    · exact .inl h4
    · exact .inr ⟨h5, h6⟩
theorem HInv.start (c : Prg) : HInv c (List.replicate c.instrs.length (-1)) [] (c.entries.map entP) := by
  refine ⟨by simp, fun p x hp => ?_, fun s hs => ?_, fun e he => .inr (List.mem_map_of_mem he)⟩
  · rw [List.getElem?_replicate] at hp
    split at hp <;> simp at hp
    exact .inl hp.symm
  · obtain ⟨e, he, rfl⟩ := List.mem_map.1 hs
    exact .ent he
theorem HInv.perm {c : Prg} {h : List Int} {wk : List Nat} {l l' : List (Nat × Int)} (a : HInv c h wk l) (hp : ∀ s, s ∈ l ↔ s ∈ l') : HInv c h wk l' :=
  ⟨a.len, fun p x hx => (a.ok p x hx).imp_right fun ⟨u, v, w⟩ => ⟨u, v, fun hn => ⟨(w hn).1, fun s hs => ((w hn).2 s hs).imp_right (hp s).1⟩⟩, fun s hs => a.to s ((hp s).2 hs), fun e he => (a.en e he).imp_right (hp _).1⟩
theorem HInv.skip {c : Prg} {h : List Int} {wk : List Nat} {l : List (Nat × Int)} {p : Nat} {x : Int} (a : HInv c h wk ((p, x) :: l)) (hx : h[p]? = some x) : HInv c h wk l := by
  refine ⟨a.len, fun q y hq => ?_, fun s hs => a.to s (List.mem_cons_of_mem _ hs), fun e he => ?_⟩
  · rcases a.ok q y hq with h1 | ⟨u, v, w⟩
    · exact .inl h1
    refine .inr ⟨u, v, fun hn => ⟨(w hn).1, fun s hs => ?_⟩⟩
    rcases (w hn).2 s hs with h1 | h1
    · exact .inl h1
    · cases h1 with
      | head => exact .inl hx
      | tail _ h1 => exact .inr h1
  · rcases a.en e he with h1 | h1
    · exact .inl h1
    · have hc := List.mem_cons.1 h1
      rcases hc with h2 | h2
      · left
        have e1 : e.pos.toNat = p := congrArg Prod.fst h2
        have e2 : (0 : Int) = x := congrArg Prod.snd h2
        rw [e1, e2]; exact hx
      · exact .inr h2
theorem HInv.set {c : Prg} {h : List Int} {wk : List Nat} {l : List (Nat × Int)} {p : Nat} {x : Int} (a : HInv c h wk ((p, x) :: l)) (hp : p < h.length) (hn : h.getD p 0 < 0) (h0 : 0 ≤ x) : HInv c (h.set p x) (p :: wk) l := by
  have hg := getD_in hp
  have up : ∀ (q : Nat) (y : Int), h[q]? = some y → 0 ≤ y → (h.set p x)[q]? = some y := by
    intro q y hq hy
    rw [List.getElem?_set]
    by_cases e : p = q
    · subst e; rw [hg] at hq; cases hq; omega
    · rw [if_neg e]; exact hq
  have hput : (h.set p x)[p]? = some x := by rw [List.getElem?_set]; simp [hp]
  refine ⟨by simpa using a.len, fun q y hq => ?_, fun s hs => a.to s (List.mem_cons_of_mem _ hs), fun e he => ?_⟩
  · by_cases e : q = p
    · subst e
      rw [hput] at hq; cases hq
      exact .inr ⟨h0, a.to _ List.mem_cons_self, fun hn => absurd List.mem_cons_self hn⟩
    · rw [List.getElem?_set, if_neg (Ne.symm e)] at hq
      rcases a.ok q y hq with h1 | ⟨u, v, w⟩
      · exact .inl h1
      · refine .inr ⟨u, v, fun hn2 => ?_⟩
        have hw := w fun hm => hn2 (List.mem_cons_of_mem _ hm)
        refine ⟨hw.1, fun s hs => ?_⟩
        rcases hw.2 s hs with h2 | h2
        · have hr := Rch.step v hw.1 hs
          by_cases hs0 : 0 ≤ s.2
          · exact .inl (up _ _ h2 hs0)
          · rcases a.ok _ _ h2 with h3 | ⟨h3, -⟩
            · exact absurd (after_nn hw.1 _ hs) hs0
            · exact absurd h3 hs0
        · cases h2 with
          | head => exact .inl hput
          | tail _ h2 => exact .inr h2
  · rcases a.en e he with h1 | h1
    · exact .inl (up _ _ h1 (Int.le_refl 0))
    · rcases List.mem_cons.1 h1 with h2 | h2
      · left
        have e1 : e.pos.toNat = p := congrArg Prod.fst h2
        have e2 : (0 : Int) = x := congrArg Prod.snd h2
        rw [e1, e2]; exact hput
      · exact .inr h2
theorem HInv.pop {c : Prg} {h : List Int} {wk : List Nat} {l : List (Nat × Int)} {p : Nat} (a : HInv c h (p :: wk) l) (hok : OKs c p (h.getD p 0)) : HInv c h wk (afterM (c.ins p) p (h.getD p 0) ++ l) := by
  have hp : p < h.length := by rw [a.len]; exact hok.1
  have hg := getD_in hp
  have hr : Rch c p (h.getD p 0) := by
    rcases a.ok _ _ hg with h1 | ⟨-, h1, -⟩
    · have := hok.nn; omega
    · exact h1
  refine ⟨a.len, fun q y hq => ?_, fun s hs => ?_, fun e he => (a.en e he).imp_right fun h1 => List.mem_append_right _ h1⟩
  · rcases a.ok q y hq with h1 | ⟨u, v, w⟩
    · exact .inl h1
    refine .inr ⟨u, v, fun hn => ?_⟩
    by_cases e : q = p
    · subst e
      rw [hg] at hq; cases hq
      exact ⟨hok, fun s hs => .inr (List.mem_append_left _ hs)⟩
    · have hw := w fun hm => (List.mem_cons.1 hm).elim e hn
      exact ⟨hw.1, fun s hs => (hw.2 s hs).imp_right fun h1 => List.mem_append_right _ h1⟩
  · rcases List.mem_append.1 hs with h1 | h1
    · exact .step hr hok h1
    · exact a.to s h1
theorem HInv.rch {c : Prg} {h : List Int} {wk : List Nat} {l : List (Nat × Int)} {p : Nat} {x : Int} (a : HInv c h wk l) (hp : h[p]? = some x) (h0 : 0 ≤ x) : Rch c p x := by
  rcases a.ok _ _ hp with h1 | ⟨-, h1, -⟩
  · omega
  · exact h1
theorem hgtR_says (c : Prg) : ∀ (n : Nat) (h : List Int) (st : List (Nat × Int)) (r : Option (List Int)), HInv c h [] st → hgtR c n h st = some r → Says c r
  | 0, _, _, _, _, hr => by cases hr
  | n + 1, h, [], r, a, hr => by
    simp only [hgtR] at hr; cases hr
    exact a.done
  | n + 1, h, (p, x) :: st, r, a, hr => by
    simp only [hgtR] at hr
    have hrc := a.to _ List.mem_cons_self
    simp only at hrc
    split at hr
    · rename_i h1
      cases hr
      refine ⟨p, x, hrc, .inl fun hok => ?_⟩
      have := a.len; have := hok.1; have := hok.2.1
      omega
    · rename_i h1
      have hp : p < h.length := by omega
      have hg := getD_in hp
      split at hr
      · rename_i h2
        split at hr
        · rename_i h3
          cases hr
          exact ⟨p, x, hrc, .inr ⟨_, a.rch hg h2, h3⟩⟩
        · rename_i h3
          have e : h.getD p 0 = x := Classical.not_not.1 h3
          rw [e] at hg
          exact hgtR_says c n h st r (a.skip hg) hr
      · rename_i h2
        split at hr
        · rename_i h3
          cases hr
          refine ⟨p, x, hrc, .inl fun hok => ?_⟩
          rcases h3 with h3 | h3
          · have := hok.2.2.1; simp only [Prg.ins] at this; omega
          · exact hok.2.2.2 h3
        · rename_i h3
          have hok : OKs c p x := ⟨by rw [← a.len]; exact hp, by omega, by simp only [Prg.ins]; omega, fun hh => h3 (.inr hh)⟩
          have s1 := a.set hp (by omega) hok.nn
          have e : (h.set p x).getD p 0 = x := by simp [List.getD, List.getElem?_set, hp]
          have s2 := s1.pop (by rw [e]; exact hok)
          rw [e] at s2
          exact hgtR_says c n _ _ r (s2.perm fun s => by simp only [List.mem_append, List.mem_reverse]) hr
theorem reachL_says (c : Prg) : ∀ (l : List (Nat × Int)) (h : List Int) (wk : List Nat), HInv c h wk l → (∀ s ∈ l, 0 ≤ s.2) → match reachL h wk l with
    | none => Bad c
    | some (h', wk') => HInv c h' wk' [] ∧ wk'.length + negs h' ≤ wk.length + negs h
  | [], h, wk, a, _ => ⟨a, Nat.le_refl _⟩
  | (p, x) :: l, h, wk, a, h0 => by
    have hrc := a.to _ List.mem_cons_self
    have hx := h0 _ List.mem_cons_self
    simp only at hrc hx
    have h0' : ∀ s ∈ l, 0 ≤ s.2 := fun s hs => h0 s (List.mem_cons_of_mem _ hs)
    simp only [reachL]
    cases hR : reachM h wk p x with
    | none =>
      simp only
      unfold reachM at hR
      split at hR
      · rename_i h1
        by_cases hp : h.length ≤ p
        · exact ⟨p, x, hrc, .inl fun hok => by have := hok.1; have := a.len; omega⟩
        by_cases h2 : x > 48
        · exact ⟨p, x, hrc, .inl fun hok => by have := hok.2.1; omega⟩
        · have h3 : 0 ≤ h.getD p 0 ∧ h.getD p 0 ≠ x := by omega
          exact ⟨p, x, hrc, .inr ⟨_, a.rch (getD_in (by omega)) h3.1, h3.2⟩⟩
      · split at hR <;> cases hR
    | some q =>
      obtain ⟨h', wk'⟩ := q
      simp only
      unfold reachM at hR
      split at hR
      · cases hR
      · rename_i h1
        have hp : p < h.length := by omega
        split at hR
        · rename_i h2
          cases hR
          have := reachL_says c l _ _ (a.set hp h2 hx) h0'
          have hneg : negs (h.set p x) + 1 = negs h := by
            have hgh : h.getD p 0 = h[p] := by simp [List.getD, hp]
            unfold negs
            rw [List.countP_set hp]
            have e1 : decide (h[p] < 0) = true := by simp; omega
            have e2 : decide (x < 0) = false := by simp; omega
            simp only [e1, e2, if_true, Bool.false_eq_true, if_false]
            have : 0 < h.countP fun x => decide (x < 0) := List.countP_pos_iff.2 ⟨h[p], List.getElem_mem hp, e1⟩
            omega
          revert this
          cases reachL (h.set p x) (p :: wk) l with
          | none => exact id
          | some q =>
            obtain ⟨h2, wk2⟩ := q
            rintro ⟨a1, a2⟩
            exact ⟨a1, by simp only [List.length_cons] at a2; omega⟩
        · cases hR
          have e : h.getD p 0 = x := by omega
          exact reachL_says c l _ _ (a.skip (by rw [← e]; exact getD_in hp)) h0'
theorem hgtP_says (c : Prg) : ∀ (n : Nat) (h : List Int) (wk : List Nat), HInv c h wk [] → WkI c.instrs.length h wk → wk.length + negs h < n → ∃ r, hgtP c n h wk = some r ∧ Says c r
  | 0, _, _, _, _, hn => by omega
  | n + 1, h, [], a, _, _ => ⟨some h, rfl, a.done⟩
  | n + 1, h, p :: wk, a, hI, hn => by
    simp only [hgtP]
    obtain ⟨s1, s2, s3⟩ := hI.mem p List.mem_cons_self
    have hp : p < h.length := by rw [hI.hl]; exact s1
    have hrc := a.rch (getD_in hp) s2
    split
    · rename_i h1
      refine ⟨none, rfl, p, _, hrc, .inl fun hok => ?_⟩
      rcases h1 with h1 | h1
      · have := hok.2.2.1; simp only [Prg.ins] at this; omega
      · exact hok.2.2.2 h1
    · rename_i h1
      have hok : OKs c p (h.getD p 0) := ⟨s1, s3, by simp only [Prg.ins]; omega, fun hh => h1 (.inr hh)⟩
      have key := reachL_says c _ h wk ((a.pop hok).perm (l' := afterM (c.ins p) p (h.getD p 0)) fun s => by rw [List.append_nil]) (after_nn hok)
      have hIt : WkI c.instrs.length h wk := ⟨hI.hl, fun q hq => hI.mem q (List.mem_cons_of_mem _ hq)⟩
      have kI := fun h' wk' => reachL_inv (h' := h') (wk' := wk') _ hIt (after_nn hok)
      revert key kI
      simp only [Prg.ins]
      cases reachL h wk (afterM (c.instrs.getD p ⟨0, 0⟩) p (h.getD p 0)) with
      | none => exact fun key _ => ⟨none, rfl, key⟩
      | some q =>
        obtain ⟨h', wk'⟩ := q
        rintro ⟨a1, a2⟩ kI
        exact hgtP_says c n h' wk' a1 (kI h' wk' rfl).1 (by simp only [List.length_cons] at hn; omega)
theorem hR_says {c : Prg} (hl : c.instrs.length ≤ 4000) (hj : jumpsM c = true) : Says c (hR c) :=
  hgtR_says c _ _ _ _ ((HInv.start c).perm fun s => by simp [entR]) (hR_eq hl hj)
theorem hgtP_eq {c : Prg} (hl : c.instrs.length ≤ 4000) (hj : jumpsM c = true) : hgtP0 c 4001 = some (hR c) := by
  have hr := hR_says hl hj
  unfold hgtP0
  have key := reachL_says c _ _ [] (HInv.start c) (fun s hs => by obtain ⟨e, -, rfl⟩ := List.mem_map.1 hs; exact Int.le_refl 0)
  have kI := fun h' wk' => reachL_inv (len := c.instrs.length) (h' := h') (wk' := wk') (c.entries.map entP) (h := List.replicate c.instrs.length (-1)) (wk := []) ⟨by simp, by simp⟩ (fun s hs => by obtain ⟨e, -, rfl⟩ := List.mem_map.1 hs; exact Int.le_refl 0)
  revert key kI
  cases reachL (List.replicate c.instrs.length (-1)) [] (c.entries.map entP) with
  | none => exact fun key _ => congrArg some (Says.uniq (r := none) key hr)
  | some q =>
    obtain ⟨h', wk'⟩ := q
    rintro ⟨a1, a2⟩ kI
    obtain ⟨r, e, s⟩ := hgtP_says c 4001 h' wk' a1 (kI h' wk' rfl).1 (by simp [negs, List.countP_replicate] at a2 ⊢; omega)
    simp only [e]
    rw [Says.uniq s hr]
def vHts (c : Prg) : List Int := if validM c = 0 then (hR c).getD [] else []
theorem hgtV_some {h : List Int} : hgtV (some h) = .tup [ints h, .bool true] := rfl
theorem hgtV_none : hgtV none = .tup [.lst [], .bool false] := rfl
end Go.Pb
set_option linter.unusedVariables false
set_option linter.unusedSimpArgs false
namespace Go.Pb
open Go.Sym
theorem eqa2 {g : Bool} {a b c d : Int} : eqaR g [0, 0] (.agg [I64 a, I64 b]) (.agg [I64 c, I64 d]) = some (.bool (g != (a == c && b == d))) := by
  simp only [eqaR, cellsEq, cellEq, if_true]
  generalize (a == c) = p; generalize (b == d) = q
  cases p <;> cases q <;> rfl
theorem eqa4 {g : Bool} {a b c d a' b' c' d' : Int} : eqaR g [0, 0, 0, 0] (.agg [I64 a, I64 b, I64 c, I64 d]) (.agg [I64 a', I64 b', I64 c', I64 d']) = some (.bool (g != (a == a' && (b == b' && (c == c' && d == d'))))) := by
  simp only [eqaR, cellsEq, cellEq, if_true]
  generalize (a == a') = p; generalize (b == b') = q; generalize (c == c') = r; generalize (d == d') = s
  cases p <;> cases q <;> cases r <;> cases s <;> rfl
theorem prg_eq (a b : Prg) : decide (a = b) = (decide (a.instrs = b.instrs) && (decide (a.strings = b.strings) && (decide (a.entries = b.entries) && (decide (a.prios = b.prios) && (decide (a.vars = b.vars) && (decide (a.timers = b.timers) && decide (a.events = b.events))))))) := by
  cases a; cases b; rw [Bool.eq_iff_iff]; simp
theorem eqTo_step {α : Type} [DecidableEq α] {a b : List α} {k : Nat} {x y : α} (ha : a[k]? = some x) (hb : b[k]? = some y) (h : a.take k = b.take k) : (a.take (k + 1) = b.take (k + 1)) ↔ x = y := by
  rw [List.take_add_one, List.take_add_one, ha, hb, h]; simp
theorem eq_fail {α : Type} {a b : List α} {k : Nat} {x y : α} (ha : a[k]? = some x) (hb : b[k]? = some y) (h : x ≠ y) : a ≠ b := by
  rintro rfl; rw [ha] at hb; cases hb; exact h rfl
theorem eq_done {α : Type} {a b : List α} {k : Nat} (hl : a.length = b.length) (hk : a.length ≤ k) (h : a.take k = b.take k) : a = b := by
  rwa [List.take_of_length_le hk, List.take_of_length_le (by omega)] at h
theorem ins_eq (i j : Ins) : (i.op == j.op && i.A == j.A) = decide (i = j) := by
  cases i; cases j; rw [Bool.eq_iff_iff]; simp
theorem ent_eq (i j : Ent) : (i.mode == j.mode && (i.trigger == j.trigger && (i.index == j.index && i.pos == j.pos))) = decide (i = j) := by
  cases i; cases j; rw [Bool.eq_iff_iff]; simp
def findM (mode trigger index : Int) : List Ent → Option Int
  | [] => none
  | e :: r => if e.mode = mode ∧ e.trigger = trigger ∧ e.index = index then some e.pos else findM mode trigger index r
theorem findM_step {m t i : Int} {l : List Ent} {k : Nat} {e : Ent} (h : l[k]? = some e) : findM m t i (l.drop k) = if e.mode = m ∧ e.trigger = t ∧ e.index = i then some e.pos else findM m t i (l.drop (k + 1)) := by
  have hk : k < l.length := (List.getElem?_eq_some_iff.1 h).1
  rw [List.drop_eq_getElem_cons hk]
  rw [List.getElem?_eq_getElem hk] at h
  cases h
  rfl
def findV : Option Int → DV
  | some a => .tup [I64 a, .bool true]
  | none => .tup [I64 0, .bool false]
end Go.Pb
set_option linter.unusedVariables false
set_option linter.unusedSimpArgs false
namespace Go.Pb
open Go.Sym
theorem wu64 {n : Int} (h1 : 0 ≤ n) (h2 : n ≤ 18446744073709551615) : IntKind.u64.wrap n = n := by
  simp only [IntKind.wrap, IntKind.bits, IntKind.signed]
  simp
  omega
theorem wu8 {n : Int} (h1 : 0 ≤ n) (h2 : n ≤ 255) : IntKind.u8.wrap n = n := by
  simp only [IntKind.wrap, IntKind.bits, IntKind.signed]
  simp
  omega
def zig (n : Int) : Nat := if n < 0 then (-2 * n - 1).toNat else (2 * n).toNat
def numB (z : Nat) : List UInt8 := if z < 128 then [UInt8.ofNat z] else UInt8.ofNat (z % 128 + 128) :: numB (z / 128)
termination_by z
decreasing_by omega
theorem numB_lt {z : Nat} (h : z < 128) : numB z = [UInt8.ofNat z] := by rw [numB, if_pos h]
theorem numB_ge {z : Nat} (h : ¬z < 128) : numB z = UInt8.ofNat (z % 128 + 128) :: numB (z / 128) := by rw [numB, if_neg h]
theorem numB_len : ∀ (k z : Nat), z < 128 ^ (k + 1) → (numB z).length ≤ k + 1
  | 0, z, h => by rw [numB_lt (by omega)]; simp
  | k + 1, z, h => by
    by_cases h0 : z < 128
    · rw [numB_lt h0]; simp
    · rw [numB_ge h0, List.length_cons]
      have := numB_len k (z / 128) (by rw [Nat.pow_succ] at h; omega)
      omega
def numI (n : Int) : List UInt8 := numB (zig n)
def bytesC (l : List UInt8) : List DV := l.map fun b => DV.int .u8 (b.toNat : Int)
theorem bytesC_len (l : List UInt8) : (bytesC l).length = l.length := by simp [bytesC]
theorem bytesC_app (l r : List UInt8) : bytesC (l ++ r) = bytesC l ++ bytesC r := by simp [bytesC]
theorem bytesOf_C : ∀ (l : List UInt8), bytesOf (bytesC l) = some l
  | [] => rfl
  | b :: l => by
    show (match bytesOf (bytesC l) with
      | some s => some (UInt8.ofNat (b.toNat : Int).toNat :: s)
      | none => none) = _
    rw [bytesOf_C l]; simp
theorem bytesC_len1 (l : List UInt8) : (bytesC l).length = l.length * 1 := by simp [bytesC]
theorem cv_own {H : Hp} {id n u : Nat} {l : List UInt8} {cs : List DV} (h : H id = some ⟨u, true, cs⟩) (hc : cs = bytesC l) (hn : n = l.length) : cvbsR H (.slc id 0 n) = some (.str l) := by
  subst hc hn
  simp only [cvbsR, h, Nat.zero_add]
  rw [Nat.ble_eq_true_of_le (by rw [bytesC_len]; exact Nat.le_refl _)]
  simp only [List.drop_zero]
  rw [List.take_of_length_le (by rw [bytesC_len]; exact Nat.le_refl _), bytesOf_C]
theorem byte_hi' (z : Nat) : IntKind.u8.wrap (IntKind.u64.wrap ((z : Int).tmod 128 + 128)) = ((UInt8.ofNat (z % 128 + 128)).toNat : Int) := by
  have h1 : ((z : Int).tmod 128) = ((z % 128 : Nat) : Int) := by simp [Int.tmod]
  rw [h1, wu64 (by omega) (by omega), wu8 (by omega) (by omega)]
  simp
  omega
theorem byte_lo {z : Nat} (h : z < 128) : IntKind.u8.wrap (z : Int) = ((UInt8.ofNat z).toNat : Int) := by
  rw [wu8 (by omega) (by omega)]
  simp
  omega
theorem quo128 {z : Nat} (h : z < 18446744073709551616) : IntKind.u64.wrap ((z : Int).tdiv 128) = ((z / 128 : Nat) : Int) := by
  have h1 : ((z : Int).tdiv 128) = ((z / 128 : Nat) : Int) := by simp [Int.tdiv]
  rw [h1, wu64 (by omega) (by omega)]
theorem zigP_pos {n : Int} (h0 : 0 ≤ n) (h : n ≤ 4611686018427387903) : IntKind.u64.wrap (IntKind.i64.wrap (2 * n)) = (zig n : Int) := by
  rw [w64 (by omega) (by omega), wu64 (by omega) (by omega), zig, if_neg (by omega)]; omega
theorem zigP_neg {n : Int} (h0 : n < 0) (h : -4611686018427387904 ≤ n) : IntKind.u64.wrap (IntKind.i64.wrap (IntKind.i64.wrap (-2 * n) - 1)) = (zig n : Int) := by
  have e : IntKind.i64.wrap (IntKind.i64.wrap (-2 * n) - 1) = -2 * n - 1 := by
    by_cases h1 : n = -4611686018427387904
    · subst h1; decide
    · rw [w64 (n := -2 * n) (by omega) (by omega), w64 (by omega) (by omega)]
  rw [e, wu64 (by omega) (by omega), zig, if_pos h0]; omega
theorem zig_lt {n : Int} (h1 : -4611686018427387904 ≤ n) (h2 : n ≤ 4611686018427387903) : zig n < 18446744073709551616 := by
  unfold zig; split <;> omega
end Go.Pb
set_option linter.unusedVariables false
set_option linter.unusedSimpArgs false
namespace Go.Sym
open Go.RowKit Go.Pb Go.Deep
section
variable {H : Type} {enc : TypeId × Value → H} {P : Program} {T : TypeId → Prop} {W W' : World}
theorem arg_kept (K : Kids P T) (hz : ∀ t e, T t → P.underlying t = some (.slice e) → 0 < P.cellsOf e) (hb : Below W.heap.size W W') {sp : Nat → Bool} :
    ∀ {ts : List TypeId} {vs : List Value} {ds : List (DataW H)} {ps : List MemPlace}, (∀ t ∈ ts, T t) → DataW.TrodAll enc P W 0 (fun _ => true) true ts vs ds ps → (∀ p ∈ ps, sp p.block = true) → DataW.TrodAll enc P W' 0 sp true ts vs ds ps
  | [], [], [], _, _, h, _ => h
  | t :: ts, v :: vs, d :: ds, ps, hT, ⟨p, q, h1, h2, e⟩, hs => by
    have hlt := h1
    refine ⟨p, q, ?_, arg_kept K hz hb (fun t ht => hT t (List.mem_cons.2 (Or.inr ht))) h2 (fun x hx => hs x (by rw [e]; exact List.mem_append_right _ hx)), e⟩
    have h3 := h1.respare K hz (hT _ (List.mem_cons.2 (Or.inl rfl))) (spare' := sp) (fun x hx => hs x (by rw [e]; exact List.mem_append_left _ hx))
    obtain ⟨n, hn⟩ := h3
    obtain ⟨m, hm⟩ := h1
    exact ⟨n, DataW.trod_carry n _ _ _ hn fun x hx => hb.same (DataW.trod_lt m _ _ _ hm x hx)⟩
theorem u8_of {n : Int} (h : (Lit.int .u8 n).wf = true) : n = ((UInt8.ofNat n.toNat).toNat : Int) := by
  have := bounds_u8 h
  simp
  omega
theorem open_bytes {t e : TypeId} {v : Value} {d : DataW H} {ps : List MemPlace} (ht : P.underlying t = some (.slice e)) (he : P.underlying e = some (.int .u8)) (hc : P.cellsOf e = 1)
    (h : DataW.Trod enc P W 0 (fun _ => true) true t v d ps) (hv : v.cells = #[v]) : ∃ l : List UInt8, l.length ≤ 9223372036854775807 ∧ VRel (topR W) (.lst (bytesC l)) v := by
  obtain ⟨n, hn⟩ := h
  rcases open_slice1 ht hc hn with ⟨h1, -⟩ | ⟨a, len, cap, m, n', V, D, Pl, h1, h2, h3, h4, h5, h6, h7⟩
  · rw [hv] at h1
    have : v = .slice none 0 0 := by simpa using h1
    subst this
    exact ⟨[], by simp, .lnil0⟩
  · rw [hv] at h1
    have hva : v = .slice (some a) len cap := by simpa using h1
    subst hva
    simp only [if_true] at h5
    have hk : ∀ i, i < len → ∃ k : Int, V i = .int .u8 k ∧ (Lit.int .u8 k).wf = true := by
      intro i hi
      obtain ⟨k, q1, q2, q3⟩ := DataW.trod_int he (h7 i (by omega)).2
      exact ⟨k, by simpa using q1, q3⟩
    by_cases hl0 : len = 0
    · subst hl0
      exact ⟨[], by simp, .lnil a cap⟩
    have hcell := (h7 0 (by omega)).1
    have hadd0 : a.add 0 = a := by simp [Addr.add]
    rw [hadd0] at hcell
    obtain ⟨b, off, spot⟩ := a
    have hspot : spot = none := by
      simp only [World.cell?] at hcell
      split at hcell
      · split at hcell
        · cases hcell
        · rename_i h; cases spot with
          | none => rfl
          | some s => simp at h
      · cases hcell
    subst hspot
    have hrow : ∃ row ty fr, W.heap[b]? = some (.cells row ty fr) := by
      simp only [World.cell?] at hcell
      split at hcell
      · rename_i row ty fr h; exact ⟨row, ty, fr, h⟩
      · cases hcell
    obtain ⟨row, ty, fr, hb⟩ := hrow
    have hget : ∀ i, i < len → row[off + i]? = some (V i) := by
      intro i hi
      have h8 := (h7 i (by omega)).1
      have e1 : (⟨b, off, none⟩ : Addr).add i = ⟨b, off + i, none⟩ := by
        unfold Addr.add
        split
        · rename_i h0; subst h0; rfl
        · rfl
      rw [e1] at h8
      simp only [World.cell?, hb] at h8
      exact h8
    obtain ⟨F, hF⟩ : ∃ F : Nat → UInt8, ∀ i, i < len → V i = .int .u8 ((F i).toNat : Int) := by
      have : ∀ i, ∃ f : UInt8, i < len → V i = .int .u8 (f.toNat : Int) := fun i => by
        by_cases hi : i < len
        · obtain ⟨k, q1, q2⟩ := hk i hi
          exact ⟨UInt8.ofNat k.toNat, fun _ => by rw [q1, ← u8_of q2]⟩
        · exact ⟨0, fun h => absurd h hi⟩
      exact ⟨fun i => Classical.choose (this i), fun i hi => Classical.choose_spec (this i) hi⟩
    refine ⟨(List.range len).map F, by simp only [List.length_map, List.length_range]; simp only [maxLen] at h4; omega, ?_⟩
    have hcl : cellsL (bytesC ((List.range len).map F)) = bytesC ((List.range len).map F) := cellsL_map1 (fun _ => rfl) _
    have hlen : (bytesC ((List.range len).map F)).length = len := by rw [bytesC_len]; simp
    refine .lst _ _ 1 b off cap row (topR_cells hb) hlen.symm h3 h4 (fun x hx => by obtain ⟨y, -, rfl⟩ := List.mem_map.1 hx; rfl) ?_ ?_ ?_
    · rw [hcl, hlen]
      have := (Array.getElem?_eq_some_iff.1 (hget (len - 1) (by omega))).1
      omega
    · rw [hcl]; intro x hx; obtain ⟨y, -, rfl⟩ := List.mem_map.1 hx; rfl
    · rw [hcl]
      intro k x y hx hy
      have hkl : k < len := by have := (List.getElem?_eq_some_iff.1 hx).1; omega
      rw [hget k hkl, hF k hkl] at hy
      cases hy
      have hx2 : (bytesC ((List.range len).map F))[k]? = some (DV.int .u8 ((F k).toNat : Int)) := by simp [bytesC, hkl]
      rw [hx2] at hx
      cases hx
      exact .int _ _
end
end Go.Sym
set_option maxHeartbeats 4000000
set_option maxRecDepth 100000
set_option linter.unusedVariables false
namespace Go.Proofs.YtcallbfckjlagaaDoor
open Go.Eng (IC IOper DReg IFn IsFn)
open Go.Sym
noncomputable section
def u67_2r : List IOper := [⟨some 7, .pur (.mv (.t 0)), none⟩, ⟨some 8, .pur (.mv (.t 1)), none⟩, ⟨some 9, .pur (.bin .geq (.t 7) (.t 8)), none⟩, ⟨some 10, .pur (.mv (.t 9)), none⟩, ⟨some 11, .pur (.mv (.t 0)), some (10, true)⟩, ⟨some 12, .pur (.mv (.t 2)), some (10, true)⟩, ⟨some 13, .pur (.bin .leq (.t 11) (.t 12)), some (10, true)⟩, ⟨some 14, .pur (.pick (.t 10) (.t 13) (.k (.bool false))), none⟩, ⟨some 6, .pur (.mv (.t 14)), none⟩]
def u67_2 : IC := .seq (.reg u67_2r) .ret
def u67_1r : List IOper := [⟨some 6, .pur (.mv (.k (.bool false))), none⟩]
def u67_1 : IC := .seq (.reg u67_1r) u67_2
def u67 : IFn := ⟨15, u67_1, [.tmp 6]⟩
end
theorem isU67 : IsFn Tryd.prog 67 u67 := by unfold IsFn; kernel_rfl
instance i67_2 : WR Tryd.prog 15 u67_2 (rS u67_2r .ret [0, 1, 2]) := ⟨mkS⟩
instance i67_1 : WR Tryd.prog 15 u67_1 (rS u67_1r u67_2 [0, 1, 2]) := ⟨mkS⟩
attribute [go_sem] u67_2r u67_1r
noncomputable section
def u53_2r : List IOper := [⟨some 3, .pur (.fad 0 (.t 1)), none⟩, ⟨some 4, .pur (.ld 1 false (.t 3)), none⟩, ⟨some 5, .pur (.len (.t 4)), none⟩, ⟨some 6, .pur (.bin .leq (.t 5) (.k (.int .i64 4000))), none⟩, ⟨some 7, .pur (.mv (.t 6)), none⟩, ⟨some 8, .pur (.fad 1 (.t 1)), some (7, true)⟩, ⟨some 9, .pur (.ld 1 false (.t 8)), some (7, true)⟩, ⟨some 10, .pur (.len (.t 9)), some (7, true)⟩, ⟨some 11, .pur (.bin .leq (.t 10) (.k (.int .i64 200))), some (7, true)⟩, ⟨some 12, .pur (.pick (.t 7) (.t 11) (.k (.bool false))), none⟩, ⟨some 13, .pur (.mv (.t 12)), none⟩, ⟨some 14, .pur (.fad 2 (.t 1)), some (13, true)⟩, ⟨some 15, .pur (.ld 1 false (.t 14)), some (13, true)⟩, ⟨some 16, .pur (.len (.t 15)), some (13, true)⟩, ⟨some 17, .pur (.bin .leq (.t 16) (.k (.int .i64 512))), some (13, true)⟩, ⟨some 18, .pur (.pick (.t 13) (.t 17) (.k (.bool false))), none⟩, ⟨some 19, .pur (.mv (.t 18)), none⟩, ⟨some 20, .pur (.fad 3 (.t 1)), some (19, true)⟩, ⟨some 21, .pur (.ld 1 false (.t 20)), some (19, true)⟩, ⟨some 22, .pur (.len (.t 21)), some (19, true)⟩, ⟨some 23, .pur (.bin .leq (.t 22) (.k (.int .i64 16))), some (19, true)⟩, ⟨some 24, .pur (.pick (.t 19) (.t 23) (.k (.bool false))), none⟩, ⟨some 25, .pur (.mv (.t 24)), none⟩, ⟨some 26, .pur (.fad 4 (.t 1)), some (25, true)⟩, ⟨some 27, .pur (.ld 1 false (.t 26)), some (25, true)⟩, ⟨some 28, .pur (.len (.t 27)), some (25, true)⟩, ⟨some 29, .pur (.bin .leq (.t 28) (.k (.int .i64 128))), some (25, true)⟩, ⟨some 30, .pur (.pick (.t 25) (.t 29) (.k (.bool false))), none⟩, ⟨some 31, .pur (.mv (.t 30)), none⟩, ⟨some 32, .pur (.fad 5 (.t 1)), some (31, true)⟩, ⟨some 33, .pur (.ld 1 false (.t 32)), some (31, true)⟩, ⟨some 34, .call 67 [.t 33, .k (.int .i64 0), .k (.int .i64 128)], some (31, true)⟩, ⟨some 35, .pur (.pick (.t 31) (.t 34) (.k (.bool false))), none⟩, ⟨some 36, .pur (.mv (.t 35)), none⟩, ⟨some 37, .pur (.fad 6 (.t 1)), some (36, true)⟩, ⟨some 38, .pur (.ld 1 false (.t 37)), some (36, true)⟩, ⟨some 39, .call 67 [.t 38, .k (.int .i64 0), .k (.int .i64 128)], some (36, true)⟩, ⟨some 40, .pur (.pick (.t 36) (.t 39) (.k (.bool false))), none⟩, ⟨some 2, .pur (.mv (.t 40)), none⟩]
def u53_2 : IC := .seq (.reg u53_2r) .ret
def u53_1r : List IOper := [⟨some 1, .new (.box (.t 0)), none⟩, ⟨some 2, .pur (.mv (.k (.bool false))), none⟩]
def u53_1 : IC := .seq (.reg u53_1r) u53_2
def u53 : IFn := ⟨41, u53_1, [.tmp 2]⟩
end
theorem isU53 : IsFn Tryd.prog 53 u53 := by unfold IsFn; kernel_rfl
instance i53_2 : WR Tryd.prog 41 u53_2 (rS u53_2r .ret [1]) := ⟨mkS⟩
instance i53_1 : WR Tryd.prog 41 u53_1 (rS u53_1r u53_2 [0]) := ⟨mkS⟩
attribute [go_sem] u53_2r u53_1r
noncomputable section
def u70_7 : IC := .cond (.t 7) .skip (.exit 0)
def u70_6r : List IOper := [⟨some 4, .pur (.mv (.t 3)), none⟩, ⟨some 5, .pur (.mv (.t 0)), none⟩, ⟨some 6, .pur (.lens (.t 5)), none⟩, ⟨some 7, .pur (.bin .lss (.t 4) (.t 6)), none⟩]
def u70_6 : IC := .seq (.reg u70_6r) u70_7
def u70_11r : List IOper := [⟨some 2, .pur (.mv (.k (.bool false))), none⟩]
def u70_11 : IC := .seq (.reg u70_11r) .ret
def u70_10 : IC := .cond (.t 19) u70_11 .skip
def u70_9r : List IOper := [⟨some 10, .pur (.mv (.t 0)), none⟩, ⟨some 11, .pur (.mv (.t 3)), none⟩, ⟨some 12, .pur (.idx (.t 10) (.t 11)), none⟩, ⟨some 13, .pur (.bin .lss (.t 12) (.k (.int .u8 32))), none⟩, ⟨some 14, .pur (.mv (.t 13)), none⟩, ⟨some 15, .pur (.mv (.t 0)), some (14, false)⟩, ⟨some 16, .pur (.mv (.t 3)), some (14, false)⟩, ⟨some 17, .pur (.idx (.t 15) (.t 16)), some (14, false)⟩, ⟨some 18, .pur (.bin .gtr (.t 17) (.k (.int .u8 126))), some (14, false)⟩, ⟨some 19, .pur (.pick (.t 14) (.k (.bool true)) (.t 18)), none⟩]
def u70_9 : IC := .seq (.reg u70_9r) u70_10
def u70_12r : List IOper := [⟨some 8, .pur (.mv (.t 3)), none⟩, ⟨some 9, .pur (.bin .add (.t 8) (.k (.int .i64 1))), none⟩, ⟨some 3, .pur (.mv (.t 9)), none⟩]
def u70_12 : IC := .reg u70_12r
def u70_8 : IC := .seq (.blk 1 u70_9) u70_12
def u70_5 : IC := .seq u70_6 u70_8
def u70_4 : IC := .blk 0 (.loop u70_5)
def u70_3r : List IOper := [⟨some 3, .pur (.mv (.k (.int .i64 0))), none⟩]
def u70_3 : IC := .seq (.reg u70_3r) u70_4
def u70_13r : List IOper := [⟨some 20, .pur (.mv (.t 0)), none⟩, ⟨some 21, .pur (.lens (.t 20)), none⟩, ⟨some 22, .pur (.bin .leq (.t 21) (.k (.int .i64 32))), none⟩, ⟨some 2, .pur (.mv (.t 22)), none⟩]
def u70_13 : IC := .seq (.reg u70_13r) .ret
def u70_2 : IC := .seq u70_3 u70_13
def u70_1r : List IOper := [⟨some 2, .pur (.mv (.k (.bool false))), none⟩]
def u70_1 : IC := .seq (.reg u70_1r) u70_2
def u70 : IFn := ⟨23, u70_1, [.tmp 2]⟩
end
theorem isU70 : IsFn Tryd.prog 70 u70 := by unfold IsFn; kernel_rfl
instance i70_7 : WR Tryd.prog 23 u70_7 (rCE (.t 7) .skip (.exit 0) [0, 3, 7]) := ⟨mkCE⟩
instance i70_6 : WR Tryd.prog 23 u70_6 (rS u70_6r u70_7 [0, 3]) := ⟨mkS⟩
instance i70_11 : WR Tryd.prog 23 u70_11 (rS u70_11r .ret []) := ⟨mkS⟩
instance i70_10 : WR Tryd.prog 23 u70_10 (rCE (.t 19) u70_11 .skip [0, 3, 19]) := ⟨mkCE⟩
instance i70_9 : WR Tryd.prog 23 u70_9 (rS u70_9r u70_10 [0, 3]) := ⟨mkS⟩
instance i70_12 : WR Tryd.prog 23 u70_12 (rE u70_12r [0, 3]) := ⟨mkE⟩
instance i70_8 : WR Tryd.prog 23 u70_8 (rB 1 u70_9 u70_12 [0, 3]) := ⟨mkB⟩
instance i70_5 : WR Tryd.prog 23 u70_5 (rQ u70_6 u70_8 [0, 3]) := ⟨mkQ⟩
instance i70_4 : WR Tryd.prog 23 u70_4 (rBE 0 (.loop u70_5) [0, 3]) := ⟨mkBE⟩
instance i70_3 : WR Tryd.prog 23 u70_3 (rS u70_3r u70_4 [0]) := ⟨mkS⟩
instance i70_13 : WR Tryd.prog 23 u70_13 (rS u70_13r .ret [0]) := ⟨mkS⟩
instance i70_2 : WR Tryd.prog 23 u70_2 (rQ u70_3 u70_13 [0]) := ⟨mkQ⟩
instance i70_1 : WR Tryd.prog 23 u70_1 (rS u70_1r u70_2 [0]) := ⟨mkS⟩
attribute [go_sem] u70_6r u70_11r u70_9r u70_12r u70_3r u70_13r u70_1r
noncomputable section
def u76_5r : List IOper := [⟨some 4, .pur (.mv (.k (.bool false))), none⟩]
def u76_5 : IC := .seq (.reg u76_5r) .ret
def u76_4 : IC := .cond (.t 12) u76_5 .skip
def u76_3r : List IOper := [⟨some 5, .pur (.fad 0 (.t 3)), none⟩, ⟨some 6, .pur (.ld 1 false (.t 5)), none⟩, ⟨some 7, .pur (.fad 3 (.t 2)), none⟩, ⟨some 8, .pur (.ld 1 false (.t 7)), none⟩, ⟨some 9, .pur (.len (.t 8)), none⟩, ⟨some 10, .pur (.bin .sub (.t 9) (.k (.int .i64 1))), none⟩, ⟨some 11, .call 67 [.t 6, .k (.int .i64 0), .t 10], none⟩, ⟨some 12, .pur (.un .not (.t 11)), none⟩]
def u76_3 : IC := .seq (.reg u76_3r) u76_4
def u76_12r : List IOper := [⟨some 17, .pur (.bin .eql (.t 14) (.k (.int .i64 2))), none⟩, ⟨some 15, .pur (.mv (.t 17)), none⟩]
def u76_12 : IC := .reg u76_12r
def u76_11 : IC := .cond (.t 15) .skip u76_12
def u76_10r : List IOper := [⟨some 16, .pur (.bin .eql (.t 14) (.k (.int .i64 1))), none⟩, ⟨some 15, .pur (.mv (.t 16)), none⟩]
def u76_10 : IC := .seq (.reg u76_10r) u76_11
def u76_14r : List IOper := [⟨some 18, .pur (.fad 2 (.t 3)), none⟩, ⟨some 19, .pur (.ld 1 false (.t 18)), none⟩, ⟨some 20, .pur (.bin .eql (.t 19) (.k (.int .i64 0))), none⟩, ⟨some 4, .pur (.mv (.t 20)), none⟩]
def u76_14 : IC := .seq (.reg u76_14r) .ret
def u76_18r : List IOper := [⟨some 23, .pur (.bin .eql (.t 14) (.k (.int .i64 4))), none⟩, ⟨some 21, .pur (.mv (.t 23)), none⟩]
def u76_18 : IC := .reg u76_18r
def u76_17 : IC := .cond (.t 21) .skip u76_18
def u76_16r : List IOper := [⟨some 22, .pur (.bin .eql (.t 14) (.k (.int .i64 3))), none⟩, ⟨some 21, .pur (.mv (.t 22)), none⟩]
def u76_16 : IC := .seq (.reg u76_16r) u76_17
def u76_20r : List IOper := [⟨some 24, .pur (.fad 2 (.t 3)), none⟩, ⟨some 25, .pur (.ld 1 false (.t 24)), none⟩, ⟨some 26, .call 67 [.t 25, .k (.int .i64 0), .k (.int .i64 63)], none⟩, ⟨some 4, .pur (.mv (.t 26)), none⟩]
def u76_20 : IC := .seq (.reg u76_20r) .ret
def u76_23r : List IOper := [⟨some 29, .pur (.fad 2 (.t 3)), none⟩, ⟨some 30, .pur (.ld 1 false (.t 29)), none⟩, ⟨some 31, .pur (.fad 5 (.t 2)), none⟩, ⟨some 32, .pur (.ld 1 false (.t 31)), none⟩, ⟨some 33, .pur (.bin .sub (.t 32) (.k (.int .i64 1))), none⟩, ⟨some 34, .call 67 [.t 30, .k (.int .i64 0), .t 33], none⟩, ⟨some 4, .pur (.mv (.t 34)), none⟩]
def u76_23 : IC := .seq (.reg u76_23r) .ret
def u76_26r : List IOper := [⟨some 37, .pur (.fad 2 (.t 3)), none⟩, ⟨some 38, .pur (.ld 1 false (.t 37)), none⟩, ⟨some 39, .pur (.fad 6 (.t 2)), none⟩, ⟨some 40, .pur (.ld 1 false (.t 39)), none⟩, ⟨some 41, .pur (.bin .sub (.t 40) (.k (.int .i64 1))), none⟩, ⟨some 42, .call 67 [.t 38, .k (.int .i64 0), .t 41], none⟩, ⟨some 4, .pur (.mv (.t 42)), none⟩]
def u76_26 : IC := .seq (.reg u76_26r) .ret
def u76_25 : IC := .cond (.t 35) u76_26 .skip
def u76_24r : List IOper := [⟨some 36, .pur (.bin .eql (.t 14) (.k (.int .i64 6))), none⟩, ⟨some 35, .pur (.mv (.t 36)), none⟩]
def u76_24 : IC := .seq (.reg u76_24r) u76_25
def u76_22 : IC := .cond (.t 27) u76_23 u76_24
def u76_21r : List IOper := [⟨some 28, .pur (.bin .eql (.t 14) (.k (.int .i64 5))), none⟩, ⟨some 27, .pur (.mv (.t 28)), none⟩]
def u76_21 : IC := .seq (.reg u76_21r) u76_22
def u76_19 : IC := .cond (.t 21) u76_20 u76_21
def u76_15 : IC := .seq u76_16 u76_19
def u76_13 : IC := .cond (.t 15) u76_14 u76_15
def u76_9 : IC := .seq u76_10 u76_13
def u76_8 : IC := .blk 0 u76_9
def u76_7r : List IOper := [⟨some 13, .pur (.fad 1 (.t 3)), none⟩, ⟨some 14, .pur (.ld 1 false (.t 13)), none⟩]
def u76_7 : IC := .seq (.reg u76_7r) u76_8
def u76_27r : List IOper := [⟨some 4, .pur (.mv (.k (.bool false))), none⟩]
def u76_27 : IC := .seq (.reg u76_27r) .ret
def u76_6 : IC := .seq u76_7 u76_27
def u76_2 : IC := .seq u76_3 u76_6
def u76_1r : List IOper := [⟨some 2, .new (.box (.t 0)), none⟩, ⟨some 3, .new (.box (.t 1)), none⟩, ⟨some 4, .pur (.mv (.k (.bool false))), none⟩]
def u76_1 : IC := .seq (.reg u76_1r) u76_2
def u76 : IFn := ⟨43, u76_1, [.tmp 4]⟩
end
theorem isU76 : IsFn Tryd.prog 76 u76 := by unfold IsFn; kernel_rfl
instance i76_5 : WR Tryd.prog 43 u76_5 (rS u76_5r .ret []) := ⟨mkS⟩
instance i76_4 : WR Tryd.prog 43 u76_4 (rCE (.t 12) u76_5 .skip [2, 3, 12]) := ⟨mkCE⟩
instance i76_3 : WR Tryd.prog 43 u76_3 (rS u76_3r u76_4 [2, 3]) := ⟨mkS⟩
instance i76_12 : WR Tryd.prog 43 u76_12 (rE u76_12r [2, 3, 14]) := ⟨mkE⟩
instance i76_11 : WR Tryd.prog 43 u76_11 (rCE (.t 15) .skip u76_12 [2, 3, 14, 15]) := ⟨mkCE⟩
instance i76_10 : WR Tryd.prog 43 u76_10 (rS u76_10r u76_11 [2, 3, 14]) := ⟨mkS⟩
instance i76_14 : WR Tryd.prog 43 u76_14 (rS u76_14r .ret [3]) := ⟨mkS⟩
instance i76_18 : WR Tryd.prog 43 u76_18 (rE u76_18r [2, 3, 14]) := ⟨mkE⟩
instance i76_17 : WR Tryd.prog 43 u76_17 (rCE (.t 21) .skip u76_18 [2, 3, 14, 21]) := ⟨mkCE⟩
instance i76_16 : WR Tryd.prog 43 u76_16 (rS u76_16r u76_17 [2, 3, 14]) := ⟨mkS⟩
instance i76_20 : WR Tryd.prog 43 u76_20 (rS u76_20r .ret [3]) := ⟨mkS⟩
instance i76_23 : WR Tryd.prog 43 u76_23 (rS u76_23r .ret [2, 3]) := ⟨mkS⟩
instance i76_26 : WR Tryd.prog 43 u76_26 (rS u76_26r .ret [2, 3]) := ⟨mkS⟩
instance i76_25 : WR Tryd.prog 43 u76_25 (rCE (.t 35) u76_26 .skip [2, 3, 35]) := ⟨mkCE⟩
instance i76_24 : WR Tryd.prog 43 u76_24 (rS u76_24r u76_25 [2, 3, 14]) := ⟨mkS⟩
instance i76_22 : WR Tryd.prog 43 u76_22 (rCE (.t 27) u76_23 u76_24 [2, 3, 14, 27]) := ⟨mkCE⟩
instance i76_21 : WR Tryd.prog 43 u76_21 (rS u76_21r u76_22 [2, 3, 14]) := ⟨mkS⟩
instance i76_19 : WR Tryd.prog 43 u76_19 (rCE (.t 21) u76_20 u76_21 [2, 3, 14, 21]) := ⟨mkCE⟩
instance i76_15 : WR Tryd.prog 43 u76_15 (rQ u76_16 u76_19 [2, 3, 14]) := ⟨mkQ⟩
instance i76_13 : WR Tryd.prog 43 u76_13 (rCE (.t 15) u76_14 u76_15 [2, 3, 14, 15]) := ⟨mkCE⟩
instance i76_9 : WR Tryd.prog 43 u76_9 (rQ u76_10 u76_13 [2, 3, 14]) := ⟨mkQ⟩
instance i76_8 : WR Tryd.prog 43 u76_8 (rBE 0 u76_9 [2, 3, 14]) := ⟨mkBE⟩
instance i76_7 : WR Tryd.prog 43 u76_7 (rS u76_7r u76_8 [2, 3]) := ⟨mkS⟩
instance i76_27 : WR Tryd.prog 43 u76_27 (rS u76_27r .ret []) := ⟨mkS⟩
instance i76_6 : WR Tryd.prog 43 u76_6 (rQ u76_7 u76_27 [2, 3]) := ⟨mkQ⟩
instance i76_2 : WR Tryd.prog 43 u76_2 (rQ u76_3 u76_6 [2, 3]) := ⟨mkQ⟩
instance i76_1 : WR Tryd.prog 43 u76_1 (rS u76_1r u76_2 [0, 1]) := ⟨mkS⟩
attribute [go_sem] u76_5r u76_3r u76_12r u76_10r u76_14r u76_18r u76_16r u76_20r u76_23r u76_26r u76_24r u76_21r u76_7r u76_27r u76_1r
noncomputable section
def u78_2r : List IOper := [⟨some 3, .pur (.mv (.t 0)), none⟩, ⟨some 4, .pur (.bin .eql (.t 3) (.k (.int .i64 12))), none⟩, ⟨some 5, .pur (.mv (.t 4)), none⟩, ⟨some 6, .pur (.mv (.t 0)), some (5, false)⟩, ⟨some 7, .pur (.bin .eql (.t 6) (.k (.int .i64 13))), some (5, false)⟩, ⟨some 8, .pur (.pick (.t 5) (.k (.bool true)) (.t 7)), none⟩, ⟨some 9, .pur (.mv (.t 8)), none⟩, ⟨some 10, .pur (.mv (.t 0)), some (9, false)⟩, ⟨some 11, .pur (.bin .eql (.t 10) (.k (.int .i64 14))), some (9, false)⟩, ⟨some 12, .pur (.pick (.t 9) (.k (.bool true)) (.t 11)), none⟩, ⟨some 2, .pur (.mv (.t 12)), none⟩]
def u78_2 : IC := .seq (.reg u78_2r) .ret
def u78_1r : List IOper := [⟨some 2, .pur (.mv (.k (.bool false))), none⟩]
def u78_1 : IC := .seq (.reg u78_1r) u78_2
def u78 : IFn := ⟨13, u78_1, [.tmp 2]⟩
end
theorem isU78 : IsFn Tryd.prog 78 u78 := by unfold IsFn; kernel_rfl
instance i78_2 : WR Tryd.prog 13 u78_2 (rS u78_2r .ret [0]) := ⟨mkS⟩
instance i78_1 : WR Tryd.prog 13 u78_1 (rS u78_1r u78_2 [0]) := ⟨mkS⟩
attribute [go_sem] u78_2r u78_1r
noncomputable section
def u77_7r : List IOper := [⟨some 4, .pur (.mv (.k (.int .i64 (-2147483647)))), none⟩, ⟨some 5, .pur (.mv (.k (.int .i64 2147483647))), none⟩]
def u77_7 : IC := .seq (.reg u77_7r) .ret
def u77_11r : List IOper := [⟨some 11, .pur (.bin .eql (.t 6) (.k (.int .i64 3))), none⟩, ⟨some 9, .pur (.mv (.t 11)), none⟩]
def u77_11 : IC := .reg u77_11r
def u77_10 : IC := .cond (.t 9) .skip u77_11
def u77_9r : List IOper := [⟨some 10, .pur (.bin .eql (.t 6) (.k (.int .i64 2))), none⟩, ⟨some 9, .pur (.mv (.t 10)), none⟩]
def u77_9 : IC := .seq (.reg u77_9r) u77_10
def u77_13r : DReg := ⟨[⟨some 12, .pur (.fad 4 (.t 2)), none⟩, ⟨some 13, .pur (.ld 1 false (.t 12)), none⟩, ⟨some 14, .pur (.len (.t 13)), none⟩, ⟨some 15, .pur (.bin .sub (.t 14) (.k (.int .i64 1))), none⟩, ⟨some 4, .pur (.mv (.k (.int .i64 0))), none⟩, ⟨some 5, .pur (.mv (.t 15)), none⟩], [[], [0], [1, 0], [2, 1, 0], [], [3, 4, 0, 1, 2]], [(0, none), (1, none), (2, none), (3, none), (4, some [0, 1, 2, 3]), (5, some [])]⟩
def u77_13 : IC := .seq (.drw 6 u77_13r) .ret
def u77_16r : List IOper := [⟨some 4, .pur (.mv (.k (.int .i64 0))), none⟩, ⟨some 5, .pur (.mv (.k (.int .i64 63))), none⟩]
def u77_16 : IC := .seq (.reg u77_16r) .ret
def u77_22r : List IOper := [⟨some 21, .pur (.bin .eql (.t 6) (.k (.int .i64 24))), none⟩, ⟨some 18, .pur (.mv (.t 21)), none⟩]
def u77_22 : IC := .reg u77_22r
def u77_21 : IC := .cond (.t 18) .skip u77_22
def u77_20r : List IOper := [⟨some 20, .pur (.bin .eql (.t 6) (.k (.int .i64 23))), none⟩, ⟨some 18, .pur (.mv (.t 20)), none⟩]
def u77_20 : IC := .seq (.reg u77_20r) u77_21
def u77_19 : IC := .cond (.t 18) .skip u77_20
def u77_18r : List IOper := [⟨some 19, .pur (.bin .eql (.t 6) (.k (.int .i64 5))), none⟩, ⟨some 18, .pur (.mv (.t 19)), none⟩]
def u77_18 : IC := .seq (.reg u77_18r) u77_19
def u77_24r : DReg := ⟨[⟨some 22, .pur (.fad 3 (.t 2)), none⟩, ⟨some 23, .pur (.ld 1 false (.t 22)), none⟩, ⟨some 24, .pur (.len (.t 23)), none⟩, ⟨some 25, .pur (.bin .sub (.t 24) (.k (.int .i64 1))), none⟩, ⟨some 4, .pur (.mv (.k (.int .i64 0))), none⟩, ⟨some 5, .pur (.mv (.t 25)), none⟩], [[], [0], [1, 0], [2, 1, 0], [], [3, 4, 0, 1, 2]], [(0, none), (1, none), (2, none), (3, none), (4, some [0, 1, 2, 3]), (5, some [])]⟩
def u77_24 : IC := .seq (.drw 6 u77_24r) .ret
def u77_30r : List IOper := [⟨some 29, .pur (.bin .eql (.t 6) (.k (.int .i64 22))), none⟩, ⟨some 26, .pur (.mv (.t 29)), none⟩]
def u77_30 : IC := .reg u77_30r
def u77_29 : IC := .cond (.t 26) .skip u77_30
def u77_28r : List IOper := [⟨some 28, .pur (.bin .eql (.t 6) (.k (.int .i64 21))), none⟩, ⟨some 26, .pur (.mv (.t 28)), none⟩]
def u77_28 : IC := .seq (.reg u77_28r) u77_29
def u77_27 : IC := .cond (.t 26) .skip u77_28
def u77_26r : List IOper := [⟨some 27, .pur (.bin .eql (.t 6) (.k (.int .i64 6))), none⟩, ⟨some 26, .pur (.mv (.t 27)), none⟩]
def u77_26 : IC := .seq (.reg u77_26r) u77_27
def u77_32r : DReg := ⟨[⟨some 30, .pur (.fad 5 (.t 2)), none⟩, ⟨some 31, .pur (.ld 1 false (.t 30)), none⟩, ⟨some 32, .pur (.bin .sub (.t 31) (.k (.int .i64 1))), none⟩, ⟨some 4, .pur (.mv (.k (.int .i64 0))), none⟩, ⟨some 5, .pur (.mv (.t 32)), none⟩], [[], [0], [1, 0], [], [2, 3, 0, 1]], [(0, none), (1, none), (2, none), (3, some [0, 1, 2]), (4, some [])]⟩
def u77_32 : IC := .seq (.drw 5 u77_32r) .ret
def u77_35r : List IOper := [⟨some 4, .pur (.mv (.k (.int .i64 12))), none⟩, ⟨some 5, .pur (.mv (.k (.int .i64 24))), none⟩]
def u77_35 : IC := .seq (.reg u77_35r) .ret
def u77_41r : List IOper := [⟨some 38, .pur (.bin .eql (.t 6) (.k (.int .i64 18))), none⟩, ⟨some 35, .pur (.mv (.t 38)), none⟩]
def u77_41 : IC := .reg u77_41r
def u77_40 : IC := .cond (.t 35) .skip u77_41
def u77_39r : List IOper := [⟨some 37, .pur (.bin .eql (.t 6) (.k (.int .i64 17))), none⟩, ⟨some 35, .pur (.mv (.t 37)), none⟩]
def u77_39 : IC := .seq (.reg u77_39r) u77_40
def u77_38 : IC := .cond (.t 35) .skip u77_39
def u77_37r : List IOper := [⟨some 36, .pur (.bin .eql (.t 6) (.k (.int .i64 16))), none⟩, ⟨some 35, .pur (.mv (.t 36)), none⟩]
def u77_37 : IC := .seq (.reg u77_37r) u77_38
def u77_43r : List IOper := [⟨some 4, .pur (.mv (.k (.int .i64 0))), none⟩, ⟨some 5, .pur (.mv (.k (.int .i64 31))), none⟩]
def u77_43 : IC := .seq (.reg u77_43r) .ret
def u77_53r : List IOper := [⟨some 44, .pur (.bin .eql (.t 6) (.k (.int .i64 28))), none⟩, ⟨some 39, .pur (.mv (.t 44)), none⟩]
def u77_53 : IC := .reg u77_53r
def u77_52 : IC := .cond (.t 39) .skip u77_53
def u77_51r : List IOper := [⟨some 43, .pur (.bin .eql (.t 6) (.k (.int .i64 27))), none⟩, ⟨some 39, .pur (.mv (.t 43)), none⟩]
def u77_51 : IC := .seq (.reg u77_51r) u77_52
def u77_50 : IC := .cond (.t 39) .skip u77_51
def u77_49r : List IOper := [⟨some 42, .pur (.bin .eql (.t 6) (.k (.int .i64 26))), none⟩, ⟨some 39, .pur (.mv (.t 42)), none⟩]
def u77_49 : IC := .seq (.reg u77_49r) u77_50
def u77_48 : IC := .cond (.t 39) .skip u77_49
def u77_47r : List IOper := [⟨some 41, .pur (.bin .eql (.t 6) (.k (.int .i64 20))), none⟩, ⟨some 39, .pur (.mv (.t 41)), none⟩]
def u77_47 : IC := .seq (.reg u77_47r) u77_48
def u77_46 : IC := .cond (.t 39) .skip u77_47
def u77_45r : List IOper := [⟨some 40, .pur (.bin .eql (.t 6) (.k (.int .i64 19))), none⟩, ⟨some 39, .pur (.mv (.t 40)), none⟩]
def u77_45 : IC := .seq (.reg u77_45r) u77_46
def u77_55r : List IOper := [⟨some 4, .pur (.mv (.k (.int .i64 0))), none⟩, ⟨some 5, .pur (.mv (.k (.int .i64 63))), none⟩]
def u77_55 : IC := .seq (.reg u77_55r) .ret
def u77_58r : DReg := ⟨[⟨some 47, .pur (.fad 6 (.t 2)), none⟩, ⟨some 48, .pur (.ld 1 false (.t 47)), none⟩, ⟨some 49, .pur (.bin .sub (.t 48) (.k (.int .i64 1))), none⟩, ⟨some 4, .pur (.mv (.k (.int .i64 0))), none⟩, ⟨some 5, .pur (.mv (.t 49)), none⟩], [[], [0], [1, 0], [], [2, 3, 0, 1]], [(0, none), (1, none), (2, none), (3, some [0, 1, 2]), (4, some [])]⟩
def u77_58 : IC := .seq (.drw 5 u77_58r) .ret
def u77_61r : DReg := ⟨[⟨some 52, .pur (.fad 1 (.t 2)), none⟩, ⟨some 53, .pur (.ld 1 false (.t 52)), none⟩, ⟨some 54, .pur (.len (.t 53)), none⟩, ⟨some 55, .pur (.bin .sub (.t 54) (.k (.int .i64 1))), none⟩, ⟨some 4, .pur (.mv (.k (.int .i64 0))), none⟩, ⟨some 5, .pur (.mv (.t 55)), none⟩], [[], [0], [1, 0], [2, 1, 0], [], [3, 4, 0, 1, 2]], [(0, none), (1, none), (2, none), (3, none), (4, some [0, 1, 2, 3]), (5, some [])]⟩
def u77_61 : IC := .seq (.drw 6 u77_61r) .ret
def u77_75r : List IOper := [⟨some 63, .pur (.bin .eql (.t 6) (.k (.int .i64 31))), none⟩, ⟨some 56, .pur (.mv (.t 63)), none⟩]
def u77_75 : IC := .reg u77_75r
def u77_74 : IC := .cond (.t 56) .skip u77_75
def u77_73r : List IOper := [⟨some 62, .pur (.bin .eql (.t 6) (.k (.int .i64 30))), none⟩, ⟨some 56, .pur (.mv (.t 62)), none⟩]
def u77_73 : IC := .seq (.reg u77_73r) u77_74
def u77_72 : IC := .cond (.t 56) .skip u77_73
def u77_71r : List IOper := [⟨some 61, .pur (.bin .eql (.t 6) (.k (.int .i64 15))), none⟩, ⟨some 56, .pur (.mv (.t 61)), none⟩]
def u77_71 : IC := .seq (.reg u77_71r) u77_72
def u77_70 : IC := .cond (.t 56) .skip u77_71
def u77_69r : List IOper := [⟨some 60, .pur (.bin .eql (.t 6) (.k (.int .i64 10))), none⟩, ⟨some 56, .pur (.mv (.t 60)), none⟩]
def u77_69 : IC := .seq (.reg u77_69r) u77_70
def u77_68 : IC := .cond (.t 56) .skip u77_69
def u77_67r : List IOper := [⟨some 59, .pur (.bin .eql (.t 6) (.k (.int .i64 9))), none⟩, ⟨some 56, .pur (.mv (.t 59)), none⟩]
def u77_67 : IC := .seq (.reg u77_67r) u77_68
def u77_66 : IC := .cond (.t 56) .skip u77_67
def u77_65r : List IOper := [⟨some 58, .pur (.bin .eql (.t 6) (.k (.int .i64 8))), none⟩, ⟨some 56, .pur (.mv (.t 58)), none⟩]
def u77_65 : IC := .seq (.reg u77_65r) u77_66
def u77_64 : IC := .cond (.t 56) .skip u77_65
def u77_63r : List IOper := [⟨some 57, .pur (.bin .eql (.t 6) (.k (.int .i64 7))), none⟩, ⟨some 56, .pur (.mv (.t 57)), none⟩]
def u77_63 : IC := .seq (.reg u77_63r) u77_64
def u77_77r : List IOper := [⟨some 4, .pur (.mv (.k (.int .i64 0))), none⟩, ⟨some 5, .pur (.mv (.k (.int .i64 0))), none⟩]
def u77_77 : IC := .seq (.reg u77_77r) .ret
def u77_76 : IC := .cond (.t 56) u77_77 .skip
def u77_62 : IC := .seq u77_63 u77_76
def u77_60 : IC := .cond (.t 50) u77_61 u77_62
def u77_59r : List IOper := [⟨some 51, .pur (.bin .eql (.t 6) (.k (.int .i64 29))), none⟩, ⟨some 50, .pur (.mv (.t 51)), none⟩]
def u77_59 : IC := .seq (.reg u77_59r) u77_60
def u77_57 : IC := .cond (.t 45) u77_58 u77_59
def u77_56r : List IOper := [⟨some 46, .pur (.bin .eql (.t 6) (.k (.int .i64 25))), none⟩, ⟨some 45, .pur (.mv (.t 46)), none⟩]
def u77_56 : IC := .seq (.reg u77_56r) u77_57
def u77_54 : IC := .cond (.t 39) u77_55 u77_56
def u77_44 : IC := .seq u77_45 u77_54
def u77_42 : IC := .cond (.t 35) u77_43 u77_44
def u77_36 : IC := .seq u77_37 u77_42
def u77_34 : IC := .cond (.t 33) u77_35 u77_36
def u77_33r : List IOper := [⟨some 34, .pur (.bin .eql (.t 6) (.k (.int .i64 11))), none⟩, ⟨some 33, .pur (.mv (.t 34)), none⟩]
def u77_33 : IC := .seq (.reg u77_33r) u77_34
def u77_31 : IC := .cond (.t 26) u77_32 u77_33
def u77_25 : IC := .seq u77_26 u77_31
def u77_23 : IC := .cond (.t 18) u77_24 u77_25
def u77_17 : IC := .seq u77_18 u77_23
def u77_15 : IC := .cond (.t 16) u77_16 u77_17
def u77_14r : List IOper := [⟨some 17, .pur (.bin .eql (.t 6) (.k (.int .i64 4))), none⟩, ⟨some 16, .pur (.mv (.t 17)), none⟩]
def u77_14 : IC := .seq (.reg u77_14r) u77_15
def u77_12 : IC := .cond (.t 9) u77_13 u77_14
def u77_8 : IC := .seq u77_9 u77_12
def u77_6 : IC := .cond (.t 7) u77_7 u77_8
def u77_5r : List IOper := [⟨some 8, .pur (.bin .eql (.t 6) (.k (.int .i64 1))), none⟩, ⟨some 7, .pur (.mv (.t 8)), none⟩]
def u77_5 : IC := .seq (.reg u77_5r) u77_6
def u77_4 : IC := .blk 0 u77_5
def u77_3r : List IOper := [⟨some 6, .pur (.mv (.t 1)), none⟩]
def u77_3 : IC := .seq (.reg u77_3r) u77_4
def u77_78r : List IOper := [⟨some 4, .pur (.mv (.k (.int .i64 1))), none⟩, ⟨some 5, .pur (.mv (.k (.int .i64 0))), none⟩]
def u77_78 : IC := .seq (.reg u77_78r) .ret
def u77_2 : IC := .seq u77_3 u77_78
def u77_1r : List IOper := [⟨some 2, .new (.box (.t 0)), none⟩, ⟨some 4, .pur (.mv (.k (.int .i64 0))), none⟩, ⟨some 5, .pur (.mv (.k (.int .i64 0))), none⟩]
def u77_1 : IC := .seq (.reg u77_1r) u77_2
def u77 : IFn := ⟨64, u77_1, [.tmp 4, .tmp 5]⟩
end
theorem isU77 : IsFn Tryd.prog 77 u77 := by unfold IsFn; kernel_rfl
instance i77_7 : WR Tryd.prog 64 u77_7 (rS u77_7r .ret []) := ⟨mkS⟩
instance i77_11 : WR Tryd.prog 64 u77_11 (rE u77_11r [2, 6]) := ⟨mkE⟩
instance i77_10 : WR Tryd.prog 64 u77_10 (rCE (.t 9) .skip u77_11 [2, 6, 9]) := ⟨mkCE⟩
instance i77_9 : WR Tryd.prog 64 u77_9 (rS u77_9r u77_10 [2, 6]) := ⟨mkS⟩
instance i77_13 : WR Tryd.prog 64 u77_13 (rD 6 u77_13r .ret [2]) := ⟨mkD⟩
instance i77_16 : WR Tryd.prog 64 u77_16 (rS u77_16r .ret []) := ⟨mkS⟩
instance i77_22 : WR Tryd.prog 64 u77_22 (rE u77_22r [2, 6]) := ⟨mkE⟩
instance i77_21 : WR Tryd.prog 64 u77_21 (rCE (.t 18) .skip u77_22 [2, 6, 18]) := ⟨mkCE⟩
instance i77_20 : WR Tryd.prog 64 u77_20 (rS u77_20r u77_21 [2, 6]) := ⟨mkS⟩
instance i77_19 : WR Tryd.prog 64 u77_19 (rCE (.t 18) .skip u77_20 [2, 6, 18]) := ⟨mkCE⟩
instance i77_18 : WR Tryd.prog 64 u77_18 (rS u77_18r u77_19 [2, 6]) := ⟨mkS⟩
instance i77_24 : WR Tryd.prog 64 u77_24 (rD 6 u77_24r .ret [2]) := ⟨mkD⟩
instance i77_30 : WR Tryd.prog 64 u77_30 (rE u77_30r [2, 6]) := ⟨mkE⟩
instance i77_29 : WR Tryd.prog 64 u77_29 (rCE (.t 26) .skip u77_30 [2, 6, 26]) := ⟨mkCE⟩
instance i77_28 : WR Tryd.prog 64 u77_28 (rS u77_28r u77_29 [2, 6]) := ⟨mkS⟩
instance i77_27 : WR Tryd.prog 64 u77_27 (rCE (.t 26) .skip u77_28 [2, 6, 26]) := ⟨mkCE⟩
instance i77_26 : WR Tryd.prog 64 u77_26 (rS u77_26r u77_27 [2, 6]) := ⟨mkS⟩
instance i77_32 : WR Tryd.prog 64 u77_32 (rD 5 u77_32r .ret [2]) := ⟨mkD⟩
instance i77_35 : WR Tryd.prog 64 u77_35 (rS u77_35r .ret []) := ⟨mkS⟩
instance i77_41 : WR Tryd.prog 64 u77_41 (rE u77_41r [2, 6]) := ⟨mkE⟩
instance i77_40 : WR Tryd.prog 64 u77_40 (rCE (.t 35) .skip u77_41 [2, 6, 35]) := ⟨mkCE⟩
instance i77_39 : WR Tryd.prog 64 u77_39 (rS u77_39r u77_40 [2, 6]) := ⟨mkS⟩
instance i77_38 : WR Tryd.prog 64 u77_38 (rCE (.t 35) .skip u77_39 [2, 6, 35]) := ⟨mkCE⟩
instance i77_37 : WR Tryd.prog 64 u77_37 (rS u77_37r u77_38 [2, 6]) := ⟨mkS⟩
instance i77_43 : WR Tryd.prog 64 u77_43 (rS u77_43r .ret []) := ⟨mkS⟩
instance i77_53 : WR Tryd.prog 64 u77_53 (rE u77_53r [2, 6]) := ⟨mkE⟩
instance i77_52 : WR Tryd.prog 64 u77_52 (rCE (.t 39) .skip u77_53 [2, 6, 39]) := ⟨mkCE⟩
instance i77_51 : WR Tryd.prog 64 u77_51 (rS u77_51r u77_52 [2, 6]) := ⟨mkS⟩
instance i77_50 : WR Tryd.prog 64 u77_50 (rCE (.t 39) .skip u77_51 [2, 6, 39]) := ⟨mkCE⟩
instance i77_49 : WR Tryd.prog 64 u77_49 (rS u77_49r u77_50 [2, 6]) := ⟨mkS⟩
instance i77_48 : WR Tryd.prog 64 u77_48 (rCE (.t 39) .skip u77_49 [2, 6, 39]) := ⟨mkCE⟩
instance i77_47 : WR Tryd.prog 64 u77_47 (rS u77_47r u77_48 [2, 6]) := ⟨mkS⟩
instance i77_46 : WR Tryd.prog 64 u77_46 (rCE (.t 39) .skip u77_47 [2, 6, 39]) := ⟨mkCE⟩
instance i77_45 : WR Tryd.prog 64 u77_45 (rS u77_45r u77_46 [2, 6]) := ⟨mkS⟩
instance i77_55 : WR Tryd.prog 64 u77_55 (rS u77_55r .ret []) := ⟨mkS⟩
instance i77_58 : WR Tryd.prog 64 u77_58 (rD 5 u77_58r .ret [2]) := ⟨mkD⟩
instance i77_61 : WR Tryd.prog 64 u77_61 (rD 6 u77_61r .ret [2]) := ⟨mkD⟩
instance i77_75 : WR Tryd.prog 64 u77_75 (rE u77_75r [6]) := ⟨mkE⟩
instance i77_74 : WR Tryd.prog 64 u77_74 (rCE (.t 56) .skip u77_75 [6, 56]) := ⟨mkCE⟩
instance i77_73 : WR Tryd.prog 64 u77_73 (rS u77_73r u77_74 [6]) := ⟨mkS⟩
instance i77_72 : WR Tryd.prog 64 u77_72 (rCE (.t 56) .skip u77_73 [6, 56]) := ⟨mkCE⟩
instance i77_71 : WR Tryd.prog 64 u77_71 (rS u77_71r u77_72 [6]) := ⟨mkS⟩
instance i77_70 : WR Tryd.prog 64 u77_70 (rCE (.t 56) .skip u77_71 [6, 56]) := ⟨mkCE⟩
instance i77_69 : WR Tryd.prog 64 u77_69 (rS u77_69r u77_70 [6]) := ⟨mkS⟩
instance i77_68 : WR Tryd.prog 64 u77_68 (rCE (.t 56) .skip u77_69 [6, 56]) := ⟨mkCE⟩
instance i77_67 : WR Tryd.prog 64 u77_67 (rS u77_67r u77_68 [6]) := ⟨mkS⟩
instance i77_66 : WR Tryd.prog 64 u77_66 (rCE (.t 56) .skip u77_67 [6, 56]) := ⟨mkCE⟩
instance i77_65 : WR Tryd.prog 64 u77_65 (rS u77_65r u77_66 [6]) := ⟨mkS⟩
instance i77_64 : WR Tryd.prog 64 u77_64 (rCE (.t 56) .skip u77_65 [6, 56]) := ⟨mkCE⟩
instance i77_63 : WR Tryd.prog 64 u77_63 (rS u77_63r u77_64 [6]) := ⟨mkS⟩
instance i77_77 : WR Tryd.prog 64 u77_77 (rS u77_77r .ret []) := ⟨mkS⟩
instance i77_76 : WR Tryd.prog 64 u77_76 (rCE (.t 56) u77_77 .skip [56]) := ⟨mkCE⟩
instance i77_62 : WR Tryd.prog 64 u77_62 (rQ u77_63 u77_76 [6]) := ⟨mkQ⟩
instance i77_60 : WR Tryd.prog 64 u77_60 (rCE (.t 50) u77_61 u77_62 [2, 6, 50]) := ⟨mkCE⟩
instance i77_59 : WR Tryd.prog 64 u77_59 (rS u77_59r u77_60 [2, 6]) := ⟨mkS⟩
instance i77_57 : WR Tryd.prog 64 u77_57 (rCE (.t 45) u77_58 u77_59 [2, 6, 45]) := ⟨mkCE⟩
instance i77_56 : WR Tryd.prog 64 u77_56 (rS u77_56r u77_57 [2, 6]) := ⟨mkS⟩
instance i77_54 : WR Tryd.prog 64 u77_54 (rCE (.t 39) u77_55 u77_56 [2, 6, 39]) := ⟨mkCE⟩
instance i77_44 : WR Tryd.prog 64 u77_44 (rQ u77_45 u77_54 [2, 6]) := ⟨mkQ⟩
instance i77_42 : WR Tryd.prog 64 u77_42 (rCE (.t 35) u77_43 u77_44 [2, 6, 35]) := ⟨mkCE⟩
instance i77_36 : WR Tryd.prog 64 u77_36 (rQ u77_37 u77_42 [2, 6]) := ⟨mkQ⟩
instance i77_34 : WR Tryd.prog 64 u77_34 (rCE (.t 33) u77_35 u77_36 [2, 6, 33]) := ⟨mkCE⟩
instance i77_33 : WR Tryd.prog 64 u77_33 (rS u77_33r u77_34 [2, 6]) := ⟨mkS⟩
instance i77_31 : WR Tryd.prog 64 u77_31 (rCE (.t 26) u77_32 u77_33 [2, 6, 26]) := ⟨mkCE⟩
instance i77_25 : WR Tryd.prog 64 u77_25 (rQ u77_26 u77_31 [2, 6]) := ⟨mkQ⟩
instance i77_23 : WR Tryd.prog 64 u77_23 (rCE (.t 18) u77_24 u77_25 [2, 6, 18]) := ⟨mkCE⟩
instance i77_17 : WR Tryd.prog 64 u77_17 (rQ u77_18 u77_23 [2, 6]) := ⟨mkQ⟩
instance i77_15 : WR Tryd.prog 64 u77_15 (rCE (.t 16) u77_16 u77_17 [2, 6, 16]) := ⟨mkCE⟩
instance i77_14 : WR Tryd.prog 64 u77_14 (rS u77_14r u77_15 [2, 6]) := ⟨mkS⟩
instance i77_12 : WR Tryd.prog 64 u77_12 (rCE (.t 9) u77_13 u77_14 [2, 6, 9]) := ⟨mkCE⟩
instance i77_8 : WR Tryd.prog 64 u77_8 (rQ u77_9 u77_12 [2, 6]) := ⟨mkQ⟩
instance i77_6 : WR Tryd.prog 64 u77_6 (rCE (.t 7) u77_7 u77_8 [2, 6, 7]) := ⟨mkCE⟩
instance i77_5 : WR Tryd.prog 64 u77_5 (rS u77_5r u77_6 [2, 6]) := ⟨mkS⟩
instance i77_4 : WR Tryd.prog 64 u77_4 (rBE 0 u77_5 [2, 6]) := ⟨mkBE⟩
instance i77_3 : WR Tryd.prog 64 u77_3 (rS u77_3r u77_4 [1, 2]) := ⟨mkS⟩
instance i77_78 : WR Tryd.prog 64 u77_78 (rS u77_78r .ret []) := ⟨mkS⟩
instance i77_2 : WR Tryd.prog 64 u77_2 (rQ u77_3 u77_78 [1, 2]) := ⟨mkQ⟩
instance i77_1 : WR Tryd.prog 64 u77_1 (rS u77_1r u77_2 [0, 1]) := ⟨mkS⟩
attribute [go_sem] u77_7r u77_11r u77_9r u77_13r u77_16r u77_22r u77_20r u77_18r u77_24r u77_30r u77_28r u77_26r u77_32r u77_35r u77_41r u77_39r u77_37r u77_43r u77_53r u77_51r u77_49r u77_47r u77_45r u77_55r u77_58r u77_61r u77_75r u77_73r u77_71r u77_69r u77_67r u77_65r u77_63r u77_77r u77_59r u77_56r u77_33r u77_14r u77_5r u77_3r u77_78r u77_1r
noncomputable section
def u81_18r : List IOper := [⟨some 12, .pur (.bin .eql (.t 4) (.k (.int .i64 8))), none⟩, ⟨some 5, .pur (.mv (.t 12)), none⟩]
def u81_18 : IC := .reg u81_18r
def u81_17 : IC := .cond (.t 5) .skip u81_18
def u81_16r : List IOper := [⟨some 11, .pur (.bin .eql (.t 4) (.k (.int .i64 7))), none⟩, ⟨some 5, .pur (.mv (.t 11)), none⟩]
def u81_16 : IC := .seq (.reg u81_16r) u81_17
def u81_15 : IC := .cond (.t 5) .skip u81_16
def u81_14r : List IOper := [⟨some 10, .pur (.bin .eql (.t 4) (.k (.int .i64 6))), none⟩, ⟨some 5, .pur (.mv (.t 10)), none⟩]
def u81_14 : IC := .seq (.reg u81_14r) u81_15
def u81_13 : IC := .cond (.t 5) .skip u81_14
def u81_12r : List IOper := [⟨some 9, .pur (.bin .eql (.t 4) (.k (.int .i64 5))), none⟩, ⟨some 5, .pur (.mv (.t 9)), none⟩]
def u81_12 : IC := .seq (.reg u81_12r) u81_13
def u81_11 : IC := .cond (.t 5) .skip u81_12
def u81_10r : List IOper := [⟨some 8, .pur (.bin .eql (.t 4) (.k (.int .i64 4))), none⟩, ⟨some 5, .pur (.mv (.t 8)), none⟩]
def u81_10 : IC := .seq (.reg u81_10r) u81_11
def u81_9 : IC := .cond (.t 5) .skip u81_10
def u81_8r : List IOper := [⟨some 7, .pur (.bin .eql (.t 4) (.k (.int .i64 2))), none⟩, ⟨some 5, .pur (.mv (.t 7)), none⟩]
def u81_8 : IC := .seq (.reg u81_8r) u81_9
def u81_7 : IC := .cond (.t 5) .skip u81_8
def u81_6r : List IOper := [⟨some 6, .pur (.bin .eql (.t 4) (.k (.int .i64 1))), none⟩, ⟨some 5, .pur (.mv (.t 6)), none⟩]
def u81_6 : IC := .seq (.reg u81_6r) u81_7
def u81_20r : List IOper := [⟨some 2, .pur (.mv (.k (.int .i64 0))), none⟩, ⟨some 3, .pur (.mv (.k (.int .i64 1))), none⟩]
def u81_20 : IC := .seq (.reg u81_20r) .ret
def u81_26r : List IOper := [⟨some 16, .pur (.bin .eql (.t 4) (.k (.int .i64 14))), none⟩, ⟨some 13, .pur (.mv (.t 16)), none⟩]
def u81_26 : IC := .reg u81_26r
def u81_25 : IC := .cond (.t 13) .skip u81_26
def u81_24r : List IOper := [⟨some 15, .pur (.bin .eql (.t 4) (.k (.int .i64 10))), none⟩, ⟨some 13, .pur (.mv (.t 15)), none⟩]
def u81_24 : IC := .seq (.reg u81_24r) u81_25
def u81_23 : IC := .cond (.t 13) .skip u81_24
def u81_22r : List IOper := [⟨some 14, .pur (.bin .eql (.t 4) (.k (.int .i64 9))), none⟩, ⟨some 13, .pur (.mv (.t 14)), none⟩]
def u81_22 : IC := .seq (.reg u81_22r) u81_23
def u81_28r : List IOper := [⟨some 2, .pur (.mv (.k (.int .i64 1))), none⟩, ⟨some 3, .pur (.mv (.k (.int .i64 1))), none⟩]
def u81_28 : IC := .seq (.reg u81_28r) .ret
def u81_31r : List IOper := [⟨some 2, .pur (.mv (.k (.int .i64 2))), none⟩, ⟨some 3, .pur (.mv (.k (.int .i64 1))), none⟩]
def u81_31 : IC := .seq (.reg u81_31r) .ret
def u81_34r : List IOper := [⟨some 2, .pur (.mv (.k (.int .i64 2))), none⟩, ⟨some 3, .pur (.mv (.k (.int .i64 0))), none⟩]
def u81_34 : IC := .seq (.reg u81_34r) .ret
def u81_46r : List IOper := [⟨some 27, .pur (.bin .eql (.t 4) (.k (.int .i64 29))), none⟩, ⟨some 21, .pur (.mv (.t 27)), none⟩]
def u81_46 : IC := .reg u81_46r
def u81_45 : IC := .cond (.t 21) .skip u81_46
def u81_44r : List IOper := [⟨some 26, .pur (.bin .eql (.t 4) (.k (.int .i64 21))), none⟩, ⟨some 21, .pur (.mv (.t 26)), none⟩]
def u81_44 : IC := .seq (.reg u81_44r) u81_45
def u81_43 : IC := .cond (.t 21) .skip u81_44
def u81_42r : List IOper := [⟨some 25, .pur (.bin .eql (.t 4) (.k (.int .i64 19))), none⟩, ⟨some 21, .pur (.mv (.t 25)), none⟩]
def u81_42 : IC := .seq (.reg u81_42r) u81_43
def u81_41 : IC := .cond (.t 21) .skip u81_42
def u81_40r : List IOper := [⟨some 24, .pur (.bin .eql (.t 4) (.k (.int .i64 15))), none⟩, ⟨some 21, .pur (.mv (.t 24)), none⟩]
def u81_40 : IC := .seq (.reg u81_40r) u81_41
def u81_39 : IC := .cond (.t 21) .skip u81_40
def u81_38r : List IOper := [⟨some 23, .pur (.bin .eql (.t 4) (.k (.int .i64 13))), none⟩, ⟨some 21, .pur (.mv (.t 23)), none⟩]
def u81_38 : IC := .seq (.reg u81_38r) u81_39
def u81_37 : IC := .cond (.t 21) .skip u81_38
def u81_36r : List IOper := [⟨some 22, .pur (.bin .eql (.t 4) (.k (.int .i64 3))), none⟩, ⟨some 21, .pur (.mv (.t 22)), none⟩]
def u81_36 : IC := .seq (.reg u81_36r) u81_37
def u81_48r : List IOper := [⟨some 2, .pur (.mv (.k (.int .i64 1))), none⟩, ⟨some 3, .pur (.mv (.k (.int .i64 0))), none⟩]
def u81_48 : IC := .seq (.reg u81_48r) .ret
def u81_47 : IC := .cond (.t 21) u81_48 .skip
def u81_35 : IC := .seq u81_36 u81_47
def u81_33 : IC := .cond (.t 19) u81_34 u81_35
def u81_32r : List IOper := [⟨some 20, .pur (.bin .eql (.t 4) (.k (.int .i64 20))), none⟩, ⟨some 19, .pur (.mv (.t 20)), none⟩]
def u81_32 : IC := .seq (.reg u81_32r) u81_33
def u81_30 : IC := .cond (.t 17) u81_31 u81_32
def u81_29r : List IOper := [⟨some 18, .pur (.bin .eql (.t 4) (.k (.int .i64 11))), none⟩, ⟨some 17, .pur (.mv (.t 18)), none⟩]
def u81_29 : IC := .seq (.reg u81_29r) u81_30
def u81_27 : IC := .cond (.t 13) u81_28 u81_29
def u81_21 : IC := .seq u81_22 u81_27
def u81_19 : IC := .cond (.t 5) u81_20 u81_21
def u81_5 : IC := .seq u81_6 u81_19
def u81_4 : IC := .blk 0 u81_5
def u81_3r : List IOper := [⟨some 4, .pur (.mv (.t 0)), none⟩]
def u81_3 : IC := .seq (.reg u81_3r) u81_4
def u81_49r : List IOper := [⟨some 2, .pur (.mv (.k (.int .i64 0))), none⟩, ⟨some 3, .pur (.mv (.k (.int .i64 0))), none⟩]
def u81_49 : IC := .seq (.reg u81_49r) .ret
def u81_2 : IC := .seq u81_3 u81_49
def u81_1r : List IOper := [⟨some 2, .pur (.mv (.k (.int .i64 0))), none⟩, ⟨some 3, .pur (.mv (.k (.int .i64 0))), none⟩]
def u81_1 : IC := .seq (.reg u81_1r) u81_2
def u81 : IFn := ⟨28, u81_1, [.tmp 2, .tmp 3]⟩
end
theorem isU81 : IsFn Tryd.prog 81 u81 := by unfold IsFn; kernel_rfl
instance i81_18 : WR Tryd.prog 28 u81_18 (rE u81_18r [4]) := ⟨mkE⟩
instance i81_17 : WR Tryd.prog 28 u81_17 (rCE (.t 5) .skip u81_18 [4, 5]) := ⟨mkCE⟩
instance i81_16 : WR Tryd.prog 28 u81_16 (rS u81_16r u81_17 [4]) := ⟨mkS⟩
instance i81_15 : WR Tryd.prog 28 u81_15 (rCE (.t 5) .skip u81_16 [4, 5]) := ⟨mkCE⟩
instance i81_14 : WR Tryd.prog 28 u81_14 (rS u81_14r u81_15 [4]) := ⟨mkS⟩
instance i81_13 : WR Tryd.prog 28 u81_13 (rCE (.t 5) .skip u81_14 [4, 5]) := ⟨mkCE⟩
instance i81_12 : WR Tryd.prog 28 u81_12 (rS u81_12r u81_13 [4]) := ⟨mkS⟩
instance i81_11 : WR Tryd.prog 28 u81_11 (rCE (.t 5) .skip u81_12 [4, 5]) := ⟨mkCE⟩
instance i81_10 : WR Tryd.prog 28 u81_10 (rS u81_10r u81_11 [4]) := ⟨mkS⟩
instance i81_9 : WR Tryd.prog 28 u81_9 (rCE (.t 5) .skip u81_10 [4, 5]) := ⟨mkCE⟩
instance i81_8 : WR Tryd.prog 28 u81_8 (rS u81_8r u81_9 [4]) := ⟨mkS⟩
instance i81_7 : WR Tryd.prog 28 u81_7 (rCE (.t 5) .skip u81_8 [4, 5]) := ⟨mkCE⟩
instance i81_6 : WR Tryd.prog 28 u81_6 (rS u81_6r u81_7 [4]) := ⟨mkS⟩
instance i81_20 : WR Tryd.prog 28 u81_20 (rS u81_20r .ret []) := ⟨mkS⟩
instance i81_26 : WR Tryd.prog 28 u81_26 (rE u81_26r [4]) := ⟨mkE⟩
instance i81_25 : WR Tryd.prog 28 u81_25 (rCE (.t 13) .skip u81_26 [4, 13]) := ⟨mkCE⟩
instance i81_24 : WR Tryd.prog 28 u81_24 (rS u81_24r u81_25 [4]) := ⟨mkS⟩
instance i81_23 : WR Tryd.prog 28 u81_23 (rCE (.t 13) .skip u81_24 [4, 13]) := ⟨mkCE⟩
instance i81_22 : WR Tryd.prog 28 u81_22 (rS u81_22r u81_23 [4]) := ⟨mkS⟩
instance i81_28 : WR Tryd.prog 28 u81_28 (rS u81_28r .ret []) := ⟨mkS⟩
instance i81_31 : WR Tryd.prog 28 u81_31 (rS u81_31r .ret []) := ⟨mkS⟩
instance i81_34 : WR Tryd.prog 28 u81_34 (rS u81_34r .ret []) := ⟨mkS⟩
instance i81_46 : WR Tryd.prog 28 u81_46 (rE u81_46r [4]) := ⟨mkE⟩
instance i81_45 : WR Tryd.prog 28 u81_45 (rCE (.t 21) .skip u81_46 [4, 21]) := ⟨mkCE⟩
instance i81_44 : WR Tryd.prog 28 u81_44 (rS u81_44r u81_45 [4]) := ⟨mkS⟩
instance i81_43 : WR Tryd.prog 28 u81_43 (rCE (.t 21) .skip u81_44 [4, 21]) := ⟨mkCE⟩
instance i81_42 : WR Tryd.prog 28 u81_42 (rS u81_42r u81_43 [4]) := ⟨mkS⟩
instance i81_41 : WR Tryd.prog 28 u81_41 (rCE (.t 21) .skip u81_42 [4, 21]) := ⟨mkCE⟩
instance i81_40 : WR Tryd.prog 28 u81_40 (rS u81_40r u81_41 [4]) := ⟨mkS⟩
instance i81_39 : WR Tryd.prog 28 u81_39 (rCE (.t 21) .skip u81_40 [4, 21]) := ⟨mkCE⟩
instance i81_38 : WR Tryd.prog 28 u81_38 (rS u81_38r u81_39 [4]) := ⟨mkS⟩
instance i81_37 : WR Tryd.prog 28 u81_37 (rCE (.t 21) .skip u81_38 [4, 21]) := ⟨mkCE⟩
instance i81_36 : WR Tryd.prog 28 u81_36 (rS u81_36r u81_37 [4]) := ⟨mkS⟩
instance i81_48 : WR Tryd.prog 28 u81_48 (rS u81_48r .ret []) := ⟨mkS⟩
instance i81_47 : WR Tryd.prog 28 u81_47 (rCE (.t 21) u81_48 .skip [21]) := ⟨mkCE⟩
instance i81_35 : WR Tryd.prog 28 u81_35 (rQ u81_36 u81_47 [4]) := ⟨mkQ⟩
instance i81_33 : WR Tryd.prog 28 u81_33 (rCE (.t 19) u81_34 u81_35 [4, 19]) := ⟨mkCE⟩
instance i81_32 : WR Tryd.prog 28 u81_32 (rS u81_32r u81_33 [4]) := ⟨mkS⟩
instance i81_30 : WR Tryd.prog 28 u81_30 (rCE (.t 17) u81_31 u81_32 [4, 17]) := ⟨mkCE⟩
instance i81_29 : WR Tryd.prog 28 u81_29 (rS u81_29r u81_30 [4]) := ⟨mkS⟩
instance i81_27 : WR Tryd.prog 28 u81_27 (rCE (.t 13) u81_28 u81_29 [4, 13]) := ⟨mkCE⟩
instance i81_21 : WR Tryd.prog 28 u81_21 (rQ u81_22 u81_27 [4]) := ⟨mkQ⟩
instance i81_19 : WR Tryd.prog 28 u81_19 (rCE (.t 5) u81_20 u81_21 [4, 5]) := ⟨mkCE⟩
instance i81_5 : WR Tryd.prog 28 u81_5 (rQ u81_6 u81_19 [4]) := ⟨mkQ⟩
instance i81_4 : WR Tryd.prog 28 u81_4 (rBE 0 u81_5 [4]) := ⟨mkBE⟩
instance i81_3 : WR Tryd.prog 28 u81_3 (rS u81_3r u81_4 [0]) := ⟨mkS⟩
instance i81_49 : WR Tryd.prog 28 u81_49 (rS u81_49r .ret []) := ⟨mkS⟩
instance i81_2 : WR Tryd.prog 28 u81_2 (rQ u81_3 u81_49 [0]) := ⟨mkQ⟩
instance i81_1 : WR Tryd.prog 28 u81_1 (rS u81_1r u81_2 [0]) := ⟨mkS⟩
attribute [go_sem] u81_18r u81_16r u81_14r u81_12r u81_10r u81_8r u81_6r u81_20r u81_26r u81_24r u81_22r u81_28r u81_31r u81_34r u81_46r u81_44r u81_42r u81_40r u81_38r u81_36r u81_48r u81_32r u81_29r u81_3r u81_49r u81_1r
noncomputable section
def u54_11r : List IOper := [⟨some 41, .pur (.mv (.t 3)), none⟩, ⟨some 42, .pur (.mv (.t 41)), none⟩, ⟨some 43, .pur (.fad 0 (.t 5)), some (42, false)⟩, ⟨some 44, .pur (.ld 1 false (.t 43)), some (42, false)⟩, ⟨some 45, .call 78 [.t 44], some (42, false)⟩, ⟨some 46, .pur (.un .not (.t 45)), some (42, false)⟩, ⟨some 47, .pur (.mv (.t 46)), some (42, false)⟩, ⟨some 48, .pur (.fad 1 (.t 5)), some (47, true)⟩, ⟨some 49, .pur (.ld 1 false (.t 48)), some (47, true)⟩, ⟨some 50, .pur (.mv (.t 6)), some (47, true)⟩, ⟨some 51, .pur (.mv (.t 7)), some (47, true)⟩, ⟨some 52, .call 67 [.t 49, .t 50, .t 51], some (47, true)⟩, ⟨some 53, .pur (.un .not (.t 52)), some (47, true)⟩, ⟨some 54, .pur (.pick (.t 47) (.t 53) (.k (.bool false))), some (42, false)⟩, ⟨some 55, .pur (.pick (.t 42) (.k (.bool true)) (.t 54)), none⟩, ⟨some 3, .pur (.mv (.t 55)), none⟩]
def u54_11 : IC := .reg u54_11r
def u54_10r : List IOper := [⟨some 35, .pur (.ld 7 true (.t 1)), none⟩, ⟨some 36, .pur (.fad 0 (.t 5)), none⟩, ⟨some 37, .pur (.ld 1 false (.t 36)), none⟩, ⟨some 38, .call 77 [.t 35, .t 37], none⟩, ⟨some 34, .pur (.mv (.t 38)), none⟩, ⟨some 39, .pur (.ext (.t 34) 0), none⟩, ⟨some 40, .pur (.ext (.t 34) 1), none⟩, ⟨some 6, .pur (.mv (.t 39)), none⟩, ⟨some 7, .pur (.mv (.t 40)), none⟩]
def u54_10 : IC := .seq (.reg u54_10r) u54_11
def u54_9r : List IOper := [⟨some 32, .pur (.iad 2 (.t 28) (.t 30)), none⟩, ⟨some 33, .pur (.ld 2 true (.t 32)), none⟩, ⟨some 5, .new (.box (.k (.agg #[.int .i64 0, .int .i64 0]))), none⟩, ⟨none, .eff (.st 2 (.t 5) (.t 33)), none⟩]
def u54_9 : IC := .seq (.reg u54_9r) u54_10
def u54_12r : List IOper := [⟨some 56, .pur (.bin .add (.t 30) (.k (.int .i64 1))), none⟩, ⟨some 30, .pur (.mv (.t 56)), none⟩]
def u54_12 : IC := .reg u54_12r
def u54_8 : IC := .seq (.blk 1 u54_9) u54_12
def u54_7 : IC := .seq (.cond (.t 31) .skip (.exit 0)) u54_8
def u54_6r : List IOper := [⟨some 31, .pur (.bin .lss (.t 30) (.t 29)), none⟩]
def u54_6 : IC := .seq (.reg u54_6r) u54_7
def u54_5 : IC := .blk 0 (.loop u54_6)
def u54_4r : List IOper := [⟨some 27, .pur (.fad 0 (.t 1)), none⟩, ⟨some 28, .pur (.ld 1 false (.t 27)), none⟩, ⟨some 29, .pur (.len (.t 28)), none⟩, ⟨some 30, .pur (.mv (.k (.int .i64 0))), none⟩]
def u54_4 : IC := .seq (.reg u54_4r) u54_5
def u54_13r : List IOper := [⟨some 57, .pur (.mv (.t 3)), none⟩, ⟨some 58, .pur (.un .not (.t 57)), none⟩, ⟨some 2, .pur (.mv (.t 58)), none⟩]
def u54_13 : IC := .seq (.reg u54_13r) .ret
def u54_3 : IC := .seq u54_4 u54_13
def u54_2r : List IOper := [⟨some 8, .pur (.fad 1 (.t 1)), none⟩, ⟨some 9, .pur (.ld 1 false (.t 8)), none⟩, ⟨some 10, .call 68 [.t 9, .f 69], none⟩, ⟨some 11, .pur (.mv (.t 10)), none⟩, ⟨some 12, .pur (.fad 3 (.t 1)), some (11, false)⟩, ⟨some 13, .pur (.ld 1 false (.t 12)), some (11, false)⟩, ⟨some 14, .call 71 [.t 13, .f 72], some (11, false)⟩, ⟨some 15, .pur (.pick (.t 11) (.k (.bool true)) (.t 14)), none⟩, ⟨some 16, .pur (.mv (.t 15)), none⟩, ⟨some 17, .pur (.fad 4 (.t 1)), some (16, false)⟩, ⟨some 18, .pur (.ld 1 false (.t 17)), some (16, false)⟩, ⟨some 19, .call 71 [.t 18, .f 73], some (16, false)⟩, ⟨some 20, .pur (.pick (.t 16) (.k (.bool true)) (.t 19)), none⟩, ⟨some 21, .pur (.mv (.t 20)), none⟩, ⟨some 22, .pur (.fad 2 (.t 1)), some (21, false)⟩, ⟨some 23, .pur (.ld 1 false (.t 22)), some (21, false)⟩, ⟨some 24, .pur (.mkf 75 [] [.t 1]), some (21, false)⟩, ⟨some 25, .call 74 [.t 23, .t 24], some (21, false)⟩, ⟨some 26, .pur (.pick (.t 21) (.k (.bool true)) (.t 25)), none⟩, ⟨some 3, .pur (.mv (.t 26)), none⟩]
def u54_2 : IC := .seq (.reg u54_2r) u54_3
def u54_1r : List IOper := [⟨some 1, .new (.box (.t 0)), none⟩, ⟨some 2, .pur (.mv (.k (.bool false))), none⟩]
def u54_1 : IC := .seq (.reg u54_1r) u54_2
def u54 : IFn := ⟨59, u54_1, [.tmp 2]⟩
end
theorem isU54 : IsFn Tryd.prog 54 u54 := by unfold IsFn; kernel_rfl
instance i54_11 : WR Tryd.prog 59 u54_11 (rE u54_11r [1, 3, 5, 6, 7, 28, 29, 30]) := ⟨mkE⟩
instance i54_10 : WR Tryd.prog 59 u54_10 (rS u54_10r u54_11 [1, 3, 5, 28, 29, 30]) := ⟨mkS⟩
instance i54_9 : WR Tryd.prog 59 u54_9 (rS u54_9r u54_10 [1, 3, 28, 29, 30]) := ⟨mkS⟩
instance i54_12 : WR Tryd.prog 59 u54_12 (rE u54_12r [1, 3, 28, 29, 30]) := ⟨mkE⟩
instance i54_8 : WR Tryd.prog 59 u54_8 (rB 1 u54_9 u54_12 [1, 3, 28, 29, 30]) := ⟨mkB⟩
instance i54_7 : WR Tryd.prog 59 u54_7 (rC (.t 31) .skip (.exit 0) u54_8 [1, 3, 28, 29, 30, 31]) := ⟨mkC⟩
instance i54_6 : WR Tryd.prog 59 u54_6 (rS u54_6r u54_7 [1, 3, 28, 29, 30]) := ⟨mkS⟩
instance i54_5 : WR Tryd.prog 59 u54_5 (rBE 0 (.loop u54_6) [1, 3, 28, 29, 30]) := ⟨mkBE⟩
instance i54_4 : WR Tryd.prog 59 u54_4 (rS u54_4r u54_5 [1, 3]) := ⟨mkS⟩
instance i54_13 : WR Tryd.prog 59 u54_13 (rS u54_13r .ret [3]) := ⟨mkS⟩
instance i54_3 : WR Tryd.prog 59 u54_3 (rQ u54_4 u54_13 [1, 3]) := ⟨mkQ⟩
instance i54_2 : WR Tryd.prog 59 u54_2 (rS u54_2r u54_3 [1]) := ⟨mkS⟩
instance i54_1 : WR Tryd.prog 59 u54_1 (rS u54_1r u54_2 [0]) := ⟨mkS⟩
attribute [go_sem] u54_11r u54_10r u54_9r u54_12r u54_6r u54_4r u54_13r u54_2r u54_1r
noncomputable section
def u69_2r : List IOper := [⟨some 3, .pur (.mv (.t 0)), none⟩, ⟨some 4, .call 70 [.t 3], none⟩, ⟨some 5, .pur (.un .not (.t 4)), none⟩, ⟨some 2, .pur (.mv (.t 5)), none⟩]
def u69_2 : IC := .seq (.reg u69_2r) .ret
def u69_1r : List IOper := [⟨some 2, .pur (.mv (.k (.bool false))), none⟩]
def u69_1 : IC := .seq (.reg u69_1r) u69_2
def u69 : IFn := ⟨6, u69_1, [.tmp 2]⟩
end
theorem isU69 : IsFn Tryd.prog 69 u69 := by unfold IsFn; kernel_rfl
instance i69_2 : WR Tryd.prog 6 u69_2 (rS u69_2r .ret [0]) := ⟨mkS⟩
instance i69_1 : WR Tryd.prog 6 u69_1 (rS u69_1r u69_2 [0]) := ⟨mkS⟩
attribute [go_sem] u69_2r u69_1r
noncomputable section
def u72_2r : List IOper := [⟨some 3, .pur (.mv (.t 0)), none⟩, ⟨some 4, .call 67 [.t 3, .k (.int .i64 0), .k (.int .i64 99)], none⟩, ⟨some 5, .pur (.un .not (.t 4)), none⟩, ⟨some 2, .pur (.mv (.t 5)), none⟩]
def u72_2 : IC := .seq (.reg u72_2r) .ret
def u72_1r : List IOper := [⟨some 2, .pur (.mv (.k (.bool false))), none⟩]
def u72_1 : IC := .seq (.reg u72_1r) u72_2
def u72 : IFn := ⟨6, u72_1, [.tmp 2]⟩
end
theorem isU72 : IsFn Tryd.prog 72 u72 := by unfold IsFn; kernel_rfl
instance i72_2 : WR Tryd.prog 6 u72_2 (rS u72_2r .ret [0]) := ⟨mkS⟩
instance i72_1 : WR Tryd.prog 6 u72_1 (rS u72_1r u72_2 [0]) := ⟨mkS⟩
attribute [go_sem] u72_2r u72_1r
noncomputable section
def u73_2r : List IOper := [⟨some 3, .pur (.mv (.t 0)), none⟩, ⟨some 4, .call 67 [.t 3, .k (.int .i64 (-2147483647)), .k (.int .i64 2147483647)], none⟩, ⟨some 5, .pur (.un .not (.t 4)), none⟩, ⟨some 2, .pur (.mv (.t 5)), none⟩]
def u73_2 : IC := .seq (.reg u73_2r) .ret
def u73_1r : List IOper := [⟨some 2, .pur (.mv (.k (.bool false))), none⟩]
def u73_1 : IC := .seq (.reg u73_1r) u73_2
def u73 : IFn := ⟨6, u73_1, [.tmp 2]⟩
end
theorem isU73 : IsFn Tryd.prog 73 u73 := by unfold IsFn; kernel_rfl
instance i73_2 : WR Tryd.prog 6 u73_2 (rS u73_2r .ret [0]) := ⟨mkS⟩
instance i73_1 : WR Tryd.prog 6 u73_1 (rS u73_1r u73_2 [0]) := ⟨mkS⟩
attribute [go_sem] u73_2r u73_1r
noncomputable section
def u75_2r : List IOper := [⟨some 4, .pur (.ld 7 true (.t 1)), none⟩, ⟨some 5, .pur (.ld 4 true (.t 2)), none⟩, ⟨some 6, .call 76 [.t 4, .t 5], none⟩, ⟨some 7, .pur (.un .not (.t 6)), none⟩, ⟨some 3, .pur (.mv (.t 7)), none⟩]
def u75_2 : IC := .seq (.reg u75_2r) .ret
def u75_1r : List IOper := [⟨some 2, .new (.box (.t 0)), none⟩, ⟨some 3, .pur (.mv (.k (.bool false))), none⟩]
def u75_1 : IC := .seq (.reg u75_1r) u75_2
def u75 : IFn := ⟨8, u75_1, [.tmp 3]⟩
end
theorem isU75 : IsFn Tryd.prog 75 u75 := by unfold IsFn; kernel_rfl
instance i75_2 : WR Tryd.prog 8 u75_2 (rS u75_2r .ret [1, 2]) := ⟨mkS⟩
instance i75_1 : WR Tryd.prog 8 u75_1 (rS u75_1r u75_2 [0, 1]) := ⟨mkS⟩
attribute [go_sem] u75_2r u75_1r
noncomputable section
def u55_11r : List IOper := [⟨some 2, .pur (.mv (.k (.bool false))), none⟩]
def u55_11 : IC := .seq (.reg u55_11r) .ret
def u55_10 : IC := .cond (.t 24) u55_11 .skip
def u55_9r : List IOper := [⟨some 12, .pur (.fad 0 (.t 4)), none⟩, ⟨some 13, .pur (.ld 1 false (.t 12)), none⟩, ⟨some 14, .call 78 [.t 13], none⟩, ⟨some 15, .pur (.mv (.t 14)), none⟩, ⟨some 16, .pur (.fad 1 (.t 4)), some (15, true)⟩, ⟨some 17, .pur (.ld 1 false (.t 16)), some (15, true)⟩, ⟨some 18, .pur (.fad 0 (.t 1)), some (15, true)⟩, ⟨some 19, .pur (.ld 1 false (.t 18)), some (15, true)⟩, ⟨some 20, .pur (.len (.t 19)), some (15, true)⟩, ⟨some 21, .pur (.bin .sub (.t 20) (.k (.int .i64 1))), some (15, true)⟩, ⟨some 22, .call 67 [.t 17, .k (.int .i64 0), .t 21], some (15, true)⟩, ⟨some 23, .pur (.un .not (.t 22)), some (15, true)⟩, ⟨some 24, .pur (.pick (.t 15) (.t 23) (.k (.bool false))), none⟩]
def u55_9 : IC := .seq (.reg u55_9r) u55_10
def u55_8r : List IOper := [⟨some 10, .pur (.iad 2 (.t 6) (.t 8)), none⟩, ⟨some 11, .pur (.ld 2 true (.t 10)), none⟩, ⟨some 4, .new (.box (.k (.agg #[.int .i64 0, .int .i64 0]))), none⟩, ⟨none, .eff (.st 2 (.t 4) (.t 11)), none⟩]
def u55_8 : IC := .seq (.reg u55_8r) u55_9
def u55_12r : List IOper := [⟨some 25, .pur (.bin .add (.t 8) (.k (.int .i64 1))), none⟩, ⟨some 8, .pur (.mv (.t 25)), none⟩]
def u55_12 : IC := .reg u55_12r
def u55_7 : IC := .seq (.blk 1 u55_8) u55_12
def u55_6 : IC := .seq (.cond (.t 9) .skip (.exit 0)) u55_7
def u55_5r : List IOper := [⟨some 9, .pur (.bin .lss (.t 8) (.t 7)), none⟩]
def u55_5 : IC := .seq (.reg u55_5r) u55_6
def u55_4 : IC := .blk 0 (.loop u55_5)
def u55_3r : List IOper := [⟨some 5, .pur (.fad 0 (.t 1)), none⟩, ⟨some 6, .pur (.ld 1 false (.t 5)), none⟩, ⟨some 7, .pur (.len (.t 6)), none⟩, ⟨some 8, .pur (.mv (.k (.int .i64 0))), none⟩]
def u55_3 : IC := .seq (.reg u55_3r) u55_4
def u55_13r : List IOper := [⟨some 26, .pur (.fad 2 (.t 1)), none⟩, ⟨some 27, .pur (.ld 1 false (.t 26)), none⟩, ⟨some 28, .pur (.mkf 79 [] [.t 1]), none⟩, ⟨some 29, .call 74 [.t 27, .t 28], none⟩, ⟨some 30, .pur (.un .not (.t 29)), none⟩, ⟨some 2, .pur (.mv (.t 30)), none⟩]
def u55_13 : IC := .seq (.reg u55_13r) .ret
def u55_2 : IC := .seq u55_3 u55_13
def u55_1r : List IOper := [⟨some 1, .new (.box (.t 0)), none⟩, ⟨some 2, .pur (.mv (.k (.bool false))), none⟩]
def u55_1 : IC := .seq (.reg u55_1r) u55_2
def u55 : IFn := ⟨31, u55_1, [.tmp 2]⟩
end
theorem isU55 : IsFn Tryd.prog 55 u55 := by unfold IsFn; kernel_rfl
instance i55_11 : WR Tryd.prog 31 u55_11 (rS u55_11r .ret []) := ⟨mkS⟩
instance i55_10 : WR Tryd.prog 31 u55_10 (rCE (.t 24) u55_11 .skip [1, 6, 7, 8, 24]) := ⟨mkCE⟩
instance i55_9 : WR Tryd.prog 31 u55_9 (rS u55_9r u55_10 [1, 4, 6, 7, 8]) := ⟨mkS⟩
instance i55_8 : WR Tryd.prog 31 u55_8 (rS u55_8r u55_9 [1, 6, 7, 8]) := ⟨mkS⟩
instance i55_12 : WR Tryd.prog 31 u55_12 (rE u55_12r [1, 6, 7, 8]) := ⟨mkE⟩
instance i55_7 : WR Tryd.prog 31 u55_7 (rB 1 u55_8 u55_12 [1, 6, 7, 8]) := ⟨mkB⟩
instance i55_6 : WR Tryd.prog 31 u55_6 (rC (.t 9) .skip (.exit 0) u55_7 [1, 6, 7, 8, 9]) := ⟨mkC⟩
instance i55_5 : WR Tryd.prog 31 u55_5 (rS u55_5r u55_6 [1, 6, 7, 8]) := ⟨mkS⟩
instance i55_4 : WR Tryd.prog 31 u55_4 (rBE 0 (.loop u55_5) [1, 6, 7, 8]) := ⟨mkBE⟩
instance i55_3 : WR Tryd.prog 31 u55_3 (rS u55_3r u55_4 [1]) := ⟨mkS⟩
instance i55_13 : WR Tryd.prog 31 u55_13 (rS u55_13r .ret [1]) := ⟨mkS⟩
instance i55_2 : WR Tryd.prog 31 u55_2 (rQ u55_3 u55_13 [1]) := ⟨mkQ⟩
instance i55_1 : WR Tryd.prog 31 u55_1 (rS u55_1r u55_2 [0]) := ⟨mkS⟩
attribute [go_sem] u55_11r u55_9r u55_8r u55_12r u55_5r u55_3r u55_13r u55_1r
noncomputable section
def u79_2r : List IOper := [⟨some 4, .pur (.fad 3 (.t 2)), none⟩, ⟨some 5, .pur (.ld 1 false (.t 4)), none⟩, ⟨some 6, .pur (.fad 0 (.t 1)), none⟩, ⟨some 7, .pur (.ld 1 false (.t 6)), none⟩, ⟨some 8, .pur (.len (.t 7)), none⟩, ⟨some 9, .pur (.bin .sub (.t 8) (.k (.int .i64 1))), none⟩, ⟨some 10, .call 67 [.t 5, .k (.int .i64 0), .t 9], none⟩, ⟨some 11, .pur (.un .not (.t 10)), none⟩, ⟨some 3, .pur (.mv (.t 11)), none⟩]
def u79_2 : IC := .seq (.reg u79_2r) .ret
def u79_1r : List IOper := [⟨some 2, .new (.box (.t 0)), none⟩, ⟨some 3, .pur (.mv (.k (.bool false))), none⟩]
def u79_1 : IC := .seq (.reg u79_1r) u79_2
def u79 : IFn := ⟨12, u79_1, [.tmp 3]⟩
end
theorem isU79 : IsFn Tryd.prog 79 u79 := by unfold IsFn; kernel_rfl
instance i79_2 : WR Tryd.prog 12 u79_2 (rS u79_2r .ret [1, 2]) := ⟨mkS⟩
instance i79_1 : WR Tryd.prog 12 u79_1 (rS u79_1r u79_2 [0, 1]) := ⟨mkS⟩
attribute [go_sem] u79_2r u79_1r
noncomputable section
def u56_5r : List IOper := [⟨some 10, .pur (.fad 0 (.t 2)), none⟩, ⟨some 11, .pur (.ld 1 false (.t 10)), none⟩, ⟨some 12, .pur (.fad 0 (.t 3)), none⟩, ⟨some 13, .pur (.ld 1 false (.t 12)), none⟩, ⟨some 14, .pur (.bin .lss (.t 11) (.t 13)), none⟩, ⟨some 4, .pur (.mv (.t 14)), none⟩]
def u56_5 : IC := .seq (.reg u56_5r) .ret
def u56_4 : IC := .cond (.t 9) u56_5 .skip
def u56_3r : List IOper := [⟨some 5, .pur (.fad 0 (.t 2)), none⟩, ⟨some 6, .pur (.ld 1 false (.t 5)), none⟩, ⟨some 7, .pur (.fad 0 (.t 3)), none⟩, ⟨some 8, .pur (.ld 1 false (.t 7)), none⟩, ⟨some 9, .pur (.bin .neq (.t 6) (.t 8)), none⟩]
def u56_3 : IC := .seq (.reg u56_3r) u56_4
def u56_9r : List IOper := [⟨some 20, .pur (.fad 1 (.t 2)), none⟩, ⟨some 21, .pur (.ld 1 false (.t 20)), none⟩, ⟨some 22, .pur (.fad 1 (.t 3)), none⟩, ⟨some 23, .pur (.ld 1 false (.t 22)), none⟩, ⟨some 24, .pur (.bin .lss (.t 21) (.t 23)), none⟩, ⟨some 4, .pur (.mv (.t 24)), none⟩]
def u56_9 : IC := .seq (.reg u56_9r) .ret
def u56_8 : IC := .cond (.t 19) u56_9 .skip
def u56_7r : List IOper := [⟨some 15, .pur (.fad 1 (.t 2)), none⟩, ⟨some 16, .pur (.ld 1 false (.t 15)), none⟩, ⟨some 17, .pur (.fad 1 (.t 3)), none⟩, ⟨some 18, .pur (.ld 1 false (.t 17)), none⟩, ⟨some 19, .pur (.bin .neq (.t 16) (.t 18)), none⟩]
def u56_7 : IC := .seq (.reg u56_7r) u56_8
def u56_10r : List IOper := [⟨some 25, .pur (.fad 2 (.t 2)), none⟩, ⟨some 26, .pur (.ld 1 false (.t 25)), none⟩, ⟨some 27, .pur (.fad 2 (.t 3)), none⟩, ⟨some 28, .pur (.ld 1 false (.t 27)), none⟩, ⟨some 29, .pur (.bin .lss (.t 26) (.t 28)), none⟩, ⟨some 4, .pur (.mv (.t 29)), none⟩]
def u56_10 : IC := .seq (.reg u56_10r) .ret
def u56_6 : IC := .seq u56_7 u56_10
def u56_2 : IC := .seq u56_3 u56_6
def u56_1r : List IOper := [⟨some 2, .new (.box (.t 0)), none⟩, ⟨some 3, .new (.box (.t 1)), none⟩, ⟨some 4, .pur (.mv (.k (.bool false))), none⟩]
def u56_1 : IC := .seq (.reg u56_1r) u56_2
def u56 : IFn := ⟨30, u56_1, [.tmp 4]⟩
end
theorem isU56 : IsFn Tryd.prog 56 u56 := by unfold IsFn; kernel_rfl
instance i56_5 : WR Tryd.prog 30 u56_5 (rS u56_5r .ret [2, 3]) := ⟨mkS⟩
instance i56_4 : WR Tryd.prog 30 u56_4 (rCE (.t 9) u56_5 .skip [2, 3, 9]) := ⟨mkCE⟩
instance i56_3 : WR Tryd.prog 30 u56_3 (rS u56_3r u56_4 [2, 3]) := ⟨mkS⟩
instance i56_9 : WR Tryd.prog 30 u56_9 (rS u56_9r .ret [2, 3]) := ⟨mkS⟩
instance i56_8 : WR Tryd.prog 30 u56_8 (rCE (.t 19) u56_9 .skip [2, 3, 19]) := ⟨mkCE⟩
instance i56_7 : WR Tryd.prog 30 u56_7 (rS u56_7r u56_8 [2, 3]) := ⟨mkS⟩
instance i56_10 : WR Tryd.prog 30 u56_10 (rS u56_10r .ret [2, 3]) := ⟨mkS⟩
instance i56_6 : WR Tryd.prog 30 u56_6 (rQ u56_7 u56_10 [2, 3]) := ⟨mkQ⟩
instance i56_2 : WR Tryd.prog 30 u56_2 (rQ u56_3 u56_6 [2, 3]) := ⟨mkQ⟩
instance i56_1 : WR Tryd.prog 30 u56_1 (rS u56_1r u56_2 [0, 1]) := ⟨mkS⟩
attribute [go_sem] u56_5r u56_3r u56_9r u56_7r u56_10r u56_1r
noncomputable section
def u57_10r : List IOper := [⟨some 25, .pur (.ld 1 false (.t 4)), none⟩, ⟨some 26, .pur (.mv (.t 5)), none⟩, ⟨some 27, .pur (.iad 1 (.t 25) (.t 26)), none⟩, ⟨none, .eff (.st 1 (.t 27) (.k (.int .i64 (-1)))), none⟩]
def u57_10 : IC := .reg u57_10r
def u57_9r : List IOper := [⟨some 24, .pur (.mv (.t 22)), none⟩, ⟨some 5, .pur (.mv (.t 24)), none⟩]
def u57_9 : IC := .seq (.reg u57_9r) u57_10
def u57_11r : List IOper := [⟨some 28, .pur (.bin .add (.t 22) (.k (.int .i64 1))), none⟩, ⟨some 22, .pur (.mv (.t 28)), none⟩]
def u57_11 : IC := .reg u57_11r
def u57_8 : IC := .seq (.blk 1 u57_9) u57_11
def u57_7 : IC := .seq (.cond (.t 23) .skip (.exit 0)) u57_8
def u57_6r : List IOper := [⟨some 23, .pur (.bin .lss (.t 22) (.t 21)), none⟩]
def u57_6 : IC := .seq (.reg u57_6r) u57_7
def u57_5 : IC := .blk 0 (.loop u57_6)
def u57_4r : List IOper := [⟨some 20, .pur (.ld 1 false (.t 4)), none⟩, ⟨some 21, .pur (.len (.t 20)), none⟩, ⟨some 22, .pur (.mv (.k (.int .i64 0))), none⟩]
def u57_4 : IC := .seq (.reg u57_4r) u57_5
def u57_23r : List IOper := [⟨some 2, .pur (.mv (.k (.slice none 0 0))), none⟩, ⟨some 3, .pur (.mv (.k (.bool false))), none⟩]
def u57_23 : IC := .seq (.reg u57_23r) .ret
def u57_22 : IC := .cond (.t 41) u57_23 .skip
def u57_21r : List IOper := [⟨some 37, .pur (.mv (.t 7)), none⟩, ⟨some 38, .pur (.fad 3 (.t 9)), none⟩, ⟨some 39, .pur (.ld 1 false (.t 38)), none⟩, ⟨some 40, .callv (.t 37) [.t 39, .k (.int .i64 0)], none⟩, ⟨some 41, .pur (.un .not (.t 40)), none⟩]
def u57_21 : IC := .seq (.reg u57_21r) u57_22
def u57_20r : List IOper := [⟨some 35, .pur (.iad 4 (.t 31) (.t 33)), none⟩, ⟨some 36, .pur (.ld 4 true (.t 35)), none⟩, ⟨some 9, .new (.box (.k (.agg #[.int .i64 0, .int .i64 0, .int .i64 0, .int .i64 0]))), none⟩, ⟨none, .eff (.st 4 (.t 9) (.t 36)), none⟩]
def u57_20 : IC := .seq (.reg u57_20r) u57_21
def u57_24r : List IOper := [⟨some 42, .pur (.bin .add (.t 33) (.k (.int .i64 1))), none⟩, ⟨some 33, .pur (.mv (.t 42)), none⟩]
def u57_24 : IC := .reg u57_24r
def u57_19 : IC := .seq (.blk 3 u57_20) u57_24
def u57_18 : IC := .seq (.cond (.t 34) .skip (.exit 2)) u57_19
def u57_17r : List IOper := [⟨some 34, .pur (.bin .lss (.t 33) (.t 32)), none⟩]
def u57_17 : IC := .seq (.reg u57_17r) u57_18
def u57_16 : IC := .blk 2 (.loop u57_17)
def u57_15r : List IOper := [⟨some 30, .pur (.fad 2 (.t 1)), none⟩, ⟨some 31, .pur (.ld 1 false (.t 30)), none⟩, ⟨some 32, .pur (.len (.t 31)), none⟩, ⟨some 33, .pur (.mv (.k (.int .i64 0))), none⟩]
def u57_15 : IC := .seq (.reg u57_15r) u57_16
def u57_28 : IC := .cond (.t 45) .skip (.exit 4)
def u57_27r : List IOper := [⟨some 43, .pur (.ld 1 false (.t 6)), none⟩, ⟨some 44, .pur (.len (.t 43)), none⟩, ⟨some 45, .pur (.bin .gtr (.t 44) (.k (.int .i64 0))), none⟩]
def u57_27 : IC := .seq (.reg u57_27r) u57_28
def u57_41r : List IOper := [⟨some 94, .pur (.mv (.t 15)), none⟩, ⟨some 95, .pur (.mv (.t 94)), none⟩, ⟨some 96, .pur (.ld 1 false (.t 4)), some (95, true)⟩, ⟨some 97, .pur (.mv (.t 10)), some (95, true)⟩, ⟨some 98, .pur (.iad 1 (.t 96) (.t 97)), some (95, true)⟩, ⟨some 99, .pur (.ld 1 false (.t 98)), some (95, true)⟩, ⟨some 100, .pur (.bin .eql (.t 99) (.k (.int .i64 0))), some (95, true)⟩, ⟨some 101, .pur (.pick (.t 95) (.t 100) (.k (.bool false))), none⟩, ⟨some 15, .pur (.mv (.t 101)), none⟩]
def u57_41 : IC := .reg u57_41r
def u57_44r : List IOper := [⟨some 104, .pur (.mv (.t 15)), none⟩, ⟨some 105, .pur (.mv (.t 104)), none⟩, ⟨some 106, .pur (.mv (.t 7)), some (105, true)⟩, ⟨some 107, .pur (.fad 1 (.t 11)), some (105, true)⟩, ⟨some 108, .pur (.ld 1 false (.t 107)), some (105, true)⟩, ⟨some 109, .pur (.mv (.t 14)), some (105, true)⟩, ⟨some 110, .callv (.t 106) [.t 108, .t 109], some (105, true)⟩, ⟨some 111, .pur (.pick (.t 105) (.t 110) (.k (.bool false))), none⟩, ⟨some 15, .pur (.mv (.t 111)), none⟩]
def u57_44 : IC := .reg u57_44r
def u57_47r : List IOper := [⟨some 114, .pur (.mv (.t 15)), none⟩, ⟨some 115, .pur (.mv (.t 114)), none⟩, ⟨some 116, .pur (.mv (.t 7)), some (115, true)⟩, ⟨some 117, .pur (.mv (.t 10)), some (115, true)⟩, ⟨some 118, .pur (.bin .add (.t 117) (.k (.int .i64 1))), some (115, true)⟩, ⟨some 119, .pur (.mv (.t 14)), some (115, true)⟩, ⟨some 120, .callv (.t 116) [.t 118, .t 119], some (115, true)⟩, ⟨some 121, .pur (.pick (.t 115) (.t 120) (.k (.bool false))), none⟩, ⟨some 122, .pur (.mv (.t 121)), none⟩, ⟨some 123, .pur (.mv (.t 7)), some (122, true)⟩, ⟨some 124, .pur (.fad 1 (.t 11)), some (122, true)⟩, ⟨some 125, .pur (.ld 1 false (.t 124)), some (122, true)⟩, ⟨some 126, .pur (.mv (.t 14)), some (122, true)⟩, ⟨some 127, .callv (.t 123) [.t 125, .t 126], some (122, true)⟩, ⟨some 128, .pur (.pick (.t 122) (.t 127) (.k (.bool false))), none⟩, ⟨some 15, .pur (.mv (.t 128)), none⟩]
def u57_47 : IC := .reg u57_47r
def u57_50r : List IOper := [⟨some 131, .pur (.mv (.t 15)), none⟩, ⟨some 132, .pur (.mv (.t 131)), none⟩, ⟨some 133, .pur (.mv (.t 7)), some (132, true)⟩, ⟨some 134, .pur (.mv (.t 10)), some (132, true)⟩, ⟨some 135, .pur (.bin .add (.t 134) (.k (.int .i64 1))), some (132, true)⟩, ⟨some 136, .pur (.mv (.t 14)), some (132, true)⟩, ⟨some 137, .callv (.t 133) [.t 135, .t 136], some (132, true)⟩, ⟨some 138, .pur (.pick (.t 132) (.t 137) (.k (.bool false))), none⟩, ⟨some 139, .pur (.mv (.t 138)), none⟩, ⟨some 140, .pur (.mv (.t 7)), some (139, true)⟩, ⟨some 141, .pur (.fad 1 (.t 11)), some (139, true)⟩, ⟨some 142, .pur (.ld 1 false (.t 141)), some (139, true)⟩, ⟨some 143, .pur (.mv (.t 14)), some (139, true)⟩, ⟨some 144, .pur (.bin .sub (.t 143) (.k (.int .i64 1))), some (139, true)⟩, ⟨some 145, .callv (.t 140) [.t 142, .t 144], some (139, true)⟩, ⟨some 146, .pur (.pick (.t 139) (.t 145) (.k (.bool false))), none⟩, ⟨some 15, .pur (.mv (.t 146)), none⟩]
def u57_50 : IC := .reg u57_50r
def u57_51r : List IOper := [⟨some 84, .pur (.mv (.t 15)), none⟩, ⟨some 85, .pur (.mv (.t 84)), none⟩, ⟨some 86, .pur (.mv (.t 7)), some (85, true)⟩, ⟨some 87, .pur (.mv (.t 10)), some (85, true)⟩, ⟨some 88, .pur (.bin .add (.t 87) (.k (.int .i64 1))), some (85, true)⟩, ⟨some 89, .pur (.mv (.t 14)), some (85, true)⟩, ⟨some 90, .callv (.t 86) [.t 88, .t 89], some (85, true)⟩, ⟨some 91, .pur (.pick (.t 85) (.t 90) (.k (.bool false))), none⟩, ⟨some 15, .pur (.mv (.t 91)), none⟩]
def u57_51 : IC := .reg u57_51r
def u57_49 : IC := .cond (.t 129) u57_50 u57_51
def u57_48r : List IOper := [⟨some 130, .pur (.bin .eql (.t 83) (.k (.int .i64 14))), none⟩, ⟨some 129, .pur (.mv (.t 130)), none⟩]
def u57_48 : IC := .seq (.reg u57_48r) u57_49
def u57_46 : IC := .cond (.t 112) u57_47 u57_48
def u57_45r : List IOper := [⟨some 113, .pur (.bin .eql (.t 83) (.k (.int .i64 13))), none⟩, ⟨some 112, .pur (.mv (.t 113)), none⟩]
def u57_45 : IC := .seq (.reg u57_45r) u57_46
def u57_43 : IC := .cond (.t 102) u57_44 u57_45
def u57_42r : List IOper := [⟨some 103, .pur (.bin .eql (.t 83) (.k (.int .i64 12))), none⟩, ⟨some 102, .pur (.mv (.t 103)), none⟩]
def u57_42 : IC := .seq (.reg u57_42r) u57_43
def u57_40 : IC := .cond (.t 92) u57_41 u57_42
def u57_39r : List IOper := [⟨some 93, .pur (.bin .eql (.t 83) (.k (.int .i64 31))), none⟩, ⟨some 92, .pur (.mv (.t 93)), none⟩]
def u57_39 : IC := .seq (.reg u57_39r) u57_40
def u57_38 : IC := .blk 6 u57_39
def u57_37r : List IOper := [⟨some 82, .pur (.fad 0 (.t 11)), none⟩, ⟨some 83, .pur (.ld 1 false (.t 82)), none⟩]
def u57_37 : IC := .seq (.reg u57_37r) u57_38
def u57_54r : List IOper := [⟨some 2, .pur (.mv (.k (.slice none 0 0))), none⟩, ⟨some 3, .pur (.mv (.k (.bool false))), none⟩]
def u57_54 : IC := .seq (.reg u57_54r) .ret
def u57_53 : IC := .cond (.t 148) u57_54 .skip
def u57_52r : List IOper := [⟨some 147, .pur (.mv (.t 15)), none⟩, ⟨some 148, .pur (.un .not (.t 147)), none⟩]
def u57_52 : IC := .seq (.reg u57_52r) u57_53
def u57_36 : IC := .seq u57_37 u57_52
def u57_35r : List IOper := [⟨some 76, .pur (.ld 1 false (.t 4)), none⟩, ⟨some 77, .pur (.mv (.t 10)), none⟩, ⟨some 78, .pur (.iad 1 (.t 76) (.t 77)), none⟩, ⟨some 79, .pur (.ld 1 false (.t 78)), none⟩, ⟨some 80, .pur (.mv (.t 12)), none⟩, ⟨some 81, .pur (.bin .geq (.t 79) (.t 80)), none⟩, ⟨some 15, .pur (.mv (.t 81)), none⟩]
def u57_35 : IC := .seq (.reg u57_35r) u57_36
def u57_34r : List IOper := [⟨some 68, .pur (.ld 1 false (.t 4)), none⟩, ⟨some 69, .pur (.mv (.t 10)), none⟩, ⟨some 70, .pur (.iad 1 (.t 68) (.t 69)), none⟩, ⟨some 71, .pur (.ld 1 false (.t 70)), none⟩, ⟨some 72, .pur (.mv (.t 12)), none⟩, ⟨some 73, .pur (.bin .sub (.t 71) (.t 72)), none⟩, ⟨some 74, .pur (.mv (.t 13)), none⟩, ⟨some 75, .pur (.bin .add (.t 73) (.t 74)), none⟩, ⟨some 14, .pur (.mv (.t 75)), none⟩]
def u57_34 : IC := .seq (.reg u57_34r) u57_35
def u57_33r : List IOper := [⟨some 63, .pur (.fad 0 (.t 11)), none⟩, ⟨some 64, .pur (.ld 1 false (.t 63)), none⟩, ⟨some 65, .call 81 [.t 64], none⟩, ⟨some 62, .pur (.mv (.t 65)), none⟩, ⟨some 66, .pur (.ext (.t 62) 0), none⟩, ⟨some 67, .pur (.ext (.t 62) 1), none⟩, ⟨some 12, .pur (.mv (.t 66)), none⟩, ⟨some 13, .pur (.mv (.t 67)), none⟩]
def u57_33 : IC := .seq (.reg u57_33r) u57_34
def u57_32r : List IOper := [⟨some 57, .pur (.fad 0 (.t 1)), none⟩, ⟨some 58, .pur (.ld 1 false (.t 57)), none⟩, ⟨some 59, .pur (.mv (.t 10)), none⟩, ⟨some 60, .pur (.iad 2 (.t 58) (.t 59)), none⟩, ⟨some 61, .pur (.ld 2 true (.t 60)), none⟩, ⟨some 11, .new (.box (.k (.agg #[.int .i64 0, .int .i64 0]))), none⟩, ⟨none, .eff (.st 2 (.t 11) (.t 61)), none⟩]
def u57_32 : IC := .seq (.reg u57_32r) u57_33
def u57_31r : List IOper := [⟨some 52, .pur (.ld 1 false (.t 6)), none⟩, ⟨some 53, .pur (.ld 1 false (.t 6)), none⟩, ⟨some 54, .pur (.len (.t 53)), none⟩, ⟨some 55, .pur (.bin .sub (.t 54) (.k (.int .i64 1))), none⟩, ⟨some 56, .pur (.slc 1 (.t 52) none (some (.t 55))), none⟩, ⟨none, .eff (.st 1 (.t 6) (.t 56)), none⟩]
def u57_31 : IC := .seq (.reg u57_31r) u57_32
def u57_30r : List IOper := [⟨some 46, .pur (.ld 1 false (.t 6)), none⟩, ⟨some 47, .pur (.ld 1 false (.t 6)), none⟩, ⟨some 48, .pur (.len (.t 47)), none⟩, ⟨some 49, .pur (.bin .sub (.t 48) (.k (.int .i64 1))), none⟩, ⟨some 50, .pur (.iad 1 (.t 46) (.t 49)), none⟩, ⟨some 51, .pur (.ld 1 false (.t 50)), none⟩, ⟨some 10, .pur (.mv (.t 51)), none⟩]
def u57_30 : IC := .seq (.reg u57_30r) u57_31
def u57_29 : IC := .blk 5 u57_30
def u57_26 : IC := .seq u57_27 u57_29
def u57_55r : List IOper := [⟨some 149, .pur (.ld 1 false (.t 4)), none⟩, ⟨some 2, .pur (.mv (.t 149)), none⟩, ⟨some 3, .pur (.mv (.k (.bool true))), none⟩]
def u57_55 : IC := .seq (.reg u57_55r) .ret
def u57_25 : IC := .seq (.blk 4 (.loop u57_26)) u57_55
def u57_14 : IC := .seq u57_15 u57_25
def u57_13r : List IOper := [⟨some 29, .pur (.mkf 80 [] [.t 4, .t 6]), none⟩, ⟨some 7, .pur (.mv (.t 29)), none⟩]
def u57_13 : IC := .seq (.reg u57_13r) u57_14
def u57_12r : List IOper := [⟨some 6, .new (.box (.k (.slice none 0 0))), none⟩]
def u57_12 : IC := .seq (.reg u57_12r) u57_13
def u57_3 : IC := .seq u57_4 u57_12
def u57_2r : List IOper := [⟨some 16, .pur (.fad 0 (.t 1)), none⟩, ⟨some 17, .pur (.ld 1 false (.t 16)), none⟩, ⟨some 18, .pur (.len (.t 17)), none⟩, ⟨some 19, .new (.msl 1 8 #[.int .i64 0] (.t 18) (.t 18)), none⟩, ⟨some 4, .new (.box (.k (.slice none 0 0))), none⟩, ⟨none, .eff (.st 1 (.t 4) (.t 19)), none⟩]
def u57_2 : IC := .seq (.reg u57_2r) u57_3
def u57_1r : List IOper := [⟨some 1, .new (.box (.t 0)), none⟩, ⟨some 2, .pur (.mv (.k (.slice none 0 0))), none⟩, ⟨some 3, .pur (.mv (.k (.bool false))), none⟩]
def u57_1 : IC := .seq (.reg u57_1r) u57_2
def u57 : IFn := ⟨150, u57_1, [.tmp 2, .tmp 3]⟩
end
theorem isU57 : IsFn Tryd.prog 57 u57 := by unfold IsFn; kernel_rfl
instance i57_10 : WR Tryd.prog 150 u57_10 (rE u57_10r [1, 4, 5, 21, 22]) := ⟨mkE⟩
instance i57_9 : WR Tryd.prog 150 u57_9 (rS u57_9r u57_10 [1, 4, 21, 22]) := ⟨mkS⟩
instance i57_11 : WR Tryd.prog 150 u57_11 (rE u57_11r [1, 4, 21, 22]) := ⟨mkE⟩
instance i57_8 : WR Tryd.prog 150 u57_8 (rB 1 u57_9 u57_11 [1, 4, 21, 22]) := ⟨mkB⟩
instance i57_7 : WR Tryd.prog 150 u57_7 (rC (.t 23) .skip (.exit 0) u57_8 [1, 4, 21, 22, 23]) := ⟨mkC⟩
instance i57_6 : WR Tryd.prog 150 u57_6 (rS u57_6r u57_7 [1, 4, 21, 22]) := ⟨mkS⟩
instance i57_5 : WR Tryd.prog 150 u57_5 (rBE 0 (.loop u57_6) [1, 4, 21, 22]) := ⟨mkBE⟩
instance i57_4 : WR Tryd.prog 150 u57_4 (rS u57_4r u57_5 [1, 4]) := ⟨mkS⟩
instance i57_23 : WR Tryd.prog 150 u57_23 (rS u57_23r .ret []) := ⟨mkS⟩
instance i57_22 : WR Tryd.prog 150 u57_22 (rCE (.t 41) u57_23 .skip [1, 4, 6, 7, 31, 32, 33, 41]) := ⟨mkCE⟩
instance i57_21 : WR Tryd.prog 150 u57_21 (rS u57_21r u57_22 [1, 4, 6, 7, 9, 31, 32, 33]) := ⟨mkS⟩
instance i57_20 : WR Tryd.prog 150 u57_20 (rS u57_20r u57_21 [1, 4, 6, 7, 31, 32, 33]) := ⟨mkS⟩
instance i57_24 : WR Tryd.prog 150 u57_24 (rE u57_24r [1, 4, 6, 7, 31, 32, 33]) := ⟨mkE⟩
instance i57_19 : WR Tryd.prog 150 u57_19 (rB 3 u57_20 u57_24 [1, 4, 6, 7, 31, 32, 33]) := ⟨mkB⟩
instance i57_18 : WR Tryd.prog 150 u57_18 (rC (.t 34) .skip (.exit 2) u57_19 [1, 4, 6, 7, 31, 32, 33, 34]) := ⟨mkC⟩
instance i57_17 : WR Tryd.prog 150 u57_17 (rS u57_17r u57_18 [1, 4, 6, 7, 31, 32, 33]) := ⟨mkS⟩
instance i57_16 : WR Tryd.prog 150 u57_16 (rBE 2 (.loop u57_17) [1, 4, 6, 7, 31, 32, 33]) := ⟨mkBE⟩
instance i57_15 : WR Tryd.prog 150 u57_15 (rS u57_15r u57_16 [1, 4, 6, 7]) := ⟨mkS⟩
instance i57_28 : WR Tryd.prog 150 u57_28 (rCE (.t 45) .skip (.exit 4) [1, 4, 6, 7, 45]) := ⟨mkCE⟩
instance i57_27 : WR Tryd.prog 150 u57_27 (rS u57_27r u57_28 [1, 4, 6, 7]) := ⟨mkS⟩
instance i57_41 : WR Tryd.prog 150 u57_41 (rE u57_41r [1, 4, 6, 7, 10, 15]) := ⟨mkE⟩
instance i57_44 : WR Tryd.prog 150 u57_44 (rE u57_44r [1, 4, 6, 7, 11, 14, 15]) := ⟨mkE⟩
instance i57_47 : WR Tryd.prog 150 u57_47 (rE u57_47r [1, 4, 6, 7, 10, 11, 14, 15]) := ⟨mkE⟩
instance i57_50 : WR Tryd.prog 150 u57_50 (rE u57_50r [1, 4, 6, 7, 10, 11, 14, 15]) := ⟨mkE⟩
instance i57_51 : WR Tryd.prog 150 u57_51 (rE u57_51r [1, 4, 6, 7, 10, 14, 15]) := ⟨mkE⟩
instance i57_49 : WR Tryd.prog 150 u57_49 (rCE (.t 129) u57_50 u57_51 [1, 4, 6, 7, 10, 11, 14, 15, 129]) := ⟨mkCE⟩
instance i57_48 : WR Tryd.prog 150 u57_48 (rS u57_48r u57_49 [1, 4, 6, 7, 10, 11, 14, 15, 83]) := ⟨mkS⟩
instance i57_46 : WR Tryd.prog 150 u57_46 (rCE (.t 112) u57_47 u57_48 [1, 4, 6, 7, 10, 11, 14, 15, 83, 112]) := ⟨mkCE⟩
instance i57_45 : WR Tryd.prog 150 u57_45 (rS u57_45r u57_46 [1, 4, 6, 7, 10, 11, 14, 15, 83]) := ⟨mkS⟩
instance i57_43 : WR Tryd.prog 150 u57_43 (rCE (.t 102) u57_44 u57_45 [1, 4, 6, 7, 10, 11, 14, 15, 83, 102]) := ⟨mkCE⟩
instance i57_42 : WR Tryd.prog 150 u57_42 (rS u57_42r u57_43 [1, 4, 6, 7, 10, 11, 14, 15, 83]) := ⟨mkS⟩
instance i57_40 : WR Tryd.prog 150 u57_40 (rCE (.t 92) u57_41 u57_42 [1, 4, 6, 7, 10, 11, 14, 15, 83, 92]) := ⟨mkCE⟩
instance i57_39 : WR Tryd.prog 150 u57_39 (rS u57_39r u57_40 [1, 4, 6, 7, 10, 11, 14, 15, 83]) := ⟨mkS⟩
instance i57_38 : WR Tryd.prog 150 u57_38 (rBE 6 u57_39 [1, 4, 6, 7, 10, 11, 14, 15, 83]) := ⟨mkBE⟩
instance i57_37 : WR Tryd.prog 150 u57_37 (rS u57_37r u57_38 [1, 4, 6, 7, 10, 11, 14, 15]) := ⟨mkS⟩
instance i57_54 : WR Tryd.prog 150 u57_54 (rS u57_54r .ret []) := ⟨mkS⟩
instance i57_53 : WR Tryd.prog 150 u57_53 (rCE (.t 148) u57_54 .skip [1, 4, 6, 7, 148]) := ⟨mkCE⟩
instance i57_52 : WR Tryd.prog 150 u57_52 (rS u57_52r u57_53 [1, 4, 6, 7, 15]) := ⟨mkS⟩
instance i57_36 : WR Tryd.prog 150 u57_36 (rQ u57_37 u57_52 [1, 4, 6, 7, 10, 11, 14, 15]) := ⟨mkQ⟩
instance i57_35 : WR Tryd.prog 150 u57_35 (rS u57_35r u57_36 [1, 4, 6, 7, 10, 11, 12, 14]) := ⟨mkS⟩
instance i57_34 : WR Tryd.prog 150 u57_34 (rS u57_34r u57_35 [1, 4, 6, 7, 10, 11, 12, 13]) := ⟨mkS⟩
instance i57_33 : WR Tryd.prog 150 u57_33 (rS u57_33r u57_34 [1, 4, 6, 7, 10, 11]) := ⟨mkS⟩
instance i57_32 : WR Tryd.prog 150 u57_32 (rS u57_32r u57_33 [1, 4, 6, 7, 10]) := ⟨mkS⟩
instance i57_31 : WR Tryd.prog 150 u57_31 (rS u57_31r u57_32 [1, 4, 6, 7, 10]) := ⟨mkS⟩
instance i57_30 : WR Tryd.prog 150 u57_30 (rS u57_30r u57_31 [1, 4, 6, 7]) := ⟨mkS⟩
instance i57_29 : WR Tryd.prog 150 u57_29 (rBE 5 u57_30 [1, 4, 6, 7]) := ⟨mkBE⟩
instance i57_26 : WR Tryd.prog 150 u57_26 (rQ u57_27 u57_29 [1, 4, 6, 7]) := ⟨mkQ⟩
instance i57_55 : WR Tryd.prog 150 u57_55 (rS u57_55r .ret [4]) := ⟨mkS⟩
instance i57_25 : WR Tryd.prog 150 u57_25 (rB 4 (.loop u57_26) u57_55 [1, 4, 6, 7]) := ⟨mkB⟩
instance i57_14 : WR Tryd.prog 150 u57_14 (rQ u57_15 u57_25 [1, 4, 6, 7]) := ⟨mkQ⟩
instance i57_13 : WR Tryd.prog 150 u57_13 (rS u57_13r u57_14 [1, 4, 6]) := ⟨mkS⟩
instance i57_12 : WR Tryd.prog 150 u57_12 (rS u57_12r u57_13 [1, 4]) := ⟨mkS⟩
instance i57_3 : WR Tryd.prog 150 u57_3 (rQ u57_4 u57_12 [1, 4]) := ⟨mkQ⟩
instance i57_2 : WR Tryd.prog 150 u57_2 (rS u57_2r u57_3 [1]) := ⟨mkS⟩
instance i57_1 : WR Tryd.prog 150 u57_1 (rS u57_1r u57_2 [0]) := ⟨mkS⟩
attribute [go_sem] u57_10r u57_9r u57_11r u57_6r u57_4r u57_23r u57_21r u57_20r u57_24r u57_17r u57_15r u57_27r u57_41r u57_44r u57_47r u57_50r u57_51r u57_48r u57_45r u57_42r u57_39r u57_37r u57_54r u57_52r u57_35r u57_34r u57_33r u57_32r u57_31r u57_30r u57_55r u57_13r u57_12r u57_2r u57_1r
noncomputable section
def u80_5r : List IOper := [⟨some 6, .pur (.mv (.k (.bool false))), none⟩]
def u80_5 : IC := .seq (.reg u80_5r) .ret
def u80_4 : IC := .cond (.t 29) u80_5 .skip
def u80_3r : List IOper := [⟨some 7, .pur (.mv (.t 0)), none⟩, ⟨some 8, .pur (.ld 1 false (.t 2)), none⟩, ⟨some 9, .pur (.len (.t 8)), none⟩, ⟨some 10, .pur (.bin .geq (.t 7) (.t 9)), none⟩, ⟨some 11, .pur (.mv (.t 10)), none⟩, ⟨some 12, .pur (.mv (.t 1)), some (11, false)⟩, ⟨some 13, .pur (.bin .gtr (.t 12) (.k (.int .i64 48))), some (11, false)⟩, ⟨some 14, .pur (.pick (.t 11) (.k (.bool true)) (.t 13)), none⟩, ⟨some 15, .pur (.mv (.t 14)), none⟩, ⟨some 16, .pur (.ld 1 false (.t 2)), some (15, false)⟩, ⟨some 17, .pur (.mv (.t 0)), some (15, false)⟩, ⟨some 18, .pur (.iad 1 (.t 16) (.t 17)), some (15, false)⟩, ⟨some 19, .pur (.ld 1 false (.t 18)), some (15, false)⟩, ⟨some 20, .pur (.bin .geq (.t 19) (.k (.int .i64 0))), some (15, false)⟩, ⟨some 21, .pur (.mv (.t 20)), some (15, false)⟩, ⟨some 22, .pur (.ld 1 false (.t 2)), some (21, true)⟩, ⟨some 23, .pur (.mv (.t 0)), some (21, true)⟩, ⟨some 24, .pur (.iad 1 (.t 22) (.t 23)), some (21, true)⟩, ⟨some 25, .pur (.ld 1 false (.t 24)), some (21, true)⟩, ⟨some 26, .pur (.mv (.t 1)), some (21, true)⟩, ⟨some 27, .pur (.bin .neq (.t 25) (.t 26)), some (21, true)⟩, ⟨some 28, .pur (.pick (.t 21) (.t 27) (.k (.bool false))), some (15, false)⟩, ⟨some 29, .pur (.pick (.t 15) (.k (.bool true)) (.t 28)), none⟩]
def u80_3 : IC := .seq (.reg u80_3r) u80_4
def u80_10r : List IOper := [⟨some 39, .pur (.ld 1 false (.t 3)), none⟩, ⟨some 40, .pur (.mv (.t 0)), none⟩, ⟨some 41, .new (.bsl 1 1 #[.int .i64 0] [(0, .t 40)]), none⟩, ⟨some 42, .eff (.app 1 8 (.t 39) (.t 41)), none⟩, ⟨none, .eff (.st 1 (.t 3) (.t 42)), none⟩]
def u80_10 : IC := .reg u80_10r
def u80_9r : List IOper := [⟨some 35, .pur (.ld 1 false (.t 2)), none⟩, ⟨some 36, .pur (.mv (.t 0)), none⟩, ⟨some 37, .pur (.mv (.t 1)), none⟩, ⟨some 38, .pur (.iad 1 (.t 35) (.t 36)), none⟩, ⟨none, .eff (.st 1 (.t 38) (.t 37)), none⟩]
def u80_9 : IC := .seq (.reg u80_9r) u80_10
def u80_8 : IC := .cond (.t 34) u80_9 .skip
def u80_7r : List IOper := [⟨some 30, .pur (.ld 1 false (.t 2)), none⟩, ⟨some 31, .pur (.mv (.t 0)), none⟩, ⟨some 32, .pur (.iad 1 (.t 30) (.t 31)), none⟩, ⟨some 33, .pur (.ld 1 false (.t 32)), none⟩, ⟨some 34, .pur (.bin .lss (.t 33) (.k (.int .i64 0))), none⟩]
def u80_7 : IC := .seq (.reg u80_7r) u80_8
def u80_11r : List IOper := [⟨some 6, .pur (.mv (.k (.bool true))), none⟩]
def u80_11 : IC := .seq (.reg u80_11r) .ret
def u80_6 : IC := .seq u80_7 u80_11
def u80_2 : IC := .seq u80_3 u80_6
def u80_1r : List IOper := [⟨some 6, .pur (.mv (.k (.bool false))), none⟩]
def u80_1 : IC := .seq (.reg u80_1r) u80_2
def u80 : IFn := ⟨43, u80_1, [.tmp 6]⟩
end
theorem isU80 : IsFn Tryd.prog 80 u80 := by unfold IsFn; kernel_rfl
instance i80_5 : WR Tryd.prog 43 u80_5 (rS u80_5r .ret []) := ⟨mkS⟩
instance i80_4 : WR Tryd.prog 43 u80_4 (rCE (.t 29) u80_5 .skip [0, 1, 2, 3, 29]) := ⟨mkCE⟩
instance i80_3 : WR Tryd.prog 43 u80_3 (rS u80_3r u80_4 [0, 1, 2, 3]) := ⟨mkS⟩
instance i80_10 : WR Tryd.prog 43 u80_10 (rE u80_10r [0, 3]) := ⟨mkE⟩
instance i80_9 : WR Tryd.prog 43 u80_9 (rS u80_9r u80_10 [0, 1, 2, 3]) := ⟨mkS⟩
instance i80_8 : WR Tryd.prog 43 u80_8 (rCE (.t 34) u80_9 .skip [0, 1, 2, 3, 34]) := ⟨mkCE⟩
instance i80_7 : WR Tryd.prog 43 u80_7 (rS u80_7r u80_8 [0, 1, 2, 3]) := ⟨mkS⟩
instance i80_11 : WR Tryd.prog 43 u80_11 (rS u80_11r .ret []) := ⟨mkS⟩
instance i80_6 : WR Tryd.prog 43 u80_6 (rQ u80_7 u80_11 [0, 1, 2, 3]) := ⟨mkQ⟩
instance i80_2 : WR Tryd.prog 43 u80_2 (rQ u80_3 u80_6 [0, 1, 2, 3]) := ⟨mkQ⟩
instance i80_1 : WR Tryd.prog 43 u80_1 (rS u80_1r u80_2 [0, 1, 2, 3]) := ⟨mkS⟩
attribute [go_sem] u80_5r u80_3r u80_10r u80_9r u80_7r u80_11r u80_1r
noncomputable section
def u30_5r : List IOper := [⟨some 2, .pur (.mv (.k (.slice none 0 0))), none⟩, ⟨some 3, .pur (.mv (.k (.int .i64 9))), none⟩]
def u30_5 : IC := .seq (.reg u30_5r) .ret
def u30_8r : List IOper := [⟨some 2, .pur (.mv (.k (.slice none 0 0))), none⟩, ⟨some 3, .pur (.mv (.k (.int .i64 51))), none⟩]
def u30_8 : IC := .seq (.reg u30_8r) .ret
def u30_11r : List IOper := [⟨some 2, .pur (.mv (.k (.slice none 0 0))), none⟩, ⟨some 3, .pur (.mv (.k (.int .i64 54))), none⟩]
def u30_11 : IC := .seq (.reg u30_11r) .ret
def u30_10 : IC := .cond (.t 15) u30_11 .skip
def u30_9r : List IOper := [⟨some 16, .pur (.ld 7 true (.t 1)), none⟩, ⟨some 17, .call 55 [.t 16], none⟩, ⟨some 18, .pur (.un .not (.t 17)), none⟩, ⟨some 15, .pur (.mv (.t 18)), none⟩]
def u30_9 : IC := .seq (.reg u30_9r) u30_10
def u30_7 : IC := .cond (.t 11) u30_8 u30_9
def u30_6r : List IOper := [⟨some 12, .pur (.ld 7 true (.t 1)), none⟩, ⟨some 13, .call 54 [.t 12], none⟩, ⟨some 14, .pur (.un .not (.t 13)), none⟩, ⟨some 11, .pur (.mv (.t 14)), none⟩]
def u30_6 : IC := .seq (.reg u30_6r) u30_7
def u30_4 : IC := .cond (.t 7) u30_5 u30_6
def u30_3r : List IOper := [⟨some 8, .pur (.ld 7 true (.t 1)), none⟩, ⟨some 9, .call 53 [.t 8], none⟩, ⟨some 10, .pur (.un .not (.t 9)), none⟩, ⟨some 7, .pur (.mv (.t 10)), none⟩]
def u30_3 : IC := .seq (.reg u30_3r) u30_4
def u30_17 : IC := .cond (.t 23) .skip (.exit 1)
def u30_16r : List IOper := [⟨some 19, .pur (.mv (.t 4)), none⟩, ⟨some 20, .pur (.fad 2 (.t 1)), none⟩, ⟨some 21, .pur (.ld 1 false (.t 20)), none⟩, ⟨some 22, .pur (.len (.t 21)), none⟩, ⟨some 23, .pur (.bin .lss (.t 19) (.t 22)), none⟩]
def u30_16 : IC := .seq (.reg u30_16r) u30_17
def u30_21r : List IOper := [⟨some 2, .pur (.mv (.k (.slice none 0 0))), none⟩, ⟨some 3, .pur (.mv (.k (.int .i64 66))), none⟩]
def u30_21 : IC := .seq (.reg u30_21r) .ret
def u30_20 : IC := .cond (.t 38) u30_21 .skip
def u30_19r : DReg := ⟨[⟨some 26, .pur (.fad 2 (.t 1)), none⟩, ⟨some 27, .pur (.ld 1 false (.t 26)), none⟩, ⟨some 28, .pur (.mv (.t 4)), none⟩, ⟨some 29, .pur (.bin .sub (.t 28) (.k (.int .i64 1))), none⟩, ⟨some 30, .pur (.iad 4 (.t 27) (.t 29)), none⟩, ⟨some 31, .pur (.ld 4 true (.t 30)), none⟩, ⟨some 32, .pur (.fad 2 (.t 1)), none⟩, ⟨some 33, .pur (.ld 1 false (.t 32)), none⟩, ⟨some 34, .pur (.mv (.t 4)), none⟩, ⟨some 35, .pur (.iad 4 (.t 33) (.t 34)), none⟩, ⟨some 36, .pur (.ld 4 true (.t 35)), none⟩, ⟨some 37, .call 56 [.t 31, .t 36], none⟩, ⟨some 38, .pur (.un .not (.t 37)), none⟩], [[], [0], [], [2], [1, 3, 0, 2], [4, 1, 3, 0, 2], [], [6], [], [7, 8, 6], [9, 7, 8, 6], [5, 10, 4, 1, 3, 0, 2, 9, 7, 8, 6], [11, 5, 10, 4, 1, 3, 0, 2, 9, 7, 8, 6]], [(0, none), (1, none), (2, none), (3, none), (4, none), (5, none), (6, none), (7, none), (8, none), (9, none), (10, none), (11, some []), (12, none)]⟩
def u30_19 : IC := .seq (.drw 13 u30_19r) u30_20
def u30_22r : List IOper := [⟨some 24, .pur (.mv (.t 4)), none⟩, ⟨some 25, .pur (.bin .add (.t 24) (.k (.int .i64 1))), none⟩, ⟨some 4, .pur (.mv (.t 25)), none⟩]
def u30_22 : IC := .reg u30_22r
def u30_18 : IC := .seq (.blk 2 u30_19) u30_22
def u30_15 : IC := .seq u30_16 u30_18
def u30_14 : IC := .blk 1 (.loop u30_15)
def u30_13r : List IOper := [⟨some 4, .pur (.mv (.k (.int .i64 1))), none⟩]
def u30_13 : IC := .seq (.reg u30_13r) u30_14
def u30_27r : List IOper := [⟨some 2, .pur (.mv (.k (.slice none 0 0))), none⟩, ⟨some 3, .pur (.mv (.k (.int .i64 53))), none⟩]
def u30_27 : IC := .seq (.reg u30_27r) .ret
def u30_26 : IC := .cond (.t 45) u30_27 .skip
def u30_25r : List IOper := [⟨some 44, .pur (.mv (.t 6)), none⟩, ⟨some 45, .pur (.un .not (.t 44)), none⟩]
def u30_25 : IC := .seq (.reg u30_25r) u30_26
def u30_28r : List IOper := [⟨some 46, .pur (.mv (.t 5)), none⟩, ⟨some 2, .pur (.mv (.t 46)), none⟩, ⟨some 3, .pur (.mv (.k (.int .i64 0))), none⟩]
def u30_28 : IC := .seq (.reg u30_28r) .ret
def u30_24 : IC := .seq u30_25 u30_28
def u30_23r : List IOper := [⟨some 40, .pur (.ld 7 true (.t 1)), none⟩, ⟨some 41, .call 57 [.t 40], none⟩, ⟨some 39, .pur (.mv (.t 41)), none⟩, ⟨some 42, .pur (.ext (.t 39) 0), none⟩, ⟨some 43, .pur (.ext (.t 39) 1), none⟩, ⟨some 5, .pur (.mv (.t 42)), none⟩, ⟨some 6, .pur (.mv (.t 43)), none⟩]
def u30_23 : IC := .seq (.reg u30_23r) u30_24
def u30_12 : IC := .seq u30_13 u30_23
def u30_2 : IC := .seq (.blk 0 u30_3) u30_12
def u30_1r : List IOper := [⟨some 1, .new (.box (.t 0)), none⟩, ⟨some 2, .pur (.mv (.k (.slice none 0 0))), none⟩, ⟨some 3, .pur (.mv (.k (.int .i64 0))), none⟩]
def u30_1 : IC := .seq (.reg u30_1r) u30_2
def u30 : IFn := ⟨47, u30_1, [.tmp 2, .tmp 3]⟩
end
theorem isU30 : IsFn Tryd.prog 30 u30 := by unfold IsFn; kernel_rfl
instance i30_5 : WR Tryd.prog 47 u30_5 (rS u30_5r .ret []) := ⟨mkS⟩
instance i30_8 : WR Tryd.prog 47 u30_8 (rS u30_8r .ret []) := ⟨mkS⟩
instance i30_11 : WR Tryd.prog 47 u30_11 (rS u30_11r .ret []) := ⟨mkS⟩
instance i30_10 : WR Tryd.prog 47 u30_10 (rCE (.t 15) u30_11 .skip [1, 15]) := ⟨mkCE⟩
instance i30_9 : WR Tryd.prog 47 u30_9 (rS u30_9r u30_10 [1]) := ⟨mkS⟩
instance i30_7 : WR Tryd.prog 47 u30_7 (rCE (.t 11) u30_8 u30_9 [1, 11]) := ⟨mkCE⟩
instance i30_6 : WR Tryd.prog 47 u30_6 (rS u30_6r u30_7 [1]) := ⟨mkS⟩
instance i30_4 : WR Tryd.prog 47 u30_4 (rCE (.t 7) u30_5 u30_6 [1, 7]) := ⟨mkCE⟩
instance i30_3 : WR Tryd.prog 47 u30_3 (rS u30_3r u30_4 [1]) := ⟨mkS⟩
instance i30_17 : WR Tryd.prog 47 u30_17 (rCE (.t 23) .skip (.exit 1) [1, 4, 23]) := ⟨mkCE⟩
instance i30_16 : WR Tryd.prog 47 u30_16 (rS u30_16r u30_17 [1, 4]) := ⟨mkS⟩
instance i30_21 : WR Tryd.prog 47 u30_21 (rS u30_21r .ret []) := ⟨mkS⟩
instance i30_20 : WR Tryd.prog 47 u30_20 (rCE (.t 38) u30_21 .skip [1, 4, 38]) := ⟨mkCE⟩
instance i30_19 : WR Tryd.prog 47 u30_19 (rP 13 u30_19r u30_20 [1, 4]) := ⟨mkP rfl⟩
instance i30_22 : WR Tryd.prog 47 u30_22 (rE u30_22r [1, 4]) := ⟨mkE⟩
instance i30_18 : WR Tryd.prog 47 u30_18 (rB 2 u30_19 u30_22 [1, 4]) := ⟨mkB⟩
instance i30_15 : WR Tryd.prog 47 u30_15 (rQ u30_16 u30_18 [1, 4]) := ⟨mkQ⟩
instance i30_14 : WR Tryd.prog 47 u30_14 (rBE 1 (.loop u30_15) [1, 4]) := ⟨mkBE⟩
instance i30_13 : WR Tryd.prog 47 u30_13 (rS u30_13r u30_14 [1]) := ⟨mkS⟩
instance i30_27 : WR Tryd.prog 47 u30_27 (rS u30_27r .ret []) := ⟨mkS⟩
instance i30_26 : WR Tryd.prog 47 u30_26 (rCE (.t 45) u30_27 .skip [5, 45]) := ⟨mkCE⟩
instance i30_25 : WR Tryd.prog 47 u30_25 (rS u30_25r u30_26 [5, 6]) := ⟨mkS⟩
instance i30_28 : WR Tryd.prog 47 u30_28 (rS u30_28r .ret [5]) := ⟨mkS⟩
instance i30_24 : WR Tryd.prog 47 u30_24 (rQ u30_25 u30_28 [5, 6]) := ⟨mkQ⟩
instance i30_23 : WR Tryd.prog 47 u30_23 (rS u30_23r u30_24 [1]) := ⟨mkS⟩
instance i30_12 : WR Tryd.prog 47 u30_12 (rQ u30_13 u30_23 [1]) := ⟨mkQ⟩
instance i30_2 : WR Tryd.prog 47 u30_2 (rB 0 u30_3 u30_12 [1]) := ⟨mkB⟩
instance i30_1 : WR Tryd.prog 47 u30_1 (rS u30_1r u30_2 [0]) := ⟨mkS⟩
attribute [go_sem] u30_5r u30_8r u30_11r u30_9r u30_6r u30_3r u30_16r u30_21r u30_19r u30_22r u30_13r u30_27r u30_25r u30_28r u30_23r u30_1r
noncomputable section
def u14_3r : List IOper := [⟨some 10, .pur (.mv (.t 4)), none⟩, ⟨some 2, .pur (.mv (.t 10)), none⟩]
def u14_3 : IC := .seq (.reg u14_3r) .ret
def u14_2r : List IOper := [⟨some 6, .pur (.ld 7 true (.t 1)), none⟩, ⟨some 7, .call 30 [.t 6], none⟩, ⟨some 5, .pur (.mv (.t 7)), none⟩, ⟨some 8, .pur (.ext (.t 5) 0), none⟩, ⟨some 9, .pur (.ext (.t 5) 1), none⟩, ⟨some 3, .pur (.mv (.t 8)), none⟩, ⟨some 4, .pur (.mv (.t 9)), none⟩]
def u14_2 : IC := .seq (.reg u14_2r) u14_3
def u14_1r : List IOper := [⟨some 1, .new (.box (.t 0)), none⟩, ⟨some 2, .pur (.mv (.k (.int .i64 0))), none⟩]
def u14_1 : IC := .seq (.reg u14_1r) u14_2
def u14 : IFn := ⟨11, u14_1, [.tmp 2]⟩
end
theorem isU14 : IsFn Tryd.prog 14 u14 := by unfold IsFn; kernel_rfl
instance i14_3 : WR Tryd.prog 11 u14_3 (rS u14_3r .ret [4]) := ⟨mkS⟩
instance i14_2 : WR Tryd.prog 11 u14_2 (rS u14_2r u14_3 [1]) := ⟨mkS⟩
instance i14_1 : WR Tryd.prog 11 u14_1 (rS u14_1r u14_2 [0]) := ⟨mkS⟩
attribute [go_sem] u14_3r u14_2r u14_1r
noncomputable section
def u85_11r : List IOper := [⟨some 17, .pur (.mv (.t 5)), none⟩, ⟨some 4, .pur (.mv (.t 17)), none⟩]
def u85_11 : IC := .seq (.reg u85_11r) .ret
def u85_10 : IC := .cond (.t 16) u85_11 .skip
def u85_9r : List IOper := [⟨some 11, .pur (.mv (.t 1)), none⟩, ⟨some 12, .pur (.mv (.t 0)), none⟩, ⟨some 13, .pur (.mv (.t 5)), none⟩, ⟨some 14, .pur (.iad 1 (.t 12) (.t 13)), none⟩, ⟨some 15, .pur (.ld 1 false (.t 14)), none⟩, ⟨some 16, .callv (.t 11) [.t 15], none⟩]
def u85_9 : IC := .seq (.reg u85_9r) u85_10
def u85_8r : List IOper := [⟨some 10, .pur (.mv (.t 8)), none⟩, ⟨some 5, .pur (.mv (.t 10)), none⟩]
def u85_8 : IC := .seq (.reg u85_8r) u85_9
def u85_12r : List IOper := [⟨some 18, .pur (.bin .add (.t 8) (.k (.int .i64 1))), none⟩, ⟨some 8, .pur (.mv (.t 18)), none⟩]
def u85_12 : IC := .reg u85_12r
def u85_7 : IC := .seq (.blk 1 u85_8) u85_12
def u85_6 : IC := .seq (.cond (.t 9) .skip (.exit 0)) u85_7
def u85_5r : List IOper := [⟨some 9, .pur (.bin .lss (.t 8) (.t 7)), none⟩]
def u85_5 : IC := .seq (.reg u85_5r) u85_6
def u85_4 : IC := .blk 0 (.loop u85_5)
def u85_3r : List IOper := [⟨some 6, .pur (.mv (.t 0)), none⟩, ⟨some 7, .pur (.len (.t 6)), none⟩, ⟨some 8, .pur (.mv (.k (.int .i64 0))), none⟩]
def u85_3 : IC := .seq (.reg u85_3r) u85_4
def u85_13r : List IOper := [⟨some 4, .pur (.mv (.k (.int .i64 (-1)))), none⟩]
def u85_13 : IC := .seq (.reg u85_13r) .ret
def u85_2 : IC := .seq u85_3 u85_13
def u85_1r : List IOper := [⟨some 4, .pur (.mv (.k (.int .i64 0))), none⟩]
def u85_1 : IC := .seq (.reg u85_1r) u85_2
def u85 : IFn := ⟨19, u85_1, [.tmp 4]⟩
end
theorem isU85 : IsFn Tryd.prog 85 u85 := by unfold IsFn; kernel_rfl
instance i85_11 : WR Tryd.prog 19 u85_11 (rS u85_11r .ret [5]) := ⟨mkS⟩
instance i85_10 : WR Tryd.prog 19 u85_10 (rCE (.t 16) u85_11 .skip [0, 1, 5, 7, 8, 16]) := ⟨mkCE⟩
instance i85_9 : WR Tryd.prog 19 u85_9 (rS u85_9r u85_10 [0, 1, 5, 7, 8]) := ⟨mkS⟩
instance i85_8 : WR Tryd.prog 19 u85_8 (rS u85_8r u85_9 [0, 1, 7, 8]) := ⟨mkS⟩
instance i85_12 : WR Tryd.prog 19 u85_12 (rE u85_12r [0, 1, 7, 8]) := ⟨mkE⟩
instance i85_7 : WR Tryd.prog 19 u85_7 (rB 1 u85_8 u85_12 [0, 1, 7, 8]) := ⟨mkB⟩
instance i85_6 : WR Tryd.prog 19 u85_6 (rC (.t 9) .skip (.exit 0) u85_7 [0, 1, 7, 8, 9]) := ⟨mkC⟩
instance i85_5 : WR Tryd.prog 19 u85_5 (rS u85_5r u85_6 [0, 1, 7, 8]) := ⟨mkS⟩
instance i85_4 : WR Tryd.prog 19 u85_4 (rBE 0 (.loop u85_5) [0, 1, 7, 8]) := ⟨mkBE⟩
instance i85_3 : WR Tryd.prog 19 u85_3 (rS u85_3r u85_4 [0, 1]) := ⟨mkS⟩
instance i85_13 : WR Tryd.prog 19 u85_13 (rS u85_13r .ret []) := ⟨mkS⟩
instance i85_2 : WR Tryd.prog 19 u85_2 (rQ u85_3 u85_13 [0, 1]) := ⟨mkQ⟩
instance i85_1 : WR Tryd.prog 19 u85_1 (rS u85_1r u85_2 [0, 1]) := ⟨mkS⟩
attribute [go_sem] u85_11r u85_9r u85_8r u85_12r u85_5r u85_3r u85_13r u85_1r
noncomputable section
def u86_11r : List IOper := [⟨some 17, .pur (.mv (.t 5)), none⟩, ⟨some 4, .pur (.mv (.t 17)), none⟩]
def u86_11 : IC := .seq (.reg u86_11r) .ret
def u86_10 : IC := .cond (.t 16) u86_11 .skip
def u86_9r : List IOper := [⟨some 11, .pur (.mv (.t 1)), none⟩, ⟨some 12, .pur (.mv (.t 0)), none⟩, ⟨some 13, .pur (.mv (.t 5)), none⟩, ⟨some 14, .pur (.iad 1 (.t 12) (.t 13)), none⟩, ⟨some 15, .pur (.ld 1 false (.t 14)), none⟩, ⟨some 16, .callv (.t 11) [.t 15], none⟩]
def u86_9 : IC := .seq (.reg u86_9r) u86_10
def u86_8r : List IOper := [⟨some 10, .pur (.mv (.t 8)), none⟩, ⟨some 5, .pur (.mv (.t 10)), none⟩]
def u86_8 : IC := .seq (.reg u86_8r) u86_9
def u86_12r : List IOper := [⟨some 18, .pur (.bin .add (.t 8) (.k (.int .i64 1))), none⟩, ⟨some 8, .pur (.mv (.t 18)), none⟩]
def u86_12 : IC := .reg u86_12r
def u86_7 : IC := .seq (.blk 1 u86_8) u86_12
def u86_6 : IC := .seq (.cond (.t 9) .skip (.exit 0)) u86_7
def u86_5r : List IOper := [⟨some 9, .pur (.bin .lss (.t 8) (.t 7)), none⟩]
def u86_5 : IC := .seq (.reg u86_5r) u86_6
def u86_4 : IC := .blk 0 (.loop u86_5)
def u86_3r : List IOper := [⟨some 6, .pur (.mv (.t 0)), none⟩, ⟨some 7, .pur (.len (.t 6)), none⟩, ⟨some 8, .pur (.mv (.k (.int .i64 0))), none⟩]
def u86_3 : IC := .seq (.reg u86_3r) u86_4
def u86_13r : List IOper := [⟨some 4, .pur (.mv (.k (.int .i64 (-1)))), none⟩]
def u86_13 : IC := .seq (.reg u86_13r) .ret
def u86_2 : IC := .seq u86_3 u86_13
def u86_1r : List IOper := [⟨some 4, .pur (.mv (.k (.int .i64 0))), none⟩]
def u86_1 : IC := .seq (.reg u86_1r) u86_2
def u86 : IFn := ⟨19, u86_1, [.tmp 4]⟩
end
theorem isU86 : IsFn Tryd.prog 86 u86 := by unfold IsFn; kernel_rfl
instance i86_11 : WR Tryd.prog 19 u86_11 (rS u86_11r .ret [5]) := ⟨mkS⟩
instance i86_10 : WR Tryd.prog 19 u86_10 (rCE (.t 16) u86_11 .skip [0, 1, 5, 7, 8, 16]) := ⟨mkCE⟩
instance i86_9 : WR Tryd.prog 19 u86_9 (rS u86_9r u86_10 [0, 1, 5, 7, 8]) := ⟨mkS⟩
instance i86_8 : WR Tryd.prog 19 u86_8 (rS u86_8r u86_9 [0, 1, 7, 8]) := ⟨mkS⟩
instance i86_12 : WR Tryd.prog 19 u86_12 (rE u86_12r [0, 1, 7, 8]) := ⟨mkE⟩
instance i86_7 : WR Tryd.prog 19 u86_7 (rB 1 u86_8 u86_12 [0, 1, 7, 8]) := ⟨mkB⟩
instance i86_6 : WR Tryd.prog 19 u86_6 (rC (.t 9) .skip (.exit 0) u86_7 [0, 1, 7, 8, 9]) := ⟨mkC⟩
instance i86_5 : WR Tryd.prog 19 u86_5 (rS u86_5r u86_6 [0, 1, 7, 8]) := ⟨mkS⟩
instance i86_4 : WR Tryd.prog 19 u86_4 (rBE 0 (.loop u86_5) [0, 1, 7, 8]) := ⟨mkBE⟩
instance i86_3 : WR Tryd.prog 19 u86_3 (rS u86_3r u86_4 [0, 1]) := ⟨mkS⟩
instance i86_13 : WR Tryd.prog 19 u86_13 (rS u86_13r .ret []) := ⟨mkS⟩
instance i86_2 : WR Tryd.prog 19 u86_2 (rQ u86_3 u86_13 [0, 1]) := ⟨mkQ⟩
instance i86_1 : WR Tryd.prog 19 u86_1 (rS u86_1r u86_2 [0, 1]) := ⟨mkS⟩
attribute [go_sem] u86_11r u86_9r u86_8r u86_12r u86_5r u86_3r u86_13r u86_1r
noncomputable section
def u87_11r : List IOper := [⟨some 17, .pur (.mv (.t 5)), none⟩, ⟨some 4, .pur (.mv (.t 17)), none⟩]
def u87_11 : IC := .seq (.reg u87_11r) .ret
def u87_10 : IC := .cond (.t 16) u87_11 .skip
def u87_9r : List IOper := [⟨some 11, .pur (.mv (.t 1)), none⟩, ⟨some 12, .pur (.mv (.t 0)), none⟩, ⟨some 13, .pur (.mv (.t 5)), none⟩, ⟨some 14, .pur (.iad 4 (.t 12) (.t 13)), none⟩, ⟨some 15, .pur (.ld 4 true (.t 14)), none⟩, ⟨some 16, .callv (.t 11) [.t 15], none⟩]
def u87_9 : IC := .seq (.reg u87_9r) u87_10
def u87_8r : List IOper := [⟨some 10, .pur (.mv (.t 8)), none⟩, ⟨some 5, .pur (.mv (.t 10)), none⟩]
def u87_8 : IC := .seq (.reg u87_8r) u87_9
def u87_12r : List IOper := [⟨some 18, .pur (.bin .add (.t 8) (.k (.int .i64 1))), none⟩, ⟨some 8, .pur (.mv (.t 18)), none⟩]
def u87_12 : IC := .reg u87_12r
def u87_7 : IC := .seq (.blk 1 u87_8) u87_12
def u87_6 : IC := .seq (.cond (.t 9) .skip (.exit 0)) u87_7
def u87_5r : List IOper := [⟨some 9, .pur (.bin .lss (.t 8) (.t 7)), none⟩]
def u87_5 : IC := .seq (.reg u87_5r) u87_6
def u87_4 : IC := .blk 0 (.loop u87_5)
def u87_3r : List IOper := [⟨some 6, .pur (.mv (.t 0)), none⟩, ⟨some 7, .pur (.len (.t 6)), none⟩, ⟨some 8, .pur (.mv (.k (.int .i64 0))), none⟩]
def u87_3 : IC := .seq (.reg u87_3r) u87_4
def u87_13r : List IOper := [⟨some 4, .pur (.mv (.k (.int .i64 (-1)))), none⟩]
def u87_13 : IC := .seq (.reg u87_13r) .ret
def u87_2 : IC := .seq u87_3 u87_13
def u87_1r : List IOper := [⟨some 4, .pur (.mv (.k (.int .i64 0))), none⟩]
def u87_1 : IC := .seq (.reg u87_1r) u87_2
def u87 : IFn := ⟨19, u87_1, [.tmp 4]⟩
end
theorem isU87 : IsFn Tryd.prog 87 u87 := by unfold IsFn; kernel_rfl
instance i87_11 : WR Tryd.prog 19 u87_11 (rS u87_11r .ret [5]) := ⟨mkS⟩
instance i87_10 : WR Tryd.prog 19 u87_10 (rCE (.t 16) u87_11 .skip [0, 1, 5, 7, 8, 16]) := ⟨mkCE⟩
instance i87_9 : WR Tryd.prog 19 u87_9 (rS u87_9r u87_10 [0, 1, 5, 7, 8]) := ⟨mkS⟩
instance i87_8 : WR Tryd.prog 19 u87_8 (rS u87_8r u87_9 [0, 1, 7, 8]) := ⟨mkS⟩
instance i87_12 : WR Tryd.prog 19 u87_12 (rE u87_12r [0, 1, 7, 8]) := ⟨mkE⟩
instance i87_7 : WR Tryd.prog 19 u87_7 (rB 1 u87_8 u87_12 [0, 1, 7, 8]) := ⟨mkB⟩
instance i87_6 : WR Tryd.prog 19 u87_6 (rC (.t 9) .skip (.exit 0) u87_7 [0, 1, 7, 8, 9]) := ⟨mkC⟩
instance i87_5 : WR Tryd.prog 19 u87_5 (rS u87_5r u87_6 [0, 1, 7, 8]) := ⟨mkS⟩
instance i87_4 : WR Tryd.prog 19 u87_4 (rBE 0 (.loop u87_5) [0, 1, 7, 8]) := ⟨mkBE⟩
instance i87_3 : WR Tryd.prog 19 u87_3 (rS u87_3r u87_4 [0, 1]) := ⟨mkS⟩
instance i87_13 : WR Tryd.prog 19 u87_13 (rS u87_13r .ret []) := ⟨mkS⟩
instance i87_2 : WR Tryd.prog 19 u87_2 (rQ u87_3 u87_13 [0, 1]) := ⟨mkQ⟩
instance i87_1 : WR Tryd.prog 19 u87_1 (rS u87_1r u87_2 [0, 1]) := ⟨mkS⟩
attribute [go_sem] u87_11r u87_9r u87_8r u87_12r u87_5r u87_3r u87_13r u87_1r
noncomputable section
def u68_2r : List IOper := [⟨some 5, .pur (.mv (.t 0)), none⟩, ⟨some 6, .pur (.mv (.t 1)), none⟩, ⟨some 7, .call 85 [.t 5, .t 6], none⟩, ⟨some 8, .pur (.bin .geq (.t 7) (.k (.int .i64 0))), none⟩, ⟨some 4, .pur (.mv (.t 8)), none⟩]
def u68_2 : IC := .seq (.reg u68_2r) .ret
def u68_1r : List IOper := [⟨some 4, .pur (.mv (.k (.bool false))), none⟩]
def u68_1 : IC := .seq (.reg u68_1r) u68_2
def u68 : IFn := ⟨9, u68_1, [.tmp 4]⟩
end
theorem isU68 : IsFn Tryd.prog 68 u68 := by unfold IsFn; kernel_rfl
instance i68_2 : WR Tryd.prog 9 u68_2 (rS u68_2r .ret [0, 1]) := ⟨mkS⟩
instance i68_1 : WR Tryd.prog 9 u68_1 (rS u68_1r u68_2 [0, 1]) := ⟨mkS⟩
attribute [go_sem] u68_2r u68_1r
noncomputable section
def u71_2r : List IOper := [⟨some 5, .pur (.mv (.t 0)), none⟩, ⟨some 6, .pur (.mv (.t 1)), none⟩, ⟨some 7, .call 86 [.t 5, .t 6], none⟩, ⟨some 8, .pur (.bin .geq (.t 7) (.k (.int .i64 0))), none⟩, ⟨some 4, .pur (.mv (.t 8)), none⟩]
def u71_2 : IC := .seq (.reg u71_2r) .ret
def u71_1r : List IOper := [⟨some 4, .pur (.mv (.k (.bool false))), none⟩]
def u71_1 : IC := .seq (.reg u71_1r) u71_2
def u71 : IFn := ⟨9, u71_1, [.tmp 4]⟩
end
theorem isU71 : IsFn Tryd.prog 71 u71 := by unfold IsFn; kernel_rfl
instance i71_2 : WR Tryd.prog 9 u71_2 (rS u71_2r .ret [0, 1]) := ⟨mkS⟩
instance i71_1 : WR Tryd.prog 9 u71_1 (rS u71_1r u71_2 [0, 1]) := ⟨mkS⟩
attribute [go_sem] u71_2r u71_1r
noncomputable section
def u74_2r : List IOper := [⟨some 5, .pur (.mv (.t 0)), none⟩, ⟨some 6, .pur (.mv (.t 1)), none⟩, ⟨some 7, .call 87 [.t 5, .t 6], none⟩, ⟨some 8, .pur (.bin .geq (.t 7) (.k (.int .i64 0))), none⟩, ⟨some 4, .pur (.mv (.t 8)), none⟩]
def u74_2 : IC := .seq (.reg u74_2r) .ret
def u74_1r : List IOper := [⟨some 4, .pur (.mv (.k (.bool false))), none⟩]
def u74_1 : IC := .seq (.reg u74_1r) u74_2
def u74 : IFn := ⟨9, u74_1, [.tmp 4]⟩
end
theorem isU74 : IsFn Tryd.prog 74 u74 := by unfold IsFn; kernel_rfl
instance i74_2 : WR Tryd.prog 9 u74_2 (rS u74_2r .ret [0, 1]) := ⟨mkS⟩
instance i74_1 : WR Tryd.prog 9 u74_1 (rS u74_1r u74_2 [0, 1]) := ⟨mkS⟩
attribute [go_sem] u74_2r u74_1r
end Go.Proofs.YtcallbfckjlagaaDoor
set_option maxHeartbeats 4000000
set_option maxRecDepth 100000
set_option linter.unusedVariables false
namespace Go.Proofs.YtcallbfckjlagaaDoor
open Go.Eng (IC IOper DReg IFn IsFn)
open Go.Sym
theorem mixedU : Tryd.prog.follows .mixedOrders = true := by kernel_rfl
noncomputable section
def u24_5r : List IOper := [⟨some 4, .pur (.mv (.k (.bool false))), none⟩]
def u24_5 : IC := .seq (.reg u24_5r) .ret
def u24_4 : IC := .cond (.t 10) u24_5 .skip
def u24_3r : List IOper := [⟨some 6, .pur (.mv (.t 0)), none⟩, ⟨some 7, .pur (.len (.t 6)), none⟩, ⟨some 8, .pur (.mv (.t 1)), none⟩, ⟨some 9, .pur (.len (.t 8)), none⟩, ⟨some 10, .pur (.bin .neq (.t 7) (.t 9)), none⟩]
def u24_3 : IC := .seq (.reg u24_3r) u24_4
def u24_11 : IC := .cond (.t 14) .skip (.exit 0)
def u24_10r : List IOper := [⟨some 11, .pur (.mv (.t 5)), none⟩, ⟨some 12, .pur (.mv (.t 0)), none⟩, ⟨some 13, .pur (.len (.t 12)), none⟩, ⟨some 14, .pur (.bin .lss (.t 11) (.t 13)), none⟩]
def u24_10 : IC := .seq (.reg u24_10r) u24_11
def u24_15r : List IOper := [⟨some 4, .pur (.mv (.k (.bool false))), none⟩]
def u24_15 : IC := .seq (.reg u24_15r) .ret
def u24_14 : IC := .cond (.t 25) u24_15 .skip
def u24_13r : DReg := ⟨[⟨some 17, .pur (.mv (.t 0)), none⟩, ⟨some 18, .pur (.mv (.t 5)), none⟩, ⟨some 19, .pur (.iad 1 (.t 17) (.t 18)), none⟩, ⟨some 20, .pur (.ld 1 false (.t 19)), none⟩, ⟨some 21, .pur (.mv (.t 1)), none⟩, ⟨some 22, .pur (.mv (.t 5)), none⟩, ⟨some 23, .pur (.iad 1 (.t 21) (.t 22)), none⟩, ⟨some 24, .pur (.ld 1 false (.t 23)), none⟩, ⟨some 25, .pur (.bin .neq (.t 20) (.t 24)), none⟩], [[], [], [0, 1], [2, 0, 1], [], [], [4, 5], [6, 4, 5], [3, 7, 2, 0, 1, 6, 4, 5]], [(0, none), (1, none), (2, none), (3, none), (4, none), (5, none), (6, none), (7, none), (8, none)]⟩
def u24_13 : IC := .seq (.drw 9 u24_13r) u24_14
def u24_16r : List IOper := [⟨some 15, .pur (.mv (.t 5)), none⟩, ⟨some 16, .pur (.bin .add (.t 15) (.k (.int .i64 1))), none⟩, ⟨some 5, .pur (.mv (.t 16)), none⟩]
def u24_16 : IC := .reg u24_16r
def u24_12 : IC := .seq (.blk 1 u24_13) u24_16
def u24_9 : IC := .seq u24_10 u24_12
def u24_8 : IC := .blk 0 (.loop u24_9)
def u24_7r : List IOper := [⟨some 5, .pur (.mv (.k (.int .i64 0))), none⟩]
def u24_7 : IC := .seq (.reg u24_7r) u24_8
def u24_17r : List IOper := [⟨some 4, .pur (.mv (.k (.bool true))), none⟩]
def u24_17 : IC := .seq (.reg u24_17r) .ret
def u24_6 : IC := .seq u24_7 u24_17
def u24_2 : IC := .seq u24_3 u24_6
def u24_1r : List IOper := [⟨some 4, .pur (.mv (.k (.bool false))), none⟩]
def u24_1 : IC := .seq (.reg u24_1r) u24_2
def u24 : IFn := ⟨26, u24_1, [.tmp 4]⟩
end
theorem isU24 : IsFn Tryd.prog 24 u24 := by unfold IsFn; kernel_rfl
instance i24_5 : WR Tryd.prog 26 u24_5 (rS u24_5r .ret []) := ⟨mkS⟩
instance i24_4 : WR Tryd.prog 26 u24_4 (rCE (.t 10) u24_5 .skip [0, 1, 10]) := ⟨mkCE⟩
instance i24_3 : WR Tryd.prog 26 u24_3 (rS u24_3r u24_4 [0, 1]) := ⟨mkS⟩
instance i24_11 : WR Tryd.prog 26 u24_11 (rCE (.t 14) .skip (.exit 0) [0, 1, 5, 14]) := ⟨mkCE⟩
instance i24_10 : WR Tryd.prog 26 u24_10 (rS u24_10r u24_11 [0, 1, 5]) := ⟨mkS⟩
instance i24_15 : WR Tryd.prog 26 u24_15 (rS u24_15r .ret []) := ⟨mkS⟩
instance i24_14 : WR Tryd.prog 26 u24_14 (rCE (.t 25) u24_15 .skip [0, 1, 5, 25]) := ⟨mkCE⟩
instance i24_13 : WR Tryd.prog 26 u24_13 (rP 9 u24_13r u24_14 [0, 1, 5]) := ⟨mkP rfl⟩
instance i24_16 : WR Tryd.prog 26 u24_16 (rE u24_16r [0, 1, 5]) := ⟨mkE⟩
instance i24_12 : WR Tryd.prog 26 u24_12 (rB 1 u24_13 u24_16 [0, 1, 5]) := ⟨mkB⟩
instance i24_9 : WR Tryd.prog 26 u24_9 (rQ u24_10 u24_12 [0, 1, 5]) := ⟨mkQ⟩
instance i24_8 : WR Tryd.prog 26 u24_8 (rBE 0 (.loop u24_9) [0, 1, 5]) := ⟨mkBE⟩
instance i24_7 : WR Tryd.prog 26 u24_7 (rS u24_7r u24_8 [0, 1]) := ⟨mkS⟩
instance i24_17 : WR Tryd.prog 26 u24_17 (rS u24_17r .ret []) := ⟨mkS⟩
instance i24_6 : WR Tryd.prog 26 u24_6 (rQ u24_7 u24_17 [0, 1]) := ⟨mkQ⟩
instance i24_2 : WR Tryd.prog 26 u24_2 (rQ u24_3 u24_6 [0, 1]) := ⟨mkQ⟩
instance i24_1 : WR Tryd.prog 26 u24_1 (rS u24_1r u24_2 [0, 1]) := ⟨mkS⟩
attribute [go_sem] u24_5r u24_3r u24_10r u24_15r u24_13r u24_16r u24_7r u24_17r u24_1r
end Go.Proofs.YtcallbfckjlagaaDoor
set_option maxHeartbeats 4000000
set_option maxRecDepth 100000
set_option linter.unusedSimpArgs false
set_option linter.unusedVariables false
namespace Go.Proofs.YtcallbfckjlagaaDoor
open Go.Eng (IC IOper DReg IFn IsFn)
open Go.Sym Go.Pb
theorem c_within (n lo hi : Int) : PC Tryd.prog 67 [I64 n, I64 lo, I64 hi] (.bool (inM n lo hi)) := by
  refine PC.of mixedU isU67 (Nat.le_of_ble_eq_true rfl) (by simp [DV.nlL, DV.nl, nlL_ints, nlL_strs, nlL_instrs, nlL_entries, nlL_stp]) (by simp [DV.nlL, DV.nl, nlL_ints, nlL_strs, nlL_instrs, nlL_entries, nlL_stp]) ?_
  show IW Tryd.prog 15 u67_1 ⟨argT _, _, _⟩ (rt [.tmp 6] _)
  repeat' ((first | (with_reducible first | refine wr ?_ | refine i_ret ?_ | refine i_skip ?_ | refine i_exit ?_) | ((with_reducible first | refine k_cb ?_ ?_ | refine k_gb ?_ ?_ | refine k_gb' ?_ ?_) <;> (intro hb; try simp only [hb]))) <;> try simp only [go_sem, Nat.reduceAdd, Nat.reduceLeDiff, Nat.reduceEqDiff, Nat.reduceMul, Nat.reduceSub, ↓reduceIte, Int.reduceLT, Int.reduceLE, Int.reduceGT, Int.reduceGE, Nat.reduceLT, Nat.reduceGT, Int.reduceToNat, reduceCtorEq, Nat.reduceBEq, Int.reduceBEq, Int.reduceBNe, Int.reduceEq, Int.reduceNe, decide_true, decide_false])
  all_goals (refine pc_ret ?_; simp_all [inM] <;> omega)
theorem c_bless (a b : Ent) : PC Tryd.prog 56 [a.v, b.v] (.bool (lessM a b)) := by
  refine PC.of mixedU isU56 (Nat.le_of_ble_eq_true rfl) (by simp [DV.nlL, DV.nl, nlL_ints, nlL_strs, nlL_instrs, nlL_entries, nlL_stp]) (by simp [DV.nlL, DV.nl, nlL_ints, nlL_strs, nlL_instrs, nlL_entries, nlL_stp]) ?_
  show IW Tryd.prog 30 u56_1 ⟨argT _, _, _⟩ (rt [.tmp 4] _)
  repeat' ((first | (with_reducible first | refine wr ?_ | refine i_ret ?_ | refine i_skip ?_ | refine i_exit ?_) | ((with_reducible first | refine k_cb ?_ ?_ | refine k_gb ?_ ?_ | refine k_gb' ?_ ?_) <;> (intro hb; try simp only [hb]))) <;> try simp only [go_sem, Nat.reduceAdd, Nat.reduceLeDiff, Nat.reduceEqDiff, Nat.reduceMul, Nat.reduceSub, ↓reduceIte, Int.reduceLT, Int.reduceLE, Int.reduceGT, Int.reduceGE, Nat.reduceLT, Nat.reduceGT, Int.reduceToNat, reduceCtorEq, Nat.reduceBEq, Int.reduceBEq, Int.reduceBNe, Int.reduceEq, Int.reduceNe, decide_true, decide_false])
  all_goals (refine pc_ret ?_; simp_all [lessM])
theorem c_isText (s : List UInt8) (hs : s.length ≤ 140737488355328) : PC Tryd.prog 70 [.str s] (.bool (printM s)) := by
  refine PC.of mixedU isU70 (Nat.le_of_ble_eq_true rfl) (by simp [DV.nlL, DV.nl, nlL_ints, nlL_strs, nlL_instrs, nlL_entries, nlL_stp]) (by simp [DV.nlL, DV.nl, nlL_ints, nlL_strs, nlL_instrs, nlL_entries, nlL_stp]) ?_
  show IW Tryd.prog 23 u70_1 ⟨argT _, _, _⟩ (rt [.tmp 2] _)
  repeat' ((first | (with_reducible first | refine wr ?_ | refine i_ret ?_ | refine i_skip ?_ | refine i_exit ?_) | ((with_reducible first | refine k_cb ?_ ?_ | refine k_gb ?_ ?_ | refine k_gb' ?_ ?_) <;> (intro hb; try simp only [hb]))) <;> try simp only [go_sem, Nat.reduceAdd, Nat.reduceLeDiff, Nat.reduceEqDiff, Nat.reduceMul, Nat.reduceSub, ↓reduceIte, Int.reduceLT, Int.reduceLE, Int.reduceGT, Int.reduceGE, Nat.reduceLT, Nat.reduceGT, Int.reduceToNat, reduceCtorEq, Nat.reduceBEq, Int.reduceBEq, Int.reduceBNe, Int.reduceEq, Int.reduceNe, decide_true, decide_false])
  refine i_loop (fun k : Nat => [(0, .str s), (3, I64 k)]) (fun _ => nil) (fun k _ => k ≤ s.length ∧ (s.take k).all printB = true) (fun k => s.length - k) 0 (by simp [tmLe, tm, Tm.upd]) (Sub.nil _) (by simp) ?_
  rintro k c ⟨hk, he⟩
  by_cases hlt : k < s.length
  · have hd : decide ((k : Int) < s.length) = true := by simpa using hlt
    have hg := List.getElem?_eq_getElem hlt
    have hw := w64 (n := (k : Int) + 1) (by omega) (by omega)
    repeat' ((first | (with_reducible first | refine wr ?_ | refine i_ret ?_ | refine i_skip ?_ | refine i_exit ?_) | ((with_reducible first | refine k_cb ?_ ?_ | refine k_gb ?_ ?_ | refine k_gb' ?_ ?_) <;> (intro hb; try simp only [hb]))) <;> try simp only [go_sem, Nat.reduceAdd, Nat.reduceLeDiff, Nat.reduceEqDiff, Nat.reduceMul, Nat.reduceSub, ↓reduceIte, Int.reduceLT, Int.reduceLE, Int.reduceGT, Int.reduceGE, Nat.reduceLT, Nat.reduceGT, Int.reduceToNat, reduceCtorEq, Nat.reduceBEq, Int.reduceBEq, Int.reduceBNe, Int.reduceEq, Int.reduceNe, decide_true, decide_false, hd, hg, hw])
    · refine pc_ret ?_
      rw [printM, all_fail printB s k _ hg (by simp_all [printB]; omega)]; rfl
    · refine pc_ret ?_
      rw [printM, all_fail printB s k _ hg (by simp_all [printB]; omega)]; rfl
    · exact ⟨k + 1, rfl, Sub.refl _, inv ⟨by omega, by rw [all_take printB s k _ hg he]; simp_all [printB]; omega⟩, by omega⟩
  · have hd : decide ((k : Int) < s.length) = false := by simpa using hlt
    repeat' ((first | (with_reducible first | refine wr ?_ | refine i_ret ?_ | refine i_skip ?_ | refine i_exit ?_) | ((with_reducible first | refine k_cb ?_ ?_ | refine k_gb ?_ ?_ | refine k_gb' ?_ ?_) <;> (intro hb; try simp only [hb]))) <;> try simp only [go_sem, Nat.reduceAdd, Nat.reduceLeDiff, Nat.reduceEqDiff, Nat.reduceMul, Nat.reduceSub, ↓reduceIte, Int.reduceLT, Int.reduceLE, Int.reduceGT, Int.reduceGE, Nat.reduceLT, Nat.reduceGT, Int.reduceToNat, reduceCtorEq, Nat.reduceBEq, Int.reduceBEq, Int.reduceBNe, Int.reduceEq, Int.reduceNe, decide_true, decide_false, hd])
    refine pc_ret ?_
    rw [printM, all_done printB s k (by omega) he, Bool.true_and]; simp; omega
theorem c_goodEntry (c : Prg) (hl : Lim c) (e : Ent) : PC Tryd.prog 76 [c.v, e.v] (.bool (entryM c e)) := by
  obtain ⟨wp, wv, ws, wi, wt, we, -, -, -, -, -⟩ := hl
  refine PC.of mixedU isU76 (Nat.le_of_ble_eq_true rfl) (by simp [DV.nlL, DV.nl, nlL_ints, nlL_strs, nlL_instrs, nlL_entries, nlL_stp]) (by simp [DV.nlL, DV.nl, nlL_ints, nlL_strs, nlL_instrs, nlL_entries, nlL_stp]) ?_
  show IW Tryd.prog 43 u76_1 ⟨argT _, _, _⟩ (rt [.tmp 4] _)
  repeat' ((first | (with_reducible first | refine wr ?_ | refine i_ret ?_ | refine i_skip ?_ | refine i_exit ?_) | ((with_reducible first | refine k_cb ?_ ?_ | refine k_gb ?_ ?_ | refine k_gb' ?_ ?_) <;> (intro hb; try simp only [hb])) | ((with_reducible refine AC.call ((c_within _ _ _).at _ _) ?_); rintro _ _ _ ⟨rfl, rfl, rfl⟩ -)) <;> try simp only [go_sem, Nat.reduceAdd, Nat.reduceLeDiff, Nat.reduceEqDiff, Nat.reduceMul, Nat.reduceSub, ↓reduceIte, Int.reduceLT, Int.reduceLE, Int.reduceGT, Int.reduceGE, Nat.reduceLT, Nat.reduceGT, Int.reduceToNat, reduceCtorEq, Nat.reduceBEq, Int.reduceBEq, Int.reduceBNe, Int.reduceEq, Int.reduceNe, decide_true, decide_false, wp, wt, we])
  all_goals (refine pc_ret ?_; simp_all [entryM] <;> rfl)
theorem c_isJ (op : Int) : PC Tryd.prog 78 [I64 op] (.bool (isJ op)) := by
  refine PC.of mixedU isU78 (Nat.le_of_ble_eq_true rfl) (by simp [DV.nlL, DV.nl, nlL_ints, nlL_strs, nlL_instrs, nlL_entries, nlL_stp]) (by simp [DV.nlL, DV.nl, nlL_ints, nlL_strs, nlL_instrs, nlL_entries, nlL_stp]) ?_
  show IW Tryd.prog 13 u78_1 ⟨argT _, _, _⟩ (rt [.tmp 2] _)
  repeat' ((first | (with_reducible first | refine wr ?_ | refine i_ret ?_ | refine i_skip ?_ | refine i_exit ?_) | ((with_reducible first | refine k_cb ?_ ?_ | refine k_gb ?_ ?_ | refine k_gb' ?_ ?_) <;> (intro hb; try simp only [hb]))) <;> try simp only [go_sem, Nat.reduceAdd, Nat.reduceLeDiff, Nat.reduceEqDiff, Nat.reduceMul, Nat.reduceSub, ↓reduceIte, Int.reduceLT, Int.reduceLE, Int.reduceGT, Int.reduceGE, Nat.reduceLT, Nat.reduceGT, Int.reduceToNat, reduceCtorEq, Nat.reduceBEq, Int.reduceBEq, Int.reduceBNe, Int.reduceEq, Int.reduceNe, decide_true, decide_false])
  all_goals (refine pc_ret ?_; simp_all [isJ] <;> rfl)
theorem c_stack (op : Int) : PC Tryd.prog 81 [I64 op] (.tup [I64 (effM op).1, I64 (effM op).2.1]) := by
  refine PC.of mixedU isU81 (Nat.le_of_ble_eq_true rfl) (by simp [DV.nlL, DV.nl, nlL_ints, nlL_strs, nlL_instrs, nlL_entries, nlL_stp]) (by simp [DV.nlL, DV.nl, nlL_ints, nlL_strs, nlL_instrs, nlL_entries, nlL_stp]) ?_
  show IW Tryd.prog 28 u81_1 ⟨argT _, _, _⟩ (rt [.tmp 2, .tmp 3] _)
  repeat' ((first | (with_reducible first | refine wr ?_ | refine i_ret ?_ | refine i_skip ?_ | refine i_exit ?_) | ((with_reducible first | refine k_cb ?_ ?_ | refine k_gb ?_ ?_ | refine k_gb' ?_ ?_) <;> (intro hb; try simp only [hb]))) <;> try simp only [go_sem, Nat.reduceAdd, Nat.reduceLeDiff, Nat.reduceEqDiff, Nat.reduceMul, Nat.reduceSub, ↓reduceIte, Int.reduceLT, Int.reduceLE, Int.reduceGT, Int.reduceGE, Nat.reduceLT, Nat.reduceGT, Int.reduceToNat, reduceCtorEq, Nat.reduceBEq, Int.reduceBEq, Int.reduceBNe, Int.reduceEq, Int.reduceNe, decide_true, decide_false])
  all_goals first
    | (simp only [beq_iff_eq] at hb; subst hb; exact pc_ret rfl)
    | (simp only [beq_eq_false_iff_ne, ne_eq] at *; refine pc_ret ?_; rw [(eff0 ‹_› ‹_› ‹_› ‹_› ‹_› ‹_› ‹_› ‹_› ‹_› ‹_› ‹_› ‹_› ‹_› ‹_› ‹_› ‹_› ‹_› ‹_›).1, (eff0 ‹_› ‹_› ‹_› ‹_› ‹_› ‹_› ‹_› ‹_› ‹_› ‹_› ‹_› ‹_› ‹_› ‹_› ‹_› ‹_› ‹_› ‹_›).2])
theorem c_span (c : Prg) (hl : Lim c) (op : Int) : PC Tryd.prog 77 [c.v, I64 op] (.tup [I64 (spanM c op).1, I64 (spanM c op).2]) := by
  obtain ⟨wp, wv, ws, wi, wt, we, -, -, -, -, -⟩ := hl
  refine PC.of mixedU isU77 (Nat.le_of_ble_eq_true rfl) (by simp [DV.nlL, DV.nl, nlL_ints, nlL_strs, nlL_instrs, nlL_entries, nlL_stp]) (by simp [DV.nlL, DV.nl, nlL_ints, nlL_strs, nlL_instrs, nlL_entries, nlL_stp]) ?_
  show IW Tryd.prog 64 u77_1 ⟨argT _, _, _⟩ (rt [.tmp 4, .tmp 5] _)
  repeat' ((first | (with_reducible first | refine wr ?_ | refine i_ret ?_ | refine i_skip ?_ | refine i_exit ?_) | ((with_reducible first | refine k_cb ?_ ?_ | refine k_gb ?_ ?_ | refine k_gb' ?_ ?_) <;> (intro hb; try simp only [hb]))) <;> try simp only [go_sem, Nat.reduceAdd, Nat.reduceLeDiff, Nat.reduceEqDiff, Nat.reduceMul, Nat.reduceSub, ↓reduceIte, Int.reduceLT, Int.reduceLE, Int.reduceGT, Int.reduceGE, Nat.reduceLT, Nat.reduceGT, Int.reduceToNat, reduceCtorEq, Nat.reduceBEq, Int.reduceBEq, Int.reduceBNe, Int.reduceEq, Int.reduceNe, decide_true, decide_false, wp, wv, ws, wt, we])
  all_goals first
    | (simp only [beq_iff_eq] at hb; subst hb; refine pc_ret ?_; simp [spanM]; done)
    | (refine pc_ret ?_; simp_all [spanM])
theorem c_IF_str {g : (List UInt8) → Bool} {f : Nat} {a cs : List DV} (xs : List (List UInt8)) (hx : xs.length ≤ 9223372036854775807) (na : DV.nlL a = true) (ncs : DV.nlL cs = true) (hf : ∀ x ∈ xs, PC Tryd.prog f (a ++ [DV.str x] ++ cs) (.bool (g x))) :
    PC Tryd.prog 85 [.lst (xs.map DV.str), .func f a cs] (I64 (idxM g xs 0)) := by
  refine PC.of mixedU isU85 (Nat.le_of_ble_eq_true rfl) (by simp [DV.nlL, DV.nl, nlL_strs, nlL_ints, nlL_entries, na, ncs]) rfl ?_
  show IW Tryd.prog 19 u85_1 ⟨argT _, _, _⟩ (rt [.tmp 4] _)
  repeat' ((first | (with_reducible first | refine wr ?_ | refine i_ret ?_ | refine i_skip ?_ | refine i_exit ?_) | ((with_reducible first | refine k_cb ?_ ?_ | refine k_gb ?_ ?_ | refine k_gb' ?_ ?_) <;> (intro hb; try simp only [hb]))) <;> try simp only [go_sem, Nat.reduceAdd, Nat.reduceLeDiff, Nat.reduceEqDiff, Nat.reduceMul, Nat.reduceSub, ↓reduceIte, Int.reduceLT, Int.reduceLE, Int.reduceGT, Int.reduceGE, Nat.reduceLT, Nat.reduceGT, Int.reduceToNat, reduceCtorEq, Nat.reduceBEq, Int.reduceBEq, Int.reduceBNe, Int.reduceEq, Int.reduceNe, decide_true, decide_false])
  refine i_loop (fun k : Nat => [(0, .lst (xs.map DV.str)), (1, .func f a cs), (7, I64 xs.length), (8, I64 k)]) (fun _ => nil) (fun k _ => k ≤ xs.length ∧ idxM g xs 0 = idxM g (xs.drop k) k) (fun k => xs.length - k) 0 (by simp [tmLe, tm, Tm.upd]) (Sub.nil _) (by simp) ?_
  rintro k c ⟨hk, he⟩
  by_cases hlt : k < xs.length
  · have hd : decide ((k : Int) < xs.length) = true := by simpa using hlt
    have hg := List.getElem?_eq_getElem hlt
    have hw := w64 (n := (k : Int) + 1) (by omega) (by omega)
    have hst := idxM_step (g := g) hg
    have hc := hf xs[k] (List.getElem_mem hlt)
    repeat' ((first | (with_reducible first | refine wr ?_ | refine i_ret ?_ | refine i_skip ?_ | refine i_exit ?_) | ((with_reducible first | refine k_cb ?_ ?_ | refine k_gb ?_ ?_ | refine k_gb' ?_ ?_) <;> (intro hb; try simp only [hb])) | ((with_reducible refine AC.call ((hc).at _ _) ?_); rintro _ _ _ ⟨rfl, rfl, rfl⟩ -)) <;> try simp only [go_sem, Nat.reduceAdd, Nat.reduceLeDiff, Nat.reduceEqDiff, Nat.reduceMul, Nat.reduceSub, ↓reduceIte, Int.reduceLT, Int.reduceLE, Int.reduceGT, Int.reduceGE, Nat.reduceLT, Nat.reduceGT, Int.reduceToNat, reduceCtorEq, Nat.reduceBEq, Int.reduceBEq, Int.reduceBNe, Int.reduceEq, Int.reduceNe, decide_true, decide_false, hd, hg, hw])
    · refine pc_ret ?_
      rw [he, hst, hb]; rfl
    · exact ⟨k + 1, rfl, Sub.refl _, inv ⟨by omega, by rw [he, hst, hb]; rfl⟩, by omega⟩
  · have hd : decide ((k : Int) < xs.length) = false := by simpa using hlt
    repeat' ((first | (with_reducible first | refine wr ?_ | refine i_ret ?_ | refine i_skip ?_ | refine i_exit ?_) | ((with_reducible first | refine k_cb ?_ ?_ | refine k_gb ?_ ?_ | refine k_gb' ?_ ?_) <;> (intro hb; try simp only [hb]))) <;> try simp only [go_sem, Nat.reduceAdd, Nat.reduceLeDiff, Nat.reduceEqDiff, Nat.reduceMul, Nat.reduceSub, ↓reduceIte, Int.reduceLT, Int.reduceLE, Int.reduceGT, Int.reduceGE, Nat.reduceLT, Nat.reduceGT, Int.reduceToNat, reduceCtorEq, Nat.reduceBEq, Int.reduceBEq, Int.reduceBNe, Int.reduceEq, Int.reduceNe, decide_true, decide_false, hd])
    refine pc_ret ?_
    rw [he, idxM_end (by omega)]
theorem c_CF_str {g : (List UInt8) → Bool} {f : Nat} {a cs : List DV} (xs : List (List UInt8)) (hx : xs.length ≤ 9223372036854775807) (na : DV.nlL a = true) (ncs : DV.nlL cs = true) (hf : ∀ x ∈ xs, PC Tryd.prog f (a ++ [DV.str x] ++ cs) (.bool (g x))) :
    PC Tryd.prog 68 [.lst (xs.map DV.str), .func f a cs] (.bool (xs.any g)) := by
  refine PC.of mixedU isU68 (Nat.le_of_ble_eq_true rfl) (by simp [DV.nlL, DV.nl, nlL_strs, nlL_ints, nlL_entries, na, ncs]) rfl ?_
  show IW Tryd.prog 9 u68_1 ⟨argT _, _, _⟩ (rt [.tmp 4] _)
  have hc := c_IF_str xs hx na ncs hf
  repeat' ((first | (with_reducible first | refine wr ?_ | refine i_ret ?_ | refine i_skip ?_ | refine i_exit ?_) | ((with_reducible first | refine k_cb ?_ ?_ | refine k_gb ?_ ?_ | refine k_gb' ?_ ?_) <;> (intro hb; try simp only [hb])) | ((with_reducible refine AC.call ((hc).at _ _) ?_); rintro _ _ _ ⟨rfl, rfl, rfl⟩ -)) <;> try simp only [go_sem, Nat.reduceAdd, Nat.reduceLeDiff, Nat.reduceEqDiff, Nat.reduceMul, Nat.reduceSub, ↓reduceIte, Int.reduceLT, Int.reduceLE, Int.reduceGT, Int.reduceGE, Nat.reduceLT, Nat.reduceGT, Int.reduceToNat, reduceCtorEq, Nat.reduceBEq, Int.reduceBEq, Int.reduceBNe, Int.reduceEq, Int.reduceNe, decide_true, decide_false])
  refine pc_ret ?_
  rw [idxM_any]
theorem c_IF_int {g : Int → Bool} {f : Nat} {a cs : List DV} (xs : List Int) (hx : xs.length ≤ 9223372036854775807) (na : DV.nlL a = true) (ncs : DV.nlL cs = true) (hf : ∀ x ∈ xs, PC Tryd.prog f (a ++ [I64 x] ++ cs) (.bool (g x))) :
    PC Tryd.prog 86 [.lst (xs.map I64), .func f a cs] (I64 (idxM g xs 0)) := by
  refine PC.of mixedU isU86 (Nat.le_of_ble_eq_true rfl) (by simp [DV.nlL, DV.nl, nlL_strs, nlL_ints, nlL_entries, na, ncs]) rfl ?_
  show IW Tryd.prog 19 u86_1 ⟨argT _, _, _⟩ (rt [.tmp 4] _)
  repeat' ((first | (with_reducible first | refine wr ?_ | refine i_ret ?_ | refine i_skip ?_ | refine i_exit ?_) | ((with_reducible first | refine k_cb ?_ ?_ | refine k_gb ?_ ?_ | refine k_gb' ?_ ?_) <;> (intro hb; try simp only [hb]))) <;> try simp only [go_sem, Nat.reduceAdd, Nat.reduceLeDiff, Nat.reduceEqDiff, Nat.reduceMul, Nat.reduceSub, ↓reduceIte, Int.reduceLT, Int.reduceLE, Int.reduceGT, Int.reduceGE, Nat.reduceLT, Nat.reduceGT, Int.reduceToNat, reduceCtorEq, Nat.reduceBEq, Int.reduceBEq, Int.reduceBNe, Int.reduceEq, Int.reduceNe, decide_true, decide_false])
  refine i_loop (fun k : Nat => [(0, .lst (xs.map I64)), (1, .func f a cs), (7, I64 xs.length), (8, I64 k)]) (fun _ => nil) (fun k _ => k ≤ xs.length ∧ idxM g xs 0 = idxM g (xs.drop k) k) (fun k => xs.length - k) 0 (by simp [tmLe, tm, Tm.upd]) (Sub.nil _) (by simp) ?_
  rintro k c ⟨hk, he⟩
  by_cases hlt : k < xs.length
  · have hd : decide ((k : Int) < xs.length) = true := by simpa using hlt
    have hg := List.getElem?_eq_getElem hlt
    have hw := w64 (n := (k : Int) + 1) (by omega) (by omega)
    have hst := idxM_step (g := g) hg
    have hc := hf xs[k] (List.getElem_mem hlt)
    repeat' ((first | (with_reducible first | refine wr ?_ | refine i_ret ?_ | refine i_skip ?_ | refine i_exit ?_) | ((with_reducible first | refine k_cb ?_ ?_ | refine k_gb ?_ ?_ | refine k_gb' ?_ ?_) <;> (intro hb; try simp only [hb])) | ((with_reducible refine AC.call ((hc).at _ _) ?_); rintro _ _ _ ⟨rfl, rfl, rfl⟩ -)) <;> try simp only [go_sem, Nat.reduceAdd, Nat.reduceLeDiff, Nat.reduceEqDiff, Nat.reduceMul, Nat.reduceSub, ↓reduceIte, Int.reduceLT, Int.reduceLE, Int.reduceGT, Int.reduceGE, Nat.reduceLT, Nat.reduceGT, Int.reduceToNat, reduceCtorEq, Nat.reduceBEq, Int.reduceBEq, Int.reduceBNe, Int.reduceEq, Int.reduceNe, decide_true, decide_false, hd, hg, hw])
    · refine pc_ret ?_
      rw [he, hst, hb]; rfl
    · exact ⟨k + 1, rfl, Sub.refl _, inv ⟨by omega, by rw [he, hst, hb]; rfl⟩, by omega⟩
  · have hd : decide ((k : Int) < xs.length) = false := by simpa using hlt
    repeat' ((first | (with_reducible first | refine wr ?_ | refine i_ret ?_ | refine i_skip ?_ | refine i_exit ?_) | ((with_reducible first | refine k_cb ?_ ?_ | refine k_gb ?_ ?_ | refine k_gb' ?_ ?_) <;> (intro hb; try simp only [hb]))) <;> try simp only [go_sem, Nat.reduceAdd, Nat.reduceLeDiff, Nat.reduceEqDiff, Nat.reduceMul, Nat.reduceSub, ↓reduceIte, Int.reduceLT, Int.reduceLE, Int.reduceGT, Int.reduceGE, Nat.reduceLT, Nat.reduceGT, Int.reduceToNat, reduceCtorEq, Nat.reduceBEq, Int.reduceBEq, Int.reduceBNe, Int.reduceEq, Int.reduceNe, decide_true, decide_false, hd])
    refine pc_ret ?_
    rw [he, idxM_end (by omega)]
theorem c_CF_int {g : Int → Bool} {f : Nat} {a cs : List DV} (xs : List Int) (hx : xs.length ≤ 9223372036854775807) (na : DV.nlL a = true) (ncs : DV.nlL cs = true) (hf : ∀ x ∈ xs, PC Tryd.prog f (a ++ [I64 x] ++ cs) (.bool (g x))) :
    PC Tryd.prog 71 [.lst (xs.map I64), .func f a cs] (.bool (xs.any g)) := by
  refine PC.of mixedU isU71 (Nat.le_of_ble_eq_true rfl) (by simp [DV.nlL, DV.nl, nlL_strs, nlL_ints, nlL_entries, na, ncs]) rfl ?_
  show IW Tryd.prog 9 u71_1 ⟨argT _, _, _⟩ (rt [.tmp 4] _)
  have hc := c_IF_int xs hx na ncs hf
  repeat' ((first | (with_reducible first | refine wr ?_ | refine i_ret ?_ | refine i_skip ?_ | refine i_exit ?_) | ((with_reducible first | refine k_cb ?_ ?_ | refine k_gb ?_ ?_ | refine k_gb' ?_ ?_) <;> (intro hb; try simp only [hb])) | ((with_reducible refine AC.call ((hc).at _ _) ?_); rintro _ _ _ ⟨rfl, rfl, rfl⟩ -)) <;> try simp only [go_sem, Nat.reduceAdd, Nat.reduceLeDiff, Nat.reduceEqDiff, Nat.reduceMul, Nat.reduceSub, ↓reduceIte, Int.reduceLT, Int.reduceLE, Int.reduceGT, Int.reduceGE, Nat.reduceLT, Nat.reduceGT, Int.reduceToNat, reduceCtorEq, Nat.reduceBEq, Int.reduceBEq, Int.reduceBNe, Int.reduceEq, Int.reduceNe, decide_true, decide_false])
  refine pc_ret ?_
  rw [idxM_any]
theorem c_IF_ent {g : Ent → Bool} {f : Nat} {a cs : List DV} (xs : List Ent) (hx : xs.length ≤ 9223372036854775807) (na : DV.nlL a = true) (ncs : DV.nlL cs = true) (hf : ∀ x ∈ xs, PC Tryd.prog f (a ++ [Ent.v x] ++ cs) (.bool (g x))) :
    PC Tryd.prog 87 [.lst (xs.map Ent.v), .func f a cs] (I64 (idxM g xs 0)) := by
  refine PC.of mixedU isU87 (Nat.le_of_ble_eq_true rfl) (by simp [DV.nlL, DV.nl, nlL_strs, nlL_ints, nlL_entries, na, ncs]) rfl ?_
  show IW Tryd.prog 19 u87_1 ⟨argT _, _, _⟩ (rt [.tmp 4] _)
  repeat' ((first | (with_reducible first | refine wr ?_ | refine i_ret ?_ | refine i_skip ?_ | refine i_exit ?_) | ((with_reducible first | refine k_cb ?_ ?_ | refine k_gb ?_ ?_ | refine k_gb' ?_ ?_) <;> (intro hb; try simp only [hb]))) <;> try simp only [go_sem, Nat.reduceAdd, Nat.reduceLeDiff, Nat.reduceEqDiff, Nat.reduceMul, Nat.reduceSub, ↓reduceIte, Int.reduceLT, Int.reduceLE, Int.reduceGT, Int.reduceGE, Nat.reduceLT, Nat.reduceGT, Int.reduceToNat, reduceCtorEq, Nat.reduceBEq, Int.reduceBEq, Int.reduceBNe, Int.reduceEq, Int.reduceNe, decide_true, decide_false])
  refine i_loop (fun k : Nat => [(0, .lst (xs.map Ent.v)), (1, .func f a cs), (7, I64 xs.length), (8, I64 k)]) (fun _ => nil) (fun k _ => k ≤ xs.length ∧ idxM g xs 0 = idxM g (xs.drop k) k) (fun k => xs.length - k) 0 (by simp [tmLe, tm, Tm.upd]) (Sub.nil _) (by simp) ?_
  rintro k c ⟨hk, he⟩
  by_cases hlt : k < xs.length
  · have hd : decide ((k : Int) < xs.length) = true := by simpa using hlt
    have hg := List.getElem?_eq_getElem hlt
    have hw := w64 (n := (k : Int) + 1) (by omega) (by omega)
    have hst := idxM_step (g := g) hg
    have hc := hf xs[k] (List.getElem_mem hlt)
    repeat' ((first | (with_reducible first | refine wr ?_ | refine i_ret ?_ | refine i_skip ?_ | refine i_exit ?_) | ((with_reducible first | refine k_cb ?_ ?_ | refine k_gb ?_ ?_ | refine k_gb' ?_ ?_) <;> (intro hb; try simp only [hb])) | ((with_reducible refine AC.call ((hc).at _ _) ?_); rintro _ _ _ ⟨rfl, rfl, rfl⟩ -)) <;> try simp only [go_sem, Nat.reduceAdd, Nat.reduceLeDiff, Nat.reduceEqDiff, Nat.reduceMul, Nat.reduceSub, ↓reduceIte, Int.reduceLT, Int.reduceLE, Int.reduceGT, Int.reduceGE, Nat.reduceLT, Nat.reduceGT, Int.reduceToNat, reduceCtorEq, Nat.reduceBEq, Int.reduceBEq, Int.reduceBNe, Int.reduceEq, Int.reduceNe, decide_true, decide_false, hd, hg, hw])
    · refine pc_ret ?_
      rw [he, hst, hb]; rfl
    · exact ⟨k + 1, rfl, Sub.refl _, inv ⟨by omega, by rw [he, hst, hb]; rfl⟩, by omega⟩
  · have hd : decide ((k : Int) < xs.length) = false := by simpa using hlt
    repeat' ((first | (with_reducible first | refine wr ?_ | refine i_ret ?_ | refine i_skip ?_ | refine i_exit ?_) | ((with_reducible first | refine k_cb ?_ ?_ | refine k_gb ?_ ?_ | refine k_gb' ?_ ?_) <;> (intro hb; try simp only [hb]))) <;> try simp only [go_sem, Nat.reduceAdd, Nat.reduceLeDiff, Nat.reduceEqDiff, Nat.reduceMul, Nat.reduceSub, ↓reduceIte, Int.reduceLT, Int.reduceLE, Int.reduceGT, Int.reduceGE, Nat.reduceLT, Nat.reduceGT, Int.reduceToNat, reduceCtorEq, Nat.reduceBEq, Int.reduceBEq, Int.reduceBNe, Int.reduceEq, Int.reduceNe, decide_true, decide_false, hd])
    refine pc_ret ?_
    rw [he, idxM_end (by omega)]
theorem c_CF_ent {g : Ent → Bool} {f : Nat} {a cs : List DV} (xs : List Ent) (hx : xs.length ≤ 9223372036854775807) (na : DV.nlL a = true) (ncs : DV.nlL cs = true) (hf : ∀ x ∈ xs, PC Tryd.prog f (a ++ [Ent.v x] ++ cs) (.bool (g x))) :
    PC Tryd.prog 74 [.lst (xs.map Ent.v), .func f a cs] (.bool (xs.any g)) := by
  refine PC.of mixedU isU74 (Nat.le_of_ble_eq_true rfl) (by simp [DV.nlL, DV.nl, nlL_strs, nlL_ints, nlL_entries, na, ncs]) rfl ?_
  show IW Tryd.prog 9 u74_1 ⟨argT _, _, _⟩ (rt [.tmp 4] _)
  have hc := c_IF_ent xs hx na ncs hf
  repeat' ((first | (with_reducible first | refine wr ?_ | refine i_ret ?_ | refine i_skip ?_ | refine i_exit ?_) | ((with_reducible first | refine k_cb ?_ ?_ | refine k_gb ?_ ?_ | refine k_gb' ?_ ?_) <;> (intro hb; try simp only [hb])) | ((with_reducible refine AC.call ((hc).at _ _) ?_); rintro _ _ _ ⟨rfl, rfl, rfl⟩ -)) <;> try simp only [go_sem, Nat.reduceAdd, Nat.reduceLeDiff, Nat.reduceEqDiff, Nat.reduceMul, Nat.reduceSub, ↓reduceIte, Int.reduceLT, Int.reduceLE, Int.reduceGT, Int.reduceGE, Nat.reduceLT, Nat.reduceGT, Int.reduceToNat, reduceCtorEq, Nat.reduceBEq, Int.reduceBEq, Int.reduceBNe, Int.reduceEq, Int.reduceNe, decide_true, decide_false])
  refine pc_ret ?_
  rw [idxM_any]
end Go.Proofs.YtcallbfckjlagaaDoor
