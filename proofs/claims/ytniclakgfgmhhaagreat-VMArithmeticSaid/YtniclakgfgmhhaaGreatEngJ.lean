/-
  THE ENGINE, part J: every order of a region that draws ends where its plan ends.
-/
import Derived.Test.YtniclakgfgmhhaaGreatEngI
set_option linter.unusedVariables false
set_option linter.unusedSimpArgs false
namespace Go.Eng
section
open Classical
variable {P : Program} {ops : Array Oper} {io : List IOper} {bef : List (List Nat)} {n : Nat} {fr : List Nat} {c0 N : Nat} {T0 : Tm}

/-- A part of memory is set aside while a step goes on with the rest: behind the step it stands as it stood. -/
theorem Rep.frame {ρ ρ' : Ren} {H H1 H' : Hp} {c c' : Nat} {w w' : World} {v v' : Value} (hR : Rep ρ H w) (hsub : ∀ j, H1 j = none ∨ H1 j = H j) (d : Did ρ H1 c w v' w' v H' c' ρ') {X : Nat → Prop}
    (hX : ∀ j, X j → H1 j = none) :
    Rep ρ' (fun j => if X j then H j else H' j) w' ∧ Ext ρ H w ρ' (fun j => if X j then H j else H' j) w' := by
  have up : ∀ j b, H1 j = some b → H j = some b := fun j b hj => by
    rcases hsub j with h0 | h0 <;> rw [h0] at hj
    · cases hj
    · exact hj
  have stay : ∀ j b t, X j → H j = some b → ρ j = some t → w'.heap[t.block]? = w.heap[t.block]? := by
    intro j b t hx hb ht
    have hlt := (hR.look hb ht).lt
    refine d.ext.keep t.block hlt fun k bk tk h1 h2 h3 h4 => ?_
    have hkj : k ≠ j := fun e => by rw [e, hX j hx] at h1; cases h1
    exact hR.sep k j bk b tk t (up k bk h1) hb hkj h3 ht h2 h4
  have oldblk : ∀ k bk tk, H' k = some bk → ρ' k = some tk → w.heap.size ≤ tk.block ∨ ∃ i b0 t0, H1 i = some b0 ∧ H i = some b0 ∧ (bk.own = true → b0.own = true) ∧ ρ i = some t0 ∧ t0.block = tk.block := by
    intro k bk tk h1 h2
    rcases d.ext.mine k bk tk h1 h2 with h3 | ⟨i, b0, t0, e1, e2, e3, e4⟩
    · exact .inl h3
    · exact .inr ⟨i, b0, t0, e1, up i b0 e1, e2, e3, e4⟩
  refine ⟨⟨fun j b hj => ?_, fun i j bi bj ti tj hi hj hij h1 h2 ho => ?_⟩, ⟨d.ext.le, d.ext.os, d.ext.tape, d.ext.output, d.ext.size, fun k hk hno => ?_, fun j b t hj ht => ?_⟩⟩
  · by_cases hx : X j
    · simp only [hx, if_true] at hj
      obtain ⟨t, g1, g2⟩ := hR.blk j b hj
      exact ⟨t, d.ext.le _ _ g1, (g2.mono d.ext.le).world (stay j b t hx hj g1)⟩
    · simp only [hx, if_false] at hj
      exact d.rep.blk j b hj
  · by_cases hxi : X i <;> by_cases hxj : X j
    · simp only [hxi, hxj, if_true] at hi hj
      obtain ⟨t, g1, g2⟩ := hR.blk i bi hi
      obtain ⟨u, g3, g4⟩ := hR.blk j bj hj
      rw [d.ext.le _ _ g1] at h1; cases h1
      rw [d.ext.le _ _ g3] at h2; cases h2
      exact hR.sep i j bi bj _ _ hi hj hij g1 g3 ho
    · simp only [hxi, hxj, if_true, if_false] at hi hj
      obtain ⟨t, g1, g2⟩ := hR.blk i bi hi
      rw [d.ext.le _ _ g1] at h1; cases h1
      rcases oldblk j bj tj hj h2 with h3 | ⟨k, b0, t0, e1, e2, e3, e4, e5⟩
      · have := g2.lt; omega
      · rw [← e5]
        exact hR.sep i k bi b0 _ t0 hi e2 (fun e => by rw [← e, hX i hxi] at e1; cases e1) g1 e4 ho
    · simp only [hxi, hxj, if_true, if_false] at hi hj
      obtain ⟨u, g3, g4⟩ := hR.blk j bj hj
      rw [d.ext.le _ _ g3] at h2; cases h2
      rcases oldblk i bi ti hi h1 with h3 | ⟨k, b0, t0, e1, e2, e3, e4, e5⟩
      · have := g4.lt; omega
      · rw [← e5]
        exact hR.sep k j b0 bj t0 _ e2 hj (fun e => by rw [e, hX j hxj] at e1; cases e1) e4 g3 (e3 ho)
    · simp only [hxi, hxj, if_false] at hi hj
      exact d.rep.sep i j bi bj ti tj hi hj hij h1 h2 ho
  · exact d.ext.keep k hk fun id b t h1 h2 h3 => hno id b t (up id b h1) h2 h3
  · by_cases hx : X j
    · simp only [hx, if_true] at hj
      obtain ⟨u, g1, g2⟩ := hR.blk j b hj
      rw [d.ext.le _ _ g1] at ht; cases ht
      exact .inr ⟨j, b, _, hj, fun h => h, g1, rfl⟩
    · simp only [hx, if_false] at hj
      rcases oldblk j b t hj ht with h3 | ⟨k, b0, t0, e1, e2, e3, e4, e5⟩
      · exact .inl h3
      · exact .inr ⟨k, b0, t0, e2, e3, e4, e5⟩

variable {listed : Array Bool} {done : List Nat} {rest : List (Nat × Option (List Nat))} {s : St} {ρ : Ren} {a : Act} {w : World}

theorem DI.sim (hD : DI ops io bef n fr c0 N T0 listed done rest s ρ a w) : Sim N ρ ⟨TS io T0 listed done s, HS c0 listed done s, s.c⟩ a w :=
  ⟨hD.tm, hD.rep, hD.frs, hD.sz, hD.dfr⟩

/-- An early operation comes up. -/
theorem free_step (hb : befOk ops bef n = true) (hn : n = ops.size) (hio : ∀ (i : Nat) (o : Oper), ops[i]? = some o → ∃ p, io[i]? = some p ∧ trO P N ops o = some p)
    (hD : DI ops io bef n fr c0 N T0 listed done rest s ρ a w) {j : Nat} (hj : Pend listed done j) (hrd : Waits ops (Lst listed) j) {Q : Exit → Act → World → Prop} {K : Act → World → Prop}
    (hK : ∀ ρ' a' w', DI ops io bef n fr c0 N T0 (listed.setIfInBounds j true) done rest s ρ' a' w' → Ext ρ (HS c0 listed done s) w ρ' (HS c0 (listed.setIfInBounds j true) done s) w' → (∀ id, id < c0 → ρ' id = ρ id) → K a' w') :
    wpOp P ops Q j K a w := by
  have hjn : j < n := hD.dlt j hj.1
  have hjo : ∃ o, ops[j]? = some o := ⟨ops[j]'(hn ▸ hjn), by simp [hn ▸ hjn]⟩
  obtain ⟨o, ho⟩ := hjo
  obtain ⟨p, hp, htr⟩ := hio j o ho
  have hjf : j ∈ fr := Classical.byContradiction fun h => hj.2 (hD.eff j hj.1 h)
  obtain ⟨p', hp', hkind, hsolo⟩ := solo_spec (hD.fro j hjf)
  rw [hp] at hp'; cases hp'
  have hls : j < listed.size := hD.lsz ▸ hjn
  have hag := hD.agn j hj
  unfold Again at hag
  rw [hp] at hag
  simp only [] at hag
  split at hag
  case h_2 => exact hag.elim
  rename_i v ob hfv
  obtain ⟨hag1, hag2⟩ := hag
  have hsee := sees_ts hb hD hjn hrd hp
  obtain ⟨hev, hwt⟩ := ev_of_sees (o := p) (T := TS io T0 listed done s) (T' := s.T) hsee
  unfold trO at htr
  split at htr
  case h_2 => cases htr
  rename_i op g hop hg hd
  cases htr
  have hwr := want_rel hD.sim hg rfl
  -- the new relation, told once
  have fin : ∀ (ρ' : Ren) (v' : Value) (w' : World), VRel ρ' v v' → Rep ρ' (HS c0 (listed.setIfInBounds j true) done s) w' → ρ.le ρ' → (∀ id, s.c ≤ id → ρ' id = none) → (∀ i, i < n → i ≠ j → ¬ Lst listed i → ρ' (c0 + i) = none) →
      DI ops io bef n fr c0 N T0 (listed.setIfInBounds j true) done rest s ρ' (a.put o.dst v') w' := by
    intro ρ' v' w' hv hr hle hf hf2
    have hl : ∀ i, Lst (listed.setIfInBounds j true) i ↔ i = j ∨ Lst listed i := fun i => lst_set hls
    have hpd : ∀ i, Pend (listed.setIfInBounds j true) done i ↔ Pend listed done i ∧ i ≠ j := by
      intro i
      unfold Pend
      rw [hl]
      constructor
      · rintro ⟨h1, h2⟩; exact ⟨⟨h1, fun h => h2 (.inr h)⟩, fun h => h2 (.inl h)⟩
      · rintro ⟨⟨h1, h2⟩, h3⟩; exact ⟨h1, fun h => h.elim h3 h2⟩
    refine ⟨by simpa using hD.lsz, hD.ck, hD.cov, hD.dlt, hD.dcl, ?_, ?_, ?_, hD.fro, ?_, ?_, hr, hf, ?_, hD.und, hD.cle, (size_put _ _ _).trans hD.sz, (defers_put _ _ _).trans hD.dfr⟩
    · intro i hi o' e he1 he2 he3
      rw [hl] at hi ⊢
      rcases hi with rfl | hi
      · exact .inr (hrd o' e he1 he2 he3)
      · exact .inr (hD.lcl i hi o' e he1 he2 he3)
    · intro i hi
      rw [hl] at hi
      rcases hi with rfl | hi
      · exact hj.1
      · exact hD.lsub i hi
    · intro i h1 h2; rw [hl]; exact .inr (hD.eff i h1 h2)
    · intro i hi; exact hD.agn i ((hpd i).1 hi).1
    · -- the slots
      have hts : ∀ t, TS io T0 (listed.setIfInBounds j true) done s t = updO (TS io T0 listed done s) o.dst v t := by
        intro t
        by_cases ht : o.dst = some t
        · rw [ht]
          simp only [updO, Tm.upd, if_true]
          unfold TS
          rw [if_neg]
          · exact hag1 t ht
          · rintro ⟨i, hi, q, hq, hqd⟩
            obtain ⟨h1, h2⟩ := (hpd i).1 hi
            obtain ⟨q', hq', -, h3⟩ := hsolo t ht i (hD.dlt i h1.1)
            rw [hq] at hq'; cases hq'
            exact h3 h2 hqd
        · have h1 : updO (TS io T0 listed done s) o.dst v t = TS io T0 listed done s t := by
            cases hd' : o.dst with
            | none => rfl
            | some d => simp only [updO, Tm.upd]; rw [if_neg (fun e => ht (by rw [hd', e]))]
          rw [h1]
          unfold TS
          have : (∃ i, Pend (listed.setIfInBounds j true) done i ∧ ∃ o, io[i]? = some o ∧ o.dst = some t) ↔ ∃ i, Pend listed done i ∧ ∃ o, io[i]? = some o ∧ o.dst = some t := by
            constructor
            · rintro ⟨i, hi, h⟩; exact ⟨i, ((hpd i).1 hi).1, h⟩
            · rintro ⟨i, hi, q, hq, hqd⟩
              refine ⟨i, (hpd i).2 ⟨hi, ?_⟩, q, hq, hqd⟩
              rintro rfl
              rw [hp] at hq; cases hq
              exact ht hqd
          simp only [this]
      have h2 := (hD.tm.mono hle).putO (d := o.dst) (by rw [hD.sz]; exact hd) hv
      intro t
      rw [hts t]
      exact h2 t
    · intro i hi hl2
      rw [hl] at hl2
      exact hf2 i hi (fun h => hl2 (.inl h)) (fun h => hl2 (.inr h))
  have hhs : HS c0 (listed.setIfInBounds j true) done s = updB (HS c0 listed done s) (c0 + j) ob := by
    funext id
    have hpd : ∀ i, Pend (listed.setIfInBounds j true) done i ↔ Pend listed done i ∧ i ≠ j := by
      intro i
      unfold Pend
      rw [lst_set hls]
      constructor
      · rintro ⟨h1, h2⟩; exact ⟨⟨h1, fun h => h2 (.inr h)⟩, fun h => h2 (.inl h)⟩
      · rintro ⟨⟨h1, h2⟩, h3⟩; exact ⟨h1, fun h => h.elim h3 h2⟩
    by_cases hid : id = c0 + j
    · subst hid
      have e1 : HS c0 (listed.setIfInBounds j true) done s (c0 + j) = ob := by
        unfold HS
        rw [if_neg]
        · exact hag2
        · rintro ⟨i, hi, he⟩
          exact ((hpd i).1 hi).2 (by omega)
      rw [e1]
      cases ob with
      | none => simp only [updB]; unfold HS; rw [if_pos ⟨j, hj, rfl⟩]
      | some b => simp [updB, Hp.upd]
    · have e1 : updB (HS c0 listed done s) (c0 + j) ob id = HS c0 listed done s id := by
        cases ob with
        | none => rfl
        | some b => simp [updB, Hp.upd, hid]
      rw [e1]
      unfold HS
      have : (∃ i, Pend (listed.setIfInBounds j true) done i ∧ id = c0 + i) ↔ ∃ i, Pend listed done i ∧ id = c0 + i := by
        constructor
        · rintro ⟨i, hi, h⟩; exact ⟨i, ((hpd i).1 hi).1, h⟩
        · rintro ⟨i, hi, h⟩; exact ⟨i, (hpd i).2 ⟨hi, fun e => hid (by rw [h, e])⟩, h⟩
      simp only [this]
  have hid : ρ (c0 + j) = none := hD.frp j hjn hj.2
  unfold wpOp
  simp only [ho]
  rw [hwr]
  unfold freeV at hfv
  simp only [] at hfv hwt hev
  rw [← hwt] at hfv
  split at hfv
  · rename_i hw
    rw [if_neg (by rw [hw]; exact Bool.false_ne_true)]
    cases hfv
    exact hK ρ _ w (fin ρ undef w (undef_rel ρ) (by rw [hhs]; exact hD.rep) (Ren.le_refl _) hD.frs (fun i h1 _ h3 => hD.frp i h1 h3)) (by rw [hhs]; exact Ext.refl _ _ _) (fun _ _ => rfl)
  · rename_i hw
    rw [if_pos hw]
    left
    split at hfv
    · rename_i f
      split at hfv
      · rename_i v0 hv0
        cases hfv
        have htop : ∀ x ∈ f.opds, ∀ id, topId (Opd.ev s.T x) = some id → HS c0 listed done s id = s.H id := by
          intro x hx id hid'
          have hx1 : x.ev (TS io T0 listed done s) = x.ev s.T := hev x hx
          cases x with
          | t k =>
            have hr := hD.tm k
            simp only [Opd.ev] at hx1 hid'
            rw [hx1] at hr
            obtain ⟨tg, htg⟩ := hr.top hid'
            unfold HS
            rw [if_neg]
            rintro ⟨i, hi, rfl⟩
            rw [hD.frp i (hD.dlt i hi.1) hi.2] at htg
            cases htg
          | k c =>
            simp only [Opd.ev] at hid'
            have hk := hkind (.k c) hx
            rw [flat_top hk] at hid'
            cases hid'
          | f g => simp [Opd.ev, topId] at hid'
        have hfe : fev (HS c0 listed done s) (Opd.ev (TS io T0 listed done s)) f = some v := by
          rw [fev_congr (H := s.H) (e := Opd.ev s.T) (f := f) (fun x hx => (hev x hx).symm) htop]
          exact hv0
        have htrf : trF P o.op = some f := by
          unfold trI at hop
          split at hop
          · cases hop; assumption
          · split at hop
            · cases hop
            · split at hop
              · cases hop
              · unfold trCl at hop
                split at hop <;> simp at hop
        obtain ⟨v', h1, h2⟩ := fev_sound hD.rep hD.tm htrf hfe
        unfold Oper.wp
        rw [h1]
        exact hK ρ _ w (fin ρ v' w h2 (by rw [hhs]; exact hD.rep) (Ren.le_refl _) hD.frs (fun i h1 _ h3 => hD.frp i h1 h3)) (by rw [hhs]; exact Ext.refl _ _ _) (fun _ _ => rfl)
      · cases hfv
    · rename_i f
      split at hfv
      · rename_i k b hk
        cases hfv
        have hfe : aev (Opd.ev (TS io T0 listed done s)) f = some (k, b) := by
          rw [aev_congr (f := f) (e := Opd.ev s.T) (fun x hx => (hev x hx).symm)]
          exact hk
        have htrf : trA P o.op = some f := by
          unfold trI at hop
          split at hop
          · cases hop
          · split at hop
            · cases hop; assumption
            · split at hop
              · cases hop
              · unfold trCl at hop
                split at hop <;> simp at hop
        obtain ⟨v', c, e, h1, h2, h3, h4⟩ := aev_sound (w := w) hD.tm hid htrf hfe
        unfold Oper.wp
        rw [h1]
        refine hK _ _ _ (fin _ v' _ h2 (by rw [hhs]; exact hD.rep.alloc hid h4 h3 rfl) (Ren.le_upd hid) ?_ ?_) (by rw [hhs]; exact Ext.alloc hD.rep hid rfl rfl rfl rfl) (fun id hid' => ?_)
        · intro id hid'
          have := hD.cle
          simp only [Ren.upd, show id ≠ c0 + j by omega, if_false]
          exact hD.frs id hid'
        · intro i hi hij hnl
          simp only [Ren.upd, show c0 + i ≠ c0 + j by omega, if_false]
          exact hD.frp i hi hnl
        · simp only [Ren.upd, show id ≠ c0 + j by omega, if_false]
      · cases hfv
    · cases hfv
end
end Go.Eng
