/-
  THE ENGINE, part K: a region that draws its order, whole.
-/
import Derived.Test.YtniclakgfgmhhaaGreatEngJ
set_option linter.unusedVariables false
set_option linter.unusedSimpArgs false
namespace Go.Eng
section
open Classical
variable {P : Program} {ops : Array Oper} {io : List IOper} {bef : List (List Nat)} {n : Nat} {fr : List Nat} {c0 N : Nat} {T0 : Tm}
variable {listed : Array Bool} {done : List Nat} {rest : List (Nat × Option (List Nat))} {s : St} {ρ : Ren} {a : Act} {w : World}

theorem againL_mem {io : List IOper} {c0 : Nat} {s : St} : ∀ {l : List Nat}, AgainL io c0 s l → ∀ j ∈ l, Again io c0 s j
  | [], _, j, hj => by cases hj
  | i :: r, h, j, hj => by
    cases hj with
    | head => exact h.1
    | tail _ hj => exact againL_mem h.2 j hj

/-- What the plan does early, before the next row that writes. -/
theorem adv (hb : befOk ops bef n = true) (Q : St → Prop) : ∀ (rest : List (Nat × Option (List Nat))) (done : List Nat) (s : St), DI ops io bef n fr c0 N T0 listed done rest s ρ a w → dwp P Q io c0 rest s →
    ∃ done' rest' s', DI ops io bef n fr c0 N T0 listed done' rest' s' ρ a w ∧ dwp P Q io c0 rest' s' ∧ (rest' = [] ∨ ∃ e pend r, rest' = (e, some pend) :: r) ∧ s'.c = s.c ∧ HS c0 listed done' s' = HS c0 listed done s := by
  intro rest
  induction rest with
  | nil => exact fun done s hD h => ⟨done, [], s, hD, h, .inl rfl, rfl, rfl⟩
  | cons x r ih =>
    intro done s hD h
    obtain ⟨i, k⟩ := x
    cases k with
    | some pend => exact ⟨done, _, s, hD, h, .inr ⟨i, pend, r, rfl⟩, rfl, rfl⟩
    | none =>
      have hck := hD.ck
      simp only [chk, Bool.and_eq_true, Bool.not_eq_true', Nat.ble_eq, List.contains_iff_mem, List.contains_eq_mem, decide_eq_false_iff_not, decide_eq_true_eq] at hck
      obtain ⟨⟨⟨⟨⟨k1, k2⟩, k3⟩, k4⟩, k5⟩, k6⟩ := hck
      have hin : i < n := by omega
      obtain ⟨p, hp, hkind, hsolo⟩ := solo_spec k4
      simp only [dwp, hp] at h
      split at h
      case h_2 => exact h.elim
      rename_i v ob hfv
      have hnl : ¬ Lst listed i := fun hl => k2 (hD.lsub i hl)
      obtain ⟨u1, u2⟩ := hD.und i hin k2
      have hself : ∀ d, p.dst = some d → d ∉ p.sees := by
        intro d hd hs
        obtain ⟨q, hq, h1, -⟩ := hsolo d hd i hin
        rw [hp] at hq; cases hq
        exact absurd (bef_lt hb hin (h1 hs)) (Nat.lt_irrefl _)
      have hT : ∀ t, p.dst ≠ some t → updO s.T p.dst v t = s.T t := by
        intro t ht
        cases hd : p.dst with
        | none => rfl
        | some d => simp only [updO, Tm.upd]; rw [if_neg (fun e => ht (by rw [hd, e]))]
      have hH : ∀ id b, s.H id = some b → updB s.H (c0 + i) ob id = some b := by
        intro id b hb'
        cases ob with
        | none => exact hb'
        | some b' =>
          simp only [updB, Hp.upd]
          rw [if_neg]
          · exact hb'
          · rintro rfl; rw [u1] at hb'; cases hb'
      have hHne : ∀ id, id ≠ c0 + i → updB s.H (c0 + i) ob id = s.H id := by
        intro id hid
        cases ob with
        | none => rfl
        | some b' => simp only [updB, Hp.upd]; rw [if_neg hid]
      have hHi : updB s.H (c0 + i) ob (c0 + i) = ob := by
        cases ob with
        | none => exact u1
        | some b' => simp [updB, Hp.upd]
      have hpend : ∀ j, Pend listed (i :: done) j ↔ j = i ∨ Pend listed done j := by
        intro j
        unfold Pend
        constructor
        · rintro ⟨h1, h2⟩
          cases h1 with
          | head => exact .inl rfl
          | tail _ h1 => exact .inr ⟨h1, h2⟩
        · rintro (rfl | ⟨h1, h2⟩)
          · exact ⟨List.mem_cons_self, hnl⟩
          · exact ⟨List.mem_cons_of_mem _ h1, h2⟩
      have hdistinct : ∀ j, Pend listed done j → ∀ q d, io[j]? = some q → q.dst = some d → p.dst ≠ some d := by
        intro j hj q d hq hd hpd
        obtain ⟨q', hq', -, h2⟩ := hsolo d hpd j (hD.dlt j hj.1)
        rw [hq] at hq'; cases hq'
        exact h2 (fun e => k2 (e ▸ hj.1)) hd
      have hts : TS io T0 listed (i :: done) ⟨updO s.T p.dst v, updB s.H (c0 + i) ob, s.c⟩ = TS io T0 listed done s := by
        funext t
        unfold TS
        by_cases ht : p.dst = some t
        · rw [if_pos ⟨i, (hpend i).2 (.inl rfl), p, hp, ht⟩, if_neg]
          · exact (u2 k5 p t hp ht).symm
          · rintro ⟨j, hj, q, hq, hqd⟩
            exact hdistinct j hj q t hq hqd ht
        · have : (∃ j, Pend listed (i :: done) j ∧ ∃ o, io[j]? = some o ∧ o.dst = some t) ↔ ∃ j, Pend listed done j ∧ ∃ o, io[j]? = some o ∧ o.dst = some t := by
            constructor
            · rintro ⟨j, hj, q, hq, hqd⟩
              rcases (hpend j).1 hj with rfl | hj
              · rw [hp] at hq; cases hq; exact absurd hqd ht
              · exact ⟨j, hj, q, hq, hqd⟩
            · rintro ⟨j, hj, q, hq, hqd⟩; exact ⟨j, (hpend j).2 (.inr hj), q, hq, hqd⟩
          simp only [this, hT t ht]
      have hhs : HS c0 listed (i :: done) ⟨updO s.T p.dst v, updB s.H (c0 + i) ob, s.c⟩ = HS c0 listed done s := by
        funext id
        unfold HS
        by_cases hid : id = c0 + i
        · subst hid
          rw [if_pos ⟨i, (hpend i).2 (.inl rfl), rfl⟩]
          split
          · rfl
          · exact u1.symm
        · have : (∃ j, Pend listed (i :: done) j ∧ id = c0 + j) ↔ ∃ j, Pend listed done j ∧ id = c0 + j := by
            constructor
            · rintro ⟨j, hj, hj2⟩
              rcases (hpend j).1 hj with rfl | hj
              · exact absurd hj2 hid
              · exact ⟨j, hj, hj2⟩
            · rintro ⟨j, hj, hj2⟩; exact ⟨j, (hpend j).2 (.inr hj), hj2⟩
          simp only [this, hHne id hid]
      have hag : ∀ j, Pend listed (i :: done) j → Again io c0 ⟨updO s.T p.dst v, updB s.H (c0 + i) ob, s.c⟩ j := by
        intro j hj
        rcases (hpend j).1 hj with rfl | hj
        · unfold Again
          simp only [hp]
          have := freeV_grow (s := s) (s' := ⟨updO s.T p.dst v, updB s.H (c0 + j) ob, s.c⟩) (o := p) (fun t ht => (hT t (fun e => hself t e ht)).symm) hH hfv
          rw [this]
          refine ⟨fun d hd => ?_, hHi⟩
          rw [hd]; simp [updO, Tm.upd]
        · have h0 := hD.agn j hj
          unfold Again at h0 ⊢
          split at h0
          · rename_i q hq
            split at h0
            · rename_i v' ob' hv'
              have hnot : ∀ t ∈ q.sees, s.T t = updO s.T p.dst v t := by
                intro t ht
                refine (hT t fun e => ?_).symm
                obtain ⟨q', hq', h1, -⟩ := hsolo t e j (hD.dlt j hj.1)
                rw [hq] at hq'; cases hq'
                exact k2 (bef_in (X := (· ∈ done)) hb hD.dcl j (hD.dlt j hj.1) (hD.dcl j hj.1) i (h1 ht))
              have := freeV_grow (s := s) (s' := ⟨updO s.T p.dst v, updB s.H (c0 + i) ob, s.c⟩) (o := q) hnot hH hv'
              simp only [this]
              refine ⟨fun d hd => ?_, ?_⟩
              · rw [hT d (fun e => hdistinct j hj q d hq hd e)]; exact h0.1 d hd
              · rw [hHne _ (fun e => k2 (by have : j = i := by omega
                                            exact this ▸ hj.1))]
                exact h0.2
            · exact h0.elim
          · exact h0.elim
      have hDI : DI ops io bef n fr c0 N T0 listed (i :: done) r ⟨updO s.T p.dst v, updB s.H (c0 + i) ob, s.c⟩ ρ a w := by
        refine ⟨hD.lsz, k6, fun j hj => ?_, fun j hj => ?_, fun j hj o e he1 he2 he3 => ?_, hD.lcl, fun j hj => List.mem_cons_of_mem _ (hD.lsub j hj), fun j hj hjf => ?_, hD.fro, hag, by rw [hts]; exact hD.tm, by rw [hhs]; exact hD.rep, hD.frs, hD.frp, fun j hj hjd => ?_, hD.cle, hD.sz, hD.dfr⟩
        · rcases hD.cov j hj with h1 | h1
          · exact .inl (List.mem_cons_of_mem _ h1)
          · simp only [List.map_cons] at h1
            cases h1 with
            | head => exact .inl List.mem_cons_self
            | tail _ h1 => exact .inr h1
        · cases hj with
          | head => exact hin
          | tail _ hj => exact hD.dlt j hj
        · cases hj with
          | head => exact List.mem_cons_of_mem _ ((waits_of_predsIn k1).1 o e he1 he2 he3)
          | tail _ hj => exact List.mem_cons_of_mem _ (hD.dcl j hj o e he1 he2 he3)
        · cases hj with
          | head => exact absurd k5 hjf
          | tail _ hj => exact hD.eff j hj hjf
        · have hjd' : j ∉ done := fun h => hjd (List.mem_cons_of_mem _ h)
          have hji : j ≠ i := fun e => hjd (e ▸ List.mem_cons_self)
          obtain ⟨w1, w2⟩ := hD.und j hj hjd'
          refine ⟨(hHne _ (by omega)).trans w1, fun hjf o d ho hd => ?_⟩
          refine (hT d ?_).trans ?_
          rotate_left
          · exact w2 hjf o d ho hd
          · intro hpd
            obtain ⟨q', hq', -, h2⟩ := hsolo d hpd j hj
            rw [ho] at hq'; cases hq'
            exact h2 hji hd
      obtain ⟨done', rest', s', g1, g2, g3, g4, g5⟩ := ih (i :: done) _ hDI h
      exact ⟨done', rest', s', g1, g2, g3, g4, g5.trans hhs⟩

/-- The next row that writes comes up. -/
theorem eff_step (hb : befOk ops bef n = true) (hn : n = ops.size) (hio : ∀ (i : Nat) (o : Oper), ops[i]? = some o → ∃ p, io[i]? = some p ∧ trO P N ops o = some p) {Q' : St → Prop} {e : Nat} {pend : List Nat} {r : List (Nat × Option (List Nat))}
    (hD : DI ops io bef n fr c0 N T0 listed done ((e, some pend) :: r) s ρ a w) (hrd : Waits ops (Lst listed) e) (hdw : dwp P Q' io c0 ((e, some pend) :: r) s) {Q : Exit → Act → World → Prop} {K : Act → World → Prop}
    (hK : ∀ ρ' a' w' s', DI ops io bef n fr c0 N T0 (listed.setIfInBounds e true) (e :: done) r s' ρ' a' w' → dwp P Q' io c0 r s' →
      Ext ρ (HS c0 listed done s) w ρ' (HS c0 (listed.setIfInBounds e true) (e :: done) s') w' → (∀ id, id < c0 → ρ' id = ρ id) → s.c ≤ s'.c →
      (∀ id, id < c0 → HS c0 (listed.setIfInBounds e true) (e :: done) s' id ≠ none → HS c0 listed done s id ≠ none) → K a' w') :
    wpOp P ops Q e K a w := by
  have hck := hD.ck
  simp only [chk, Bool.and_eq_true, Bool.not_eq_true', Nat.ble_eq, List.all_eq_true, Bool.or_eq_true, List.contains_iff_mem, List.contains_eq_mem, decide_eq_false_iff_not, decide_eq_true_eq] at hck
  obtain ⟨⟨⟨⟨⟨⟨⟨k1, k2⟩, k3⟩, k4⟩, k5⟩, k6⟩, k7⟩, k8⟩ := hck
  have hen : e < n := by omega
  have hnl : ¬ Lst listed e := fun hl => k2 (hD.lsub e hl)
  have hls : e < listed.size := hD.lsz ▸ hen
  obtain ⟨o, ho⟩ : ∃ o, ops[e]? = some o := ⟨ops[e]'(hn ▸ hen), by simp [hn ▸ hen]⟩
  obtain ⟨p, hp, htr⟩ := hio e o ho
  have hsee := sees_ts hb hD hen hrd hp
  obtain ⟨hev, hwt⟩ := ev_of_sees (o := p) (T := TS io T0 listed done s) (T' := s.T) hsee
  simp only [dwp, hp] at hdw
  -- what is still to come lies in 'pend'
  have hpd : ∀ j, Pend listed done j → j ∈ pend ∧ j ∈ fr := by
    intro j hj
    rcases k5 j hj.1 with h1 | h1
    · exact absurd (bef_in hb hD.lcl e hen hrd j h1) hj.2
    · exact ⟨h1.2, h1.1⟩
  generalize hks : (pend.filter (isNew io)).map (c0 + ·) = ks at hdw
  have hksmem : ∀ id, id ∈ ks ↔ ∃ j, j ∈ pend ∧ isNew io j = true ∧ id = c0 + j := by
    intro id
    rw [← hks]
    simp only [List.mem_map, List.mem_filter]
    constructor
    · rintro ⟨j, ⟨h1, h2⟩, rfl⟩; exact ⟨j, h1, h2, rfl⟩
    · rintro ⟨j, h1, h2, rfl⟩; exact ⟨j, ⟨h1, h2⟩, rfl⟩
  have hnew : ∀ j, Pend listed done j → isNew io j = false → s.H (c0 + j) = none := by
    intro j hj hnew
    have h0 := hD.agn j hj
    unfold Again at h0
    split at h0
    · rename_i q hq
      split at h0
      · rename_i v ob hv
        rw [h0.2]
        unfold freeV at hv
        unfold isNew at hnew
        rw [hq] at hnew
        split at hv
        · cases hv; rfl
        · split at hv
          · split at hv
            · cases hv; rfl
            · cases hv
          · rename_i f hf
            obtain ⟨d1, op1, g1⟩ := q
            simp only at hf
            subst hf
            simp at hnew
          · cases hv
      · exact h0.elim
    · exact h0.elim
  have hhide : ∀ id, hide s.H ks id = none ∨ hide s.H ks id = HS c0 listed done s id := by
    intro id
    unfold hide HS
    by_cases hid : id ∈ ks
    · rw [if_pos hid]; exact .inl rfl
    · rw [if_neg hid]
      split
      · rename_i hex
        obtain ⟨j, hj, rfl⟩ := hex
        left
        refine hnew j hj ?_
        cases hc : isNew io j with
        | false => rfl
        | true => exact absurd ((hksmem _).2 ⟨j, (hpd j hj).1, hc, rfl⟩) hid
      · exact .inr rfl
  have hS0 : Sim N ρ ⟨TS io T0 listed done s, hide s.H ks, s.c⟩ a w := ⟨hD.tm, hD.rep.less hhide, hD.frs, hD.sz, hD.dfr⟩
  unfold trO at htr
  split at htr
  case h_2 => cases htr
  rename_i op g hop hg hd
  cases htr
  have hwr := want_rel hS0 hg rfl
  have hpend' : ∀ j, Pend (listed.setIfInBounds e true) (e :: done) j ↔ Pend listed done j := by
    intro j
    unfold Pend
    rw [lst_set hls]
    constructor
    · rintro ⟨h1, h2⟩
      cases h1 with
      | head => exact absurd (.inl rfl) h2
      | tail _ h1 => exact ⟨h1, fun h => h2 (.inr h)⟩
    · rintro ⟨h1, h2⟩
      exact ⟨List.mem_cons_of_mem _ h1, fun h => h.elim (fun h3 => k2 (h3 ▸ h1)) h2⟩
  -- the end of the step, told once
  have fin : ∀ v v' H' c' ρ' w', (AgainL io c0 ⟨updO s.T o.dst v, merge ks s.H H', c'⟩ pend ∧ dwp P Q' io c0 r ⟨updO s.T o.dst v, merge ks s.H H', c'⟩) → Did ρ (hide s.H ks) s.c w v' w' v H' c' ρ' → K (a.put o.dst v') w' := by
    intro v v' H' c' ρ' w' ⟨hag, hdw'⟩ d
    obtain ⟨X, hX⟩ : ∃ X : Nat → Prop, ∀ id, X id ↔ (id ∈ ks ∧ ¬ ∃ j, Pend listed done j ∧ id = c0 + j) := ⟨_, fun _ => Iff.rfl⟩
    have hfr2 := hD.rep.frame (H1 := hide s.H ks) hhide d (X := X) (fun id hx => by unfold hide; rw [if_pos ((hX id).1 hx).1])
    obtain ⟨hr2, hx2⟩ := hfr2
    have hless : ∀ id, HS c0 (listed.setIfInBounds e true) (e :: done) ⟨updO s.T o.dst v, merge ks s.H H', c'⟩ id = none ∨
        HS c0 (listed.setIfInBounds e true) (e :: done) ⟨updO s.T o.dst v, merge ks s.H H', c'⟩ id = (if X id then HS c0 listed done s id else H' id) := by
      intro id
      unfold HS
      simp only [hpend']
      by_cases hex : ∃ j, Pend listed done j ∧ id = c0 + j
      · rw [if_pos hex]; exact .inl rfl
      · right
        rw [if_neg hex]
        unfold merge
        by_cases hid : id ∈ ks
        · rw [if_pos ((hX id).2 ⟨hid, hex⟩), if_neg hex]; simp only [hid, if_true]
        · rw [if_neg (fun h => hid ((hX id).1 h).1)]; simp only [hid, if_false]
    have hrep := hr2.less hless
    refine hK ρ' _ w' ⟨updO s.T o.dst v, merge ks s.H H', c'⟩ ?_ hdw' ?_ ?_ d.up ?_
    · refine ⟨by simpa using hD.lsz, k8, fun j hj => ?_, fun j hj => ?_, fun j hj o' e' he1 he2 he3 => ?_, fun j hj => ?_, fun j hj => ?_, fun j hj hjf => ?_, hD.fro, fun j hj => ?_, ?_, hrep, d.fresh, fun j hj hnl' => ?_, fun j hj hjd => ?_, Nat.le_trans hD.cle d.up,
        (size_put _ _ _).trans hD.sz, (defers_put _ _ _).trans hD.dfr⟩
      · rcases hD.cov j hj with h1 | h1
        · exact .inl (List.mem_cons_of_mem _ h1)
        · simp only [List.map_cons] at h1
          cases h1 with
          | head => exact .inl List.mem_cons_self
          | tail _ h1 => exact .inr h1
      · cases hj with
        | head => exact hen
        | tail _ hj => exact hD.dlt j hj
      · cases hj with
        | head => exact List.mem_cons_of_mem _ ((waits_of_predsIn k1).1 o' e' he1 he2 he3)
        | tail _ hj => exact List.mem_cons_of_mem _ (hD.dcl j hj o' e' he1 he2 he3)
      · intro o' e' he1 he2 he3
        rw [lst_set hls] at hj ⊢
        rcases hj with rfl | hj
        · exact .inr (hrd o' e' he1 he2 he3)
        · exact .inr (hD.lcl j hj o' e' he1 he2 he3)
      · rw [lst_set hls] at hj
        rcases hj with rfl | hj
        · exact List.mem_cons_self
        · exact List.mem_cons_of_mem _ (hD.lsub j hj)
      · rw [lst_set hls]
        cases hj with
        | head => exact .inl rfl
        | tail _ hj => exact .inr (hD.eff j hj hjf)
      · exact againL_mem hag j (hpd j ((hpend' j).1 hj)).1
      · have hts : ∀ t, TS io T0 (listed.setIfInBounds e true) (e :: done) ⟨updO s.T o.dst v, merge ks s.H H', c'⟩ t = updO (TS io T0 listed done s) o.dst v t := by
          intro t
          unfold TS
          simp only [hpend']
          by_cases hex : ∃ j, Pend listed done j ∧ ∃ o, io[j]? = some o ∧ o.dst = some t
          · rw [if_pos hex]
            have hne : o.dst ≠ some t := by
              obtain ⟨j, hj, q, hq, hqd⟩ := hex
              obtain ⟨q', hq', -, h2⟩ := solo_spec (hD.fro j (hpd j hj).2)
              rw [hq] at hq'; cases hq'
              obtain ⟨p', hp', -, h3⟩ := h2 t hqd e hen
              rw [hp] at hp'; cases hp'
              exact h3 (fun h => k2 (h ▸ hj.1))
            cases hdd : o.dst with
            | none => simp only [updO]; rw [if_pos hex]
            | some dd =>
              have : t ≠ dd := fun h => hne (by rw [hdd, h])
              simp only [updO, Tm.upd, this, if_false]; rw [if_pos hex]
          · rw [if_neg hex]
            cases hdd : o.dst with
            | none => simp only [updO]; rw [if_neg hex]
            | some dd =>
              by_cases ht : t = dd
              · simp only [updO, Tm.upd, ht, if_true]
              · simp only [updO, Tm.upd, ht, if_false]; rw [if_neg hex]
        have h2 := (hD.tm.mono d.ext.le).putO (d := o.dst) (by rw [hD.sz]; exact hd) d.val
        intro t
        rw [hts t]
        exact h2 t
      · rw [lst_set hls] at hnl'
        rw [d.same (c0 + j) (by have := hD.cle; omega)]
        exact hD.frp j hj (fun h => hnl' (.inr h))
      · have hjd' : j ∉ done := fun h => hjd (List.mem_cons_of_mem _ h)
        have hje : j ≠ e := fun h => hjd (h ▸ List.mem_cons_self)
        obtain ⟨w1, w2⟩ := hD.und j hj hjd'
        have hnk : c0 + j ∉ ks := by
          intro hk
          obtain ⟨i, hi, -, he⟩ := (hksmem _).1 hk
          have : j = i := by omega
          exact hjd' (this ▸ (k7 i hi).1)
        refine ⟨?_, fun hjf q dd hq hqd => ?_⟩
        · simp only [merge, hnk, if_false]
          refine Classical.byContradiction fun hne => ?_
          have := d.dom (c0 + j) (by have := hD.cle; omega) hne
          unfold hide at this
          rw [if_neg hnk] at this
          exact this w1
        · obtain ⟨q', hq', -, h2⟩ := solo_spec (hD.fro j hjf)
          rw [hq] at hq'; cases hq'
          obtain ⟨p', hp', -, h3⟩ := h2 dd hqd e hen
          rw [hp] at hp'; cases hp'
          have hne : o.dst ≠ some dd := h3 (Ne.symm hje)
          cases hdd : o.dst with
          | none => exact w2 hjf q dd hq hqd
          | some d2 =>
            have : dd ≠ d2 := fun h => hne (by rw [hdd, h])
            simp only [updO, Tm.upd, this, if_false]
            exact w2 hjf q dd hq hqd
    · refine ⟨hx2.le, hx2.os, hx2.tape, hx2.output, hx2.size, hx2.keep, fun id b t h1 h2 => ?_⟩
      rcases hless id with h0 | h0
      · rw [h0] at h1; cases h1
      · rw [h0] at h1; exact hx2.mine id b t h1 h2
    · intro id hid
      exact d.same id (by have := hD.cle; omega)
    · intro id hid hne
      have hno : ¬ ∃ j, Pend listed done j ∧ id = c0 + j := by rintro ⟨j, -, rfl⟩; omega
      have hnk : id ∉ ks := by
        intro hk
        obtain ⟨i, hi, -, he⟩ := (hksmem _).1 hk
        omega
      unfold HS at hne ⊢
      simp only [hpend'] at hne
      rw [if_neg hno] at hne ⊢
      simp only [merge, hnk, if_false] at hne
      have := d.dom id (by have := hD.cle; omega) hne
      unfold hide at this
      rwa [if_neg hnk] at this
  unfold wpOp
  simp only [ho]
  rw [hwr]
  unfold effP at hdw
  simp only [] at hdw hwt hev
  rw [← hwt] at hdw
  split at hdw
  · rename_i hw
    rw [if_pos hw]
    left
    rw [← oneP_congr (T' := TS io T0 listed done s) (fun x hx => (hev x hx).symm)] at hdw
    exact one_sound hS0 hop hdw fun v v' H' c' ρ' w' hk d => fin v v' H' c' ρ' w' hk d
  · rename_i hw
    rw [if_neg (by rw [hw]; exact Bool.false_ne_true)]
    exact fin undef undef _ s.c ρ w hdw ⟨undef_rel ρ, hS0.rep, hD.frs, Nat.le_refl _, fun _ _ h => h, fun _ _ => rfl, Ext.refl _ _ _⟩
end
end Go.Eng
