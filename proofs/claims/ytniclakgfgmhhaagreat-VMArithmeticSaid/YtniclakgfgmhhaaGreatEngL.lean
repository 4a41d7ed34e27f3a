/-
  THE ENGINE, part L: a region that draws its order, by its plan; code and functions in the engine's own form.
-/
import Derived.Test.YtniclakgfgmhhaaGreatEngK
set_option linter.unusedVariables false
set_option linter.unusedSimpArgs false
namespace Go.Eng
section
open Classical
variable {P : Program} {ops : Array Oper} {io : List IOper} {bef : List (List Nat)} {n : Nat} {fr : List Nat} {c0 N : Nat} {T0 : Tm}

theorem chk_later : ∀ (r : List (Nat × Option (List Nat))) (done : List Nat), chk ops io bef n fr done r = true → ∀ i, i ∈ r.map (·.1) → i ∉ fr → ∀ e ∈ done, e ∉ fr → e ∈ befAt bef i
  | [], _, _, i, hi, _, e, _, _ => by cases hi
  | (i0, none) :: r, done, h, i, hi, hif, e, he, hef => by
    simp only [chk, Bool.and_eq_true, List.contains_iff_mem, List.contains_eq_mem, decide_eq_true_eq] at h
    simp only [List.map_cons] at hi
    cases hi with
    | head => exact absurd h.1.2 hif
    | tail _ hi => exact chk_later r _ h.2 i hi hif e (List.mem_cons_of_mem _ he) hef
  | (i0, some pend) :: r, done, h, i, hi, hif, e, he, hef => by
    simp only [chk, Bool.and_eq_true, Bool.not_eq_true', List.all_eq_true, Bool.or_eq_true, List.contains_iff_mem, List.contains_eq_mem, decide_eq_false_iff_not, decide_eq_true_eq] at h
    simp only [List.map_cons] at hi
    cases hi with
    | head =>
      rcases h.1.1.1.2 e he with h1 | h1
      · exact h1
      · exact absurd h1.1 hef
    | tail _ hi => exact chk_later r _ h.2 i hi hif e (List.mem_cons_of_mem _ he) hef

theorem chk_frees : ∀ (r : List (Nat × Option (List Nat))) (done : List Nat), chk ops io bef n fr done r = true → ∀ i ∈ frees r, solo io bef n i = true
  | [], _, _, i, hi => by simp [frees] at hi
  | (i0, none) :: r, done, h, i, hi => by
    simp only [chk, Bool.and_eq_true] at h
    simp only [frees, List.filter_cons, Option.isNone_none, if_true, List.map_cons] at hi
    cases hi with
    | head => exact h.1.1.2
    | tail _ hi => exact chk_frees r _ h.2 i hi
  | (i0, some pend) :: r, done, h, i, hi => by
    simp only [chk, Bool.and_eq_true] at h
    simp only [frees, List.filter_cons, Option.isNone_some, Bool.false_eq_true, if_false] at hi
    exact chk_frees r _ h.2 i hi

theorem count_set {listed : Array Bool} {i : Nat} (hi : i < listed.size) (hl : ¬ Lst listed i) {k : Nat} (h : listed.toList.count false = k + 1) : (listed.setIfInBounds i true).toList.count false = k := by
  have hf : listed[i] = false := by
    unfold Lst at hl
    rw [Array.getD_eq_getD_getElem?, Array.getElem?_eq_getElem hi] at hl
    simpa using hl
  rw [Array.toList_setIfInBounds, List.count_set (by simpa using hi)]
  rw [h]
  simp only [Array.getElem_toList, hf]
  simp

theorem all_listed {listed : Array Bool} (h : listed.toList.count false = 0) {i : Nat} (hi : i < listed.size) : Lst listed i := by
  rw [List.count_eq_zero] at h
  unfold Lst
  rw [Array.getD_eq_getD_getElem?, Array.getElem?_eq_getElem hi]
  cases hb : listed[i] with
  | true => rfl
  | false => exact absurd (by rw [← hb]; exact Array.getElem_mem_toList hi) h

variable {rest : List (Nat × Option (List Nat))} {done : List Nat} {listed : Array Bool} {s : St} {ρ : Ren} {a : Act} {w : World}

theorem DI.all (hD : DI ops io bef n fr c0 N T0 listed done rest s ρ a w) (hh : rest = [] ∨ ∃ e pend r, rest = (e, some pend) :: r) (hall : ∀ i, i < n → Lst listed i) :
    rest = [] ∧ Sim N ρ s a w ∧ HS c0 listed done s = s.H := by
  have hno : ∀ j, ¬ Pend listed done j := fun j hj => hj.2 (hall j (hD.dlt j hj.1))
  have hts : TS io T0 listed done s = s.T := by funext t; unfold TS; rw [if_neg]; rintro ⟨j, hj, -⟩; exact hno j hj
  have hhs : HS c0 listed done s = s.H := by funext t; unfold HS; rw [if_neg]; rintro ⟨j, hj, -⟩; exact hno j hj
  refine ⟨?_, ⟨by rw [← hts]; exact hD.tm, by rw [← hhs]; exact hD.rep, hD.frs, hD.sz, hD.dfr⟩, hhs⟩
  rcases hh with h | ⟨e, pend, r, h⟩
  · exact h
  · have hck := hD.ck
    rw [h] at hck
    simp only [chk, Bool.and_eq_true, Bool.not_eq_true', Nat.ble_eq, List.contains_iff_mem, List.contains_eq_mem, decide_eq_false_iff_not, decide_eq_true_eq] at hck
    exact absurd (hD.lsub e (hall e (by have := hck.1.1.1.1.1.2; omega))) hck.1.1.1.1.1.1.2

theorem drawn_any (hb : befOk ops bef n = true) (hn : n = ops.size) (hio : ∀ (i : Nat) (o : Oper), ops[i]? = some o → ∃ p, io[i]? = some p ∧ trO P N ops o = some p)
    (hlt : ∀ (i : Nat) (o : Oper), ops[i]? = some o → ∀ e ∈ o.after, Region.binds .any e = true → e.on < i) {Q' : St → Prop} {Q : Exit → Act → World → Prop} :
    ∀ (fuel : Nat) (listed : Array Bool) (done : List Nat) (rest : List (Nat × Option (List Nat))) (s : St) (ρ : Ren) (a : Act) (w : World), DI ops io bef n fr c0 N T0 listed done rest s ρ a w → dwp P Q' io c0 rest s →
      (rest = [] ∨ ∃ e pend r, rest = (e, some pend) :: r) → listed.toList.count false = fuel →
      (∀ ρ' s' a' w', Q' s' → Sim N ρ' s' a' w' → Ext ρ (HS c0 listed done s) w ρ' s'.H w' → (∀ id, id < c0 → ρ' id = ρ id) → s.c ≤ s'.c → (∀ id, id < c0 → s'.H id ≠ none → HS c0 listed done s id ≠ none) → Q .normal a' w') →
      wpAny P .any ops Q fuel listed a w := by
  intro fuel
  have over : ∀ (listed : Array Bool) (done : List Nat) (rest : List (Nat × Option (List Nat))) (s : St) (ρ : Ren) (a : Act) (w : World), DI ops io bef n fr c0 N T0 listed done rest s ρ a w → dwp P Q' io c0 rest s →
      (rest = [] ∨ ∃ e pend r, rest = (e, some pend) :: r) → (∀ i, i < n → Lst listed i) →
      (∀ ρ' s' a' w', Q' s' → Sim N ρ' s' a' w' → Ext ρ (HS c0 listed done s) w ρ' s'.H w' → (∀ id, id < c0 → ρ' id = ρ id) → s.c ≤ s'.c → (∀ id, id < c0 → s'.H id ≠ none → HS c0 listed done s id ≠ none) → Q .normal a' w') → Q .normal a w := by
    intro listed done rest s ρ a w hD hdw hh hall hq
    obtain ⟨rfl, hS, hhs⟩ := hD.all hh hall
    exact hq ρ s a w hdw hS (by rw [hhs]; exact Ext.refl _ _ _) (fun _ _ => rfl) (Nat.le_refl _) (fun id _ h => by rw [hhs]; exact h)
  have noready : ∀ (listed : Array Bool), listed.size = n → Region.ready .any ops listed = [] → ∀ i, i < n → Lst listed i := by
    intro listed hsz hr i
    induction i using Nat.strongRecOn with
    | _ i ih =>
      intro hi
      refine Classical.byContradiction fun hnl => ?_
      have ho : ops[i]? = some (ops[i]'(hn ▸ hi)) := by simp [hn ▸ hi]
      have : i ∈ Region.ready .any ops listed := by
        rw [mem_ready]
        refine ⟨?_, _, ho, fun e he hbd => ?_⟩
        · unfold Lst at hnl
          have hi' : i < listed.size := by omega
          rw [Array.getD_eq_getD_getElem?, Array.getElem?_eq_getElem hi'] at hnl ⊢
          simpa using hnl
        · have := hlt i _ ho e he hbd
          exact ih e.on this (by omega)
      rw [hr] at this
      cases this
  induction fuel with
  | zero =>
    intro listed done rest s ρ a w hD hdw hh hc hq
    have hall : ∀ i, i < n → Lst listed i := fun i hi => all_listed hc (hD.lsz ▸ hi)
    refine ⟨?_, over listed done rest s ρ a w hD hdw hh hall hq⟩
    cases hr : Region.ready .any ops listed with
    | nil => rfl
    | cons x xs =>
      have hx : x ∈ Region.ready .any ops listed := by rw [hr]; exact List.mem_cons_self
      rw [mem_ready] at hx
      obtain ⟨h1, o, ho, -⟩ := hx
      have hxn : x < n := hn ▸ (Array.getElem?_eq_some_iff.1 ho).1
      have h2 := hall x hxn
      have hi' : x < listed.size := by have := hD.lsz; omega
      unfold Lst at h2
      rw [Array.getD_eq_getD_getElem?, Array.getElem?_eq_getElem hi'] at h1 h2
      simp at h1 h2
      rw [h1] at h2; cases h2
  | succ fuel ih =>
    intro listed done rest s ρ a w hD hdw hh hc hq
    refine ⟨fun hr => over listed done rest s ρ a w hD hdw hh (noready listed hD.lsz hr) hq, fun i hi => ?_⟩
    rw [mem_ready] at hi
    obtain ⟨h1, o, ho, hw0⟩ := hi
    have hin : i < n := hn ▸ (Array.getElem?_eq_some_iff.1 ho).1
    have hls : i < listed.size := by have := hD.lsz; omega
    have hnl : ¬ Lst listed i := by
      unfold Lst
      rw [Array.getD_eq_getD_getElem?, Array.getElem?_eq_getElem hls] at h1 ⊢
      simp at h1 ⊢
      exact h1
    have hw : Waits ops (Lst listed) i := fun o' e he1 he2 he3 => by rw [ho] at he1; cases he1; exact hw0 e he2 he3
    by_cases hid : i ∈ done
    · refine free_step hb hn hio hD ⟨hid, hnl⟩ hw fun ρ' a' w' hD' hx hsame => ?_
      refine ih _ done rest s ρ' a' w' hD' hdw hh (count_set hls hnl hc) fun ρ2 s2 a2 w2 q2 hS2 hx2 hs2 hc2 hd2 => ?_
      refine hq ρ2 s2 a2 w2 q2 hS2 (hx.trans hx2) (fun id h => (hs2 id h).trans (hsame id h)) hc2 fun id h hne => ?_
      have := hd2 id h hne
      unfold HS at this ⊢
      rw [if_neg (by rintro ⟨j, -, rfl⟩; omega)] at this ⊢
      exact this
    · rcases hh with rfl | ⟨e, pend, r, rfl⟩
      · rcases hD.cov i hin with h | h
        · exact absurd h hid
        · cases h
      · have hck := hD.ck
        have hck2 := hck
        simp only [chk, Bool.and_eq_true, Bool.not_eq_true', Nat.ble_eq, List.all_eq_true, Bool.or_eq_true, List.contains_iff_mem, List.contains_eq_mem, decide_eq_false_iff_not, decide_eq_true_eq] at hck
        obtain ⟨⟨⟨⟨⟨⟨⟨k1, k2⟩, k3⟩, k4⟩, k5⟩, k6⟩, k7⟩, k8⟩ := hck
        have hie : i = e := by
          refine Classical.byContradiction fun hne => ?_
          have hir : i ∈ r.map (·.1) := by
            rcases hD.cov i hin with h | h
            · exact absurd h hid
            · simp only [List.map_cons] at h
              cases h with
              | head => exact absurd rfl hne
              | tail _ h => exact h
          by_cases hif : i ∈ fr
          · rcases k6 i hif with h | h
            · exact hid h
            · have : predsIn ops i done = true := predsIn_of_waits (fun o' e' g1 g2 g3 => hD.lsub _ (hw o' e' g1 g2 g3)) ho
              rw [this] at h; cases h
          · have := chk_later r (e :: done) k8 i hir hif e List.mem_cons_self k4
            exact k2 (hD.lsub e (bef_in hb hD.lcl i hin hw e this))
        subst hie
        refine eff_step hb hn hio hD hw hdw fun ρ' a' w' s' hD' hdw' hx hsame hcs hdom => ?_
        obtain ⟨done2, rest2, s2, hD2, hdw2, hh2, hc2, hhs2⟩ := adv hb Q' r _ s' hD' hdw'
        refine ih _ done2 rest2 s2 ρ' a' w' hD2 hdw2 hh2 (count_set hls hnl hc) fun ρ3 s3 a3 w3 q3 hS3 hx3 hs3 hc3 hd3 => ?_
        rw [hhs2] at hx3
        refine hq ρ3 s3 a3 w3 q3 hS3 (hx.trans hx3) (fun id h => (hs3 id h).trans (hsame id h)) (by omega) fun id h hne => ?_
        have := hd3 id h hne
        rw [hhs2] at this
        exact hdom id h this

theorem Rep.heap {H : Hp} {w' : World} (hR : Rep ρ H w) (h : w'.heap = w.heap) : Rep ρ H w' :=
  ⟨fun id b hb => let ⟨t, h1, h2⟩ := hR.blk id b hb; ⟨t, h1, h2.world (by rw [h])⟩, hR.sep⟩

theorem trL_get : ∀ {os : List Oper} {is : List IOper}, trL P N ops os = some is → ∀ (i : Nat) (o : Oper), os[i]? = some o → ∃ p, is[i]? = some p ∧ trO P N ops o = some p
  | [], is, h, i, o, ho => by cases ho
  | o0 :: os, is, h, i, o, ho => by
    simp only [trL] at h
    split at h
    · rename_i p is' hp his
      cases h
      cases i with
      | zero => cases ho; exact ⟨p, rfl, hp⟩
      | succ i => exact trL_get his i o (by simpa using ho)
    · cases h

/-- **A region that draws its order**: its plan, walked once. -/
theorem AWp.draw {id : Nat} {d : DReg} (hm : P.follows .mixedOrders = true) (htr : trL P N ops ops.toList = some d.ops) (hok : d.ok ops = true) {s : St} {Q : Exit → St → Prop}
    (h : dwp P (Q .normal) d.ops s.c d.plan ⟨s.T, s.H, s.c + ops.size⟩) : AWp P N (.region id ops true) s Q := by
  intro ρ a w hS
  unfold DReg.ok at hok
  simp only [Bool.and_eq_true, List.all_eq_true, List.mem_range, List.contains_iff_mem, List.contains_eq_mem, decide_eq_true_eq] at hok
  obtain ⟨⟨⟨o1, o2⟩, o3⟩, o4⟩ := hok
  have hio : ∀ (i : Nat) (o : Oper), ops[i]? = some o → ∃ p, d.ops[i]? = some p ∧ trO P N ops o = some p := fun i o ho => trL_get htr i o (by simpa using ho)
  have hlt : ∀ (i : Nat) (o : Oper), ops[i]? = some o → ∀ e ∈ o.after, Region.binds .any e = true → e.on < i := by
    intro i o ho e he hb
    have hmem : (o, i) ∈ ops.toList.zipIdx := by
      rw [List.mem_zipIdx_iff_getElem?]
      simpa using ho
    have h1 := o3 (o, i) hmem
    rw [Array.all_eq_true'] at h1
    have h2 := h1 e he
    simp only [hb, Bool.not_true, Bool.false_or, Nat.ble_eq] at h2
    omega
  let w1 : World := { w with drawn := w.drawn + 1 }
  have hR1 : Rep ρ s.H w1 := hS.rep.heap rfl
  have hnone : ∀ j, s.H (s.c + j) = none := by
    intro j
    cases hc : s.H (s.c + j) with
    | none => rfl
    | some b =>
      obtain ⟨t, h1, -⟩ := hS.rep.blk _ b hc
      rw [hS.fresh _ (Nat.le_add_right _ _)] at h1
      cases h1
  have hl0 : ∀ j, ¬ Lst (Array.replicate ops.size false) j := by
    intro j hj
    have := lst_lt hj
    unfold Lst at hj
    rw [Array.getD_eq_getD_getElem?, Array.getElem?_eq_getElem this] at hj
    simp at hj
  have hp0 : ∀ j, ¬ Pend (Array.replicate ops.size false) [] j := fun j hj => by cases hj.1
  have hD0 : DI ops d.ops d.bef ops.size (frees d.plan) s.c N s.T (Array.replicate ops.size false) [] d.plan ⟨s.T, s.H, s.c + ops.size⟩ ρ a w1 := by
    refine ⟨by simp, o4, fun i hi => .inr (o2 i hi), by simp, by simp, fun i hi => absurd hi (hl0 i), fun i hi => absurd hi (hl0 i), by simp, fun i hi => chk_frees _ _ o4 i hi, fun j hj => absurd hj (hp0 j), ?_, ?_, fun id hid => hS.fresh id (by simp only [] at hid; omega),
      fun j hj _ => hS.fresh _ (Nat.le_add_right _ _), fun j hj _ => ⟨hnone j, fun _ _ _ _ _ => rfl⟩, Nat.le_refl _, hS.size, hS.dfr⟩
    · have : TS d.ops s.T (Array.replicate ops.size false) [] ⟨s.T, s.H, s.c + ops.size⟩ = s.T := by
        funext t; unfold TS; rw [if_neg]; rintro ⟨j, hj, -⟩; exact hp0 j hj
      rw [this]; exact hS.tm
    · have : HS s.c (Array.replicate ops.size false) [] ⟨s.T, s.H, s.c + ops.size⟩ = s.H := by
        funext t; unfold HS; rw [if_neg]; rintro ⟨j, hj, -⟩; exact hp0 j hj
      rw [this]; exact hR1
  have hHS0 : HS s.c (Array.replicate ops.size false) [] ⟨s.T, s.H, s.c + ops.size⟩ = s.H := by
    funext t; unfold HS; rw [if_neg]; rintro ⟨j, hj, -⟩; exact hp0 j hj
  obtain ⟨done1, rest1, s1, hD1, hdw1, hh1, hc1, hhs1⟩ := adv o1 (Q .normal) d.plan [] _ hD0 h
  refine wp_region_any hm ?_
  refine drawn_any o1 rfl hio hlt ops.size _ done1 rest1 s1 ρ a w1 hD1 hdw1 hh1 (by simp) fun ρ' s' a' w' q hS' hx hsame hc hdom => ?_
  rw [hhs1, hHS0] at hx hdom
  have hx0 : Ext ρ s.H w ρ s.H w1 := ⟨Ren.le_refl _, rfl, rfl, rfl, Nat.le_refl _, fun _ _ _ => rfl, fun id b t h1 h3 => .inr ⟨id, b, t, h1, fun h => h, h3, rfl⟩⟩
  exact ⟨ρ', s', q, hS', ⟨by simp only [] at hc1; omega, hdom, hsame, hx0.trans hx⟩⟩
end
end Go.Eng
