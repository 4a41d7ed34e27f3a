/-
  THE ENGINE, part H: an operation looks at its operands alone.
-/
import Derived.Test.YtniclakgfgmhhaaGreatEngG
set_option linter.unusedVariables false
set_option linter.unusedSimpArgs false
namespace Go.Eng

def FOp.opds : FOp → List Opd
  | .mv x | .ld _ _ x | .fad _ x | .fld _ _ _ x | .ext x _ | .nck x | .un _ x | .cvi _ x | .cvs x | .cvbs x | .len x | .lens x => [x]
  | .pick c a b => [c, a, b]
  | .iad _ x i | .iada _ _ x i | .idx x i | .bin _ x i | .eqb _ x i | .eqn _ _ x i | .eqa _ _ x i | .mn x i | .mx x i => [x, i]
  | .slc _ x lo hi | .sls x lo hi => x :: (lo.toList ++ hi.toList)
  | .mkf _ a c => a ++ c
  | .bld _ _ ps => ps.map (·.2)

def AOp.opds : AOp → List Opd
  | .box x => [x]
  | .bsl _ _ _ ps => ps.map (·.2)
  | .msl _ _ _ l c => [l, c]

def EOp.opds : EOp → List Opd
  | .st _ x v => [x, v]
  | .app _ _ s x | .apps s x => [s, x]

def IOp.opds : IOp → List Opd
  | .pur f => f.opds
  | .new f => f.opds
  | .eff f => f.opds
  | .call _ args => args
  | .callv x args => x :: args

def topId : Value → Option Nat
  | .pointer (some a) => some a.block
  | .slice (some a) _ 0 => some a.block
  | _ => none

theorem map_congr_opd {e e' : Opd → Value} {l : List Opd} (h : ∀ x ∈ l, e x = e' x) : l.map e = l.map e' := List.map_congr_left h
theorem map_congr_snd {e e' : Opd → Value} {l : List (Nat × Opd)} (h : ∀ x ∈ l.map (·.2), e x = e' x) : (l.map fun p => (p.1, e p.2)) = l.map fun p => (p.1, e' p.2) :=
  List.map_congr_left fun p hp => by rw [h p.2 (List.mem_map.2 ⟨p, hp, rfl⟩)]
theorem map_congr_opt {e e' : Opd → Value} {o : Option Opd} (h : ∀ x ∈ o.toList, e x = e' x) : o.map e = o.map e' := by
  cases o with
  | none => rfl
  | some x => simp [h x (by simp)]

theorem fev_congr {H H' : Hp} {e e' : Opd → Value} {f : FOp} (h : ∀ x ∈ f.opds, e x = e' x) (hH : ∀ x ∈ f.opds, ∀ id, topId (e x) = some id → H' id = H id) : fev H' e' f = fev H e f := by
  cases f with
  | mv x | fad _ x | fld _ _ _ x | ext x _ | nck x | un _ x | cvi _ x | cvs x | len x | lens x =>
    have h1 := h x (by simp [FOp.opds])
    simp only [fev, ← h1]
  | pick c a b =>
    have h1 := h c (by simp [FOp.opds]); have h2 := h a (by simp [FOp.opds]); have h3 := h b (by simp [FOp.opds])
    simp only [fev, ← h1, ← h2, ← h3]
  | iad _ x i | iada _ _ x i | idx x i | bin _ x i | eqb _ x i | eqn _ _ x i | eqa _ _ x i | mn x i | mx x i =>
    have h1 := h x (by simp [FOp.opds]); have h2 := h i (by simp [FOp.opds])
    simp only [fev, ← h1, ← h2]
  | ld n agg x =>
    have h1 := h x (by simp [FOp.opds])
    have h2 := hH x (by simp [FOp.opds])
    simp only [fev, ← h1]
    unfold ldv
    split
    · rename_i id off he
      rw [h2 id (by rw [he]; rfl)]
    · rfl
  | cvbs x =>
    have h1 := h x (by simp [FOp.opds])
    have h2 := hH x (by simp [FOp.opds])
    simp only [fev, ← h1]
    split
    · rfl
    · rfl
    · rename_i id o n he
      rw [h2 id (by rw [he]; rfl)]
    · rfl
  | slc sz x lo hi =>
    have h1 := h x (by simp [FOp.opds])
    have h2 := hH x (by simp [FOp.opds])
    have h3 : lo.map e = lo.map e' := map_congr_opt fun y hy => h y (by simp only [FOp.opds, List.mem_cons, List.mem_append]; exact .inr (.inl hy))
    have h4 : hi.map e = hi.map e' := map_congr_opt fun y hy => h y (by simp only [FOp.opds, List.mem_cons, List.mem_append]; exact .inr (.inr hy))
    simp only [fev, ← h1, ← h3, ← h4]
    unfold slcR
    split
    · rfl
    · rename_i id off n c he
      cases c with
      | zero => rw [h2 id (by rw [he]; rfl)]
      | succ c =>
        split <;> (try rfl)
        split <;> (try rfl)
        cases c <;> rfl
    · rfl
  | sls x lo hi =>
    have h1 := h x (by simp [FOp.opds])
    have h3 : lo.map e = lo.map e' := map_congr_opt fun y hy => h y (by simp only [FOp.opds, List.mem_cons, List.mem_append]; exact .inr (.inl hy))
    have h4 : hi.map e = hi.map e' := map_congr_opt fun y hy => h y (by simp only [FOp.opds, List.mem_cons, List.mem_append]; exact .inr (.inr hy))
    simp only [fev, ← h1, ← h3, ← h4]
  | mkf g a c =>
    have h1 : a.map e = a.map e' := map_congr_opd fun y hy => h y (by simp only [FOp.opds, List.mem_append]; exact .inl hy)
    have h2 : c.map e = c.map e' := map_congr_opd fun y hy => h y (by simp only [FOp.opds, List.mem_append]; exact .inr hy)
    simp only [fev, h1, h2]
  | bld z pl ps =>
    have h1 := map_congr_snd (l := ps) (e := e) (e' := e') (fun y hy => h y hy)
    simp only [fev, h1]

theorem aev_congr {e e' : Opd → Value} {f : AOp} (h : ∀ x ∈ f.opds, e x = e' x) : aev e' f = aev e f := by
  cases f with
  | box x => have h1 := h x (by simp [AOp.opds]); simp only [aev, ← h1]
  | bsl sz n z ps => have h1 := map_congr_snd (l := ps) (e := e) (e' := e') (fun y hy => h y hy); simp only [aev, h1]
  | msl _ _ _ l c => have h1 := h l (by simp [AOp.opds]); have h2 := h c (by simp [AOp.opds]); simp only [aev, ← h1, ← h2]

theorem eev_congr {H : Hp} {c : Nat} {e e' : Opd → Value} {f : EOp} (h : ∀ x ∈ f.opds, e x = e' x) : eev H c e' f = eev H c e f := by
  cases f with
  | st n x v => have h1 := h x (by simp [EOp.opds]); have h2 := h v (by simp [EOp.opds]); simp only [eev, ← h1, ← h2]
  | app _ _ s x | apps s x => have h1 := h s (by simp [EOp.opds]); have h2 := h x (by simp [EOp.opds]); simp only [eev, ← h1, ← h2]

theorem oneP_congr {P : Program} {T T' : Tm} {H : Hp} {c : Nat} {K : Value → Hp → Nat → Prop} {i : IOp} (h : ∀ x ∈ i.opds, x.ev T = x.ev T') : oneP P ⟨T', H, c⟩ K i = oneP P ⟨T, H, c⟩ K i := by
  cases i with
  | pur f => simp only [oneP, fev_congr (H := H) (H' := H) (f := f) h (fun _ _ _ _ => rfl)]
  | new f => simp only [oneP, aev_congr (f := f) h]
  | eff f => simp only [oneP, eev_congr (f := f) h]
  | call g args => simp only [oneP, map_congr_opd (l := args) h]
  | callv x args =>
    have h1 := h x (by simp [IOp.opds])
    have h2 : args.map (Opd.ev T) = args.map (Opd.ev T') := map_congr_opd (fun y hy => h y (by simp [IOp.opds, hy]))
    simp only [oneP, h1, h2]

/-- In a larger memory the same is read. -/
theorem fev_grow {H H' : Hp} (hH : ∀ id b, H id = some b → H' id = some b) {e : Opd → Value} {f : FOp} {v : Value} (h : fev H e f = some v) : fev H' e f = some v := by
  cases f with
  | ld n agg x =>
    simp only [fev] at h ⊢
    unfold ldv at h ⊢
    split at h
    · split at h
      · rename_i b hb; simp only [hH _ _ hb]; exact h
      · cases h
    · cases h
  | cvbs x =>
    simp only [fev] at h ⊢
    split at h
    · exact h
    · exact h
    · split at h
      · exact h
      · split at h
        · rename_i b hb; simp only [hH _ _ hb]; exact h
        · cases h
    · cases h
  | slc sz x lo hi =>
    simp only [fev] at h ⊢
    unfold slcR at h ⊢
    split at h
    · exact h
    · split at h
      · split at h
        · split at h
          · split at h
            · rename_i h0; rw [if_pos h0]; exact h
            · rename_i h0
              rw [if_neg h0]
              split at h
              · rename_i h1; rw [if_pos h1]; exact h
              · rename_i h1
                rw [if_neg h1]
                split at h
                · rename_i b hb; simp only [hH _ _ hb]; exact h
                · cases h
          · exact h
          · cases h
        · cases h
      · cases h
    · cases h
  | _ => exact h

theorem VRel.top {ρ : Ren} {x y : Value} (h : VRel ρ x y) {id : Nat} (ht : topId x = some id) : ∃ t, ρ id = some t := by
  cases h <;> simp only [topId, Option.some.injEq, reduceCtorEq] at ht
  · rename_i t h; subst ht; exact ⟨t, h⟩
  · rename_i t h _ _ _; subst ht; exact ⟨t, h⟩

end Go.Eng
