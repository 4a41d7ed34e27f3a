/-
  THE ENGINE, part W: rules for a walk by hand.
-/
import Derived.Test.YtniclakgfgmhhaaGreatEngS
set_option linter.unusedVariables false
set_option linter.unusedSimpArgs false
namespace Go.Eng
variable {P : Program}

theorem wpI_cond {N : Nat} {c : Opd} {x y : IC} {s : St} {Q : Exit → St → Prop} : wpI P N (.cond c x y) s Q ↔ ∃ b, c.ev s.T = .bool b ∧ (b = true → wpI P N x s Q) ∧ (b = false → wpI P N y s Q) := by
  simp only [wpI]
  constructor
  · intro h
    split at h
    · rename_i e; exact ⟨true, e, fun _ => h, fun e => (by cases e)⟩
    · rename_i e; exact ⟨false, e, fun e => (by cases e), fun _ => h⟩
    · exact h.elim
  · rintro ⟨b, e, h1, h2⟩
    rw [e]
    cases b with
    | true => exact h1 rfl
    | false => exact h2 rfl

theorem wpI_skip {N : Nat} {s : St} {Q : Exit → St → Prop} : wpI P N .skip s Q = Q .normal s := propext Iff.rfl
theorem wpI_reg {N : Nat} {ops : List IOper} {s : St} {Q : Exit → St → Prop} : wpI P N (.reg ops) s Q = rwp P (Q .normal) ops s := propext Iff.rfl
theorem wpI_seq {N : Nat} {x y : IC} {s : St} {Q : Exit → St → Prop} : wpI P N (.seq x y) s Q = wpI P N x s (thenS (fun s' => wpI P N y s' Q) Q) := propext Iff.rfl
theorem wpI_blk {N i : Nat} {x : IC} {s : St} {Q : Exit → St → Prop} : wpI P N (.blk i x) s Q = wpI P N x s (blkS i Q) := propext Iff.rfl
theorem wpI_exit {N i : Nat} {s : St} {Q : Exit → St → Prop} : wpI P N (.exit i) s Q = Q (.exit i) s := propext Iff.rfl
theorem wpI_ret {N : Nat} {s : St} {Q : Exit → St → Prop} : wpI P N .ret s Q = Q .ret s := propext Iff.rfl
theorem wpI_loop {N : Nat} {x : IC} {s : St} {Q : Exit → St → Prop} : wpI P N (.loop x) s Q = IW P N (.loop x) s Q := propext Iff.rfl
theorem upd_same (T : Tm) (d : Nat) (v : Value) : T.upd d v d = v := by simp [Tm.upd]
theorem upd_ne (T : Tm) (d j : Nat) (v : Value) (h : ¬ j = d) : T.upd d v j = T j := by simp [Tm.upd, h]
theorem then_n {next : St → Prop} {Q : Exit → St → Prop} {s : St} : thenS next Q .normal s = next s := propext Iff.rfl
theorem then_r {next : St → Prop} {Q : Exit → St → Prop} {s : St} : thenS next Q .ret s = Q .ret s := propext Iff.rfl
theorem then_e {next : St → Prop} {Q : Exit → St → Prop} {s : St} {i : Nat} : thenS next Q (.exit i) s = Q (.exit i) s := propext Iff.rfl
theorem blk_n {Q : Exit → St → Prop} {s : St} {i : Nat} : blkS i Q .normal s = Q .normal s := propext Iff.rfl
theorem blk_r {Q : Exit → St → Prop} {s : St} {i : Nat} : blkS i Q .ret s = Q .ret s := propext Iff.rfl
theorem blk_e {Q : Exit → St → Prop} {s : St} {i : Nat} : blkS i Q (.exit i) s = Q .normal s := if_pos rfl
theorem blk_ne {Q : Exit → St → Prop} {s : St} {i j : Nat} (h : ¬ j = i) : blkS i Q (.exit j) s = Q (.exit j) s := if_neg h
theorem ret_n {rs : List RV} {Q : Value → Hp → Nat → Prop} {s : St} {v : Value} (h : resV s rs = some v) : retQ rs Q .normal s = Q v s.H s.c := by simp only [retQ, h]
theorem ret_r1 {t : Nat} {Q : Value → Hp → Nat → Prop} {s : St} : retQ [.tmp t] Q .ret s = Q (s.T t) s.H s.c := propext Iff.rfl
theorem ret_n1 {t : Nat} {Q : Value → Hp → Nat → Prop} {s : St} : retQ [.tmp t] Q .normal s = Q (s.T t) s.H s.c := propext Iff.rfl
theorem ev_t {T : Tm} {n : Nat} : (Opd.t n).ev T = T n := rfl
theorem ev_k {T : Tm} {v : Value} : (Opd.k v).ev T = v := rfl
theorem ev_f {T : Tm} {n : Nat} : (Opd.f n).ev T = .func (.func n) #[] #[] := rfl
theorem arg0 {v : Value} {r : List Value} : argT (v :: r) 0 = v := rfl
theorem argS {v : Value} {r : List Value} {n : Nat} : argT (v :: r) (n + 1) = argT r n := rfl

theorem bin_eql (k : IntKind) (a b : Int) : binR .eql (.int k a) (.int k b) = some (.bool (a == b)) := by cases k <;> rfl
theorem bin_neq (k : IntKind) (a b : Int) : binR .neq (.int k a) (.int k b) = some (.bool (a != b)) := by cases k <;> rfl
theorem bin_lss (k : IntKind) (a b : Int) : binR .lss (.int k a) (.int k b) = some (.bool (decide (a < b))) := by cases k <;> rfl
theorem bin_leq (k : IntKind) (a b : Int) : binR .leq (.int k a) (.int k b) = some (.bool (decide (a ≤ b))) := by cases k <;> rfl
theorem bin_gtr (k : IntKind) (a b : Int) : binR .gtr (.int k a) (.int k b) = some (.bool (decide (a > b))) := by cases k <;> rfl
theorem bin_geq (k : IntKind) (a b : Int) : binR .geq (.int k a) (.int k b) = some (.bool (decide (a ≥ b))) := by cases k <;> rfl
theorem bin_add (k : IntKind) (a b : Int) : binR .add (.int k a) (.int k b) = some (.int k (k.wrap (a + b))) := by cases k <;> rfl
theorem bin_sub (k : IntKind) (a b : Int) : binR .sub (.int k a) (.int k b) = some (.int k (k.wrap (a - b))) := by cases k <;> rfl
theorem bin_mul (k : IntKind) (a b : Int) : binR .mul (.int k a) (.int k b) = some (.int k (k.wrap (a * b))) := by cases k <;> rfl
theorem bin_quo (k : IntKind) (a b : Int) (h : ¬ b = 0) : binR .quo (.int k a) (.int k b) = some (.int k (k.wrap (a.tdiv b))) := by cases k <;> exact if_neg h
theorem bin_rem (k : IntKind) (a b : Int) (h : ¬ b = 0) : binR .rem (.int k a) (.int k b) = some (.int k (a.tmod b)) := by cases k <;> exact if_neg h

theorem ex_bool {b : Bool} {p : Bool → Prop} : (∃ c, Value.bool b = .bool c ∧ p c) ↔ p b := by
  constructor
  · rintro ⟨c, e, h⟩; cases e; exact h
  · intro h; exact ⟨b, rfl, h⟩

/-! What 'simp' is not to look into: what comes later. -/
theorem AC_congr {f : Nat} {a a' : List Value} {H H' : Hp} {c c' : Nat} {Q : Value → Hp → Nat → Prop} (h1 : a = a') (h2 : H = H') (h3 : c = c') : AC P f a H c Q = AC P f a' H' c' Q := by rw [h1, h2, h3]
theorem wpI_congr {N : Nat} {ic : IC} {s s' : St} {Q : Exit → St → Prop} (h : s = s') : wpI P N ic s Q = wpI P N ic s' Q := by rw [h]
theorem rwp_congr {Q : St → Prop} {ops : List IOper} {s s' : St} (h : s = s') : rwp P Q ops s = rwp P Q ops s' := by rw [h]
theorem thenS_congr {next : St → Prop} {Q : Exit → St → Prop} {e : Exit} {s s' : St} (h : s = s') : thenS next Q e s = thenS next Q e s' := by rw [h]
theorem blkS_congr {i : Nat} {Q : Exit → St → Prop} {e : Exit} {s s' : St} (h : s = s') : blkS i Q e s = blkS i Q e s' := by rw [h]

theorem rwp_mono {Q Q' : St → Prop} (hq : ∀ s, Q s → Q' s) : ∀ (ops : List IOper) (s : St), rwp P Q ops s → rwp P Q' ops s
  | [], s, h => hq s h
  | o :: os, s, h => by
    simp only [rwp] at h ⊢
    split at h
    · exact oneP_mono (fun v H' c' h' => rwp_mono hq os _ h') h
    · exact rwp_mono hq os _ h
theorem dwp_mono {Q Q' : St → Prop} (hq : ∀ s, Q s → Q' s) {io : List IOper} {c0 : Nat} : ∀ (plan : List (Nat × Option (List Nat))) (s : St), dwp P Q io c0 plan s → dwp P Q' io c0 plan s
  | [], s, h => hq s h
  | (i, none) :: r, s, h => by
    simp only [dwp] at h ⊢
    split at h
    · split at h
      · exact dwp_mono hq r _ h
      · exact h.elim
    · exact h.elim
  | (i, some pend) :: r, s, h => by
    simp only [dwp] at h ⊢
    split at h
    · simp only [effP] at h ⊢
      split at h
      · exact oneP_mono (fun v H' c' h' => ⟨h'.1, dwp_mono hq r _ h'.2⟩) h
      · exact ⟨h.1, dwp_mono hq r _ h.2⟩
    · exact h.elim
theorem wpI_mono {N : Nat} : ∀ (ic : IC) (s : St) (Q Q' : Exit → St → Prop), (∀ e s', Q e s' → Q' e s') → wpI P N ic s Q → wpI P N ic s Q'
  | .skip, s, Q, Q', hq, h => hq _ _ h
  | .reg ops, s, Q, Q', hq, h => rwp_mono (fun s' h' => hq _ _ h') ops s h
  | .drw n d, s, Q, Q', hq, h => dwp_mono (fun s' h' => hq _ _ h') _ _ h
  | .seq x y, s, Q, Q', hq, h => wpI_mono x s _ _ (fun e s' h' => by
      cases e with
      | normal => exact wpI_mono y s' Q Q' hq h'
      | exit i => exact hq _ _ h'
      | ret => exact hq _ _ h'
      | panic p => exact hq _ _ h'
      | _ => exact hq _ _ h') h
  | .cond c x y, s, Q, Q', hq, h => by
    simp only [wpI] at h ⊢
    split at h
    · exact wpI_mono x s Q Q' hq h
    · exact wpI_mono y s Q Q' hq h
    · exact h.elim
  | .blk i x, s, Q, Q', hq, h => wpI_mono x s _ _ (fun e s' h' => by
      cases e with
      | exit j =>
        simp only [blkS] at h' ⊢
        split
        · rename_i e; rw [if_pos e] at h'; exact hq _ _ h'
        · rename_i e; rw [if_neg e] at h'; exact hq _ _ h'
      | _ => exact hq _ _ h') h
  | .loop x, s, Q, Q', hq, h => IW.mono h hq
  | .exit i, s, Q, Q', hq, h => hq _ _ h
  | .ret, s, Q, Q', hq, h => hq _ _ h
/-- What holds between two pieces of code, said. -/
theorem seq_mid {N : Nat} {x y : IC} {s : St} {Q : Exit → St → Prop} (mid : St → Prop) (hx : wpI P N x s (thenS mid Q)) (hy : ∀ s', mid s' → wpI P N y s' Q) : wpI P N (.seq x y) s Q :=
  wpI_mono x s _ _ (fun e s' h => by
    cases e with
    | normal => exact hy s' h
    | _ => exact h) hx

/-- **From nothing, at the top**: what the kit's rows ask. -/
theorem AC.top {f : Nat} {args : List Value} {Q : Value → Hp → Nat → Prop} (h : AC P f args (hpOf .nil) 0 Q) (w : World) (args' : Array Value) (ha : ARel (fun _ => none) args.toArray args') :
    Calls P f args' w fun e w' => ∃ v v' H' c' ρ', e = .returned v' ∧ Q v H' c' ∧ VRel ρ' v v' ∧ RowKit.Below w.heap.size w w' := by
  have he : hpOf .nil = fun _ => none := rfl
  refine (h.2 (fun _ => none) w args' ⟨fun id b hb => (by cases hb), fun i j bi bj ti tj hi => (by cases hi)⟩ (fun _ _ => rfl) ha).mono ?_
  rintro e w' ⟨v, v', H', c', ρ', e1, q, d⟩
  exact ⟨v, v', H', c', ρ', e1, q, d.val, d.ext.below (fun id b hb => by cases hb)⟩

/-- A call of a function that takes nothing and gives back true: run from nothing, it runs anywhere. -/
theorem AC.lone {f : Nat} (h : AC P f [] (hpOf .nil) 0 (fun v _ _ => v = .bool true)) (H : Hp) (c : Nat) : AC P f [] H c (fun v H' c' => v = .bool true ∧ H' = H ∧ c' = c) := by
  refine ⟨h.1, fun ρ w args' hR hfr hA => ?_⟩
  have hA' : ARel (fun _ => none) ([] : List Value).toArray args' := ⟨hA.1, fun i x y hx hy => by simp at hx⟩
  refine (h.2 (fun _ => none) w args' ⟨fun id b hb => (by cases hb), fun i j bi bj ti tj hi => (by cases hi)⟩ (fun _ _ => rfl) hA').mono ?_
  rintro e w' ⟨v, v', H1, c1, ρ1, e1, q, d⟩
  have hb := d.ext.below (fun id b hb => by cases hb)
  subst q
  have hv : v' = .bool true := by have := d.val; cases this; rfl
  subst hv
  obtain ⟨b1, b2, b3, b4, b5⟩ := hb
  refine ⟨_, _, H, c, ρ, e1, ⟨rfl, rfl, rfl⟩, ⟨.bool _, ⟨fun id b hb => ?_, hR.sep⟩, hfr, Nat.le_refl c, fun _ _ h => h, fun _ _ => rfl, ⟨fun _ _ h => h, b1, b2, b3, b4, fun k hk _ => b5 k hk, fun id b t h1 h2 => .inr ⟨id, b, t, h1, fun h => h, h2, rfl⟩⟩⟩⟩
  obtain ⟨t, ht, hbr⟩ := hR.blk id b hb
  exact ⟨t, ht, hbr.world (b5 _ hbr.lt)⟩
end Go.Eng
