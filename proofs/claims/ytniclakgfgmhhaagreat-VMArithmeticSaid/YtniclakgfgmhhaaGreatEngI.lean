/-
  THE ENGINE, part I: a region that draws its order. A plan tells one order: what only reads, reckons or makes memory as early as it may, what writes or calls in its own row. Behind each of the latter, what might still come is asked again. Then every order ends in the same state.
-/
import Derived.Test.YtniclakgfgmhhaaGreatEngH
set_option linter.unusedVariables false
set_option linter.unusedSimpArgs false
namespace Go.Eng

structure DReg where
  ops : List IOper
  bef : List (List Nat)
  plan : List (Nat × Option (List Nat))

def freeV (s : St) (id : Nat) (o : IOper) : Option (Value × Option Blk) :=
  match wantG s.T o.guard with
  | false => some (undef, none)
  | true => match o.op with
    | .pur f => match fev s.H (Opd.ev s.T) f with
      | some v => some (v, none)
      | none => none
    | .new f => match aev (Opd.ev s.T) f with
      | some (k, b) => some (mkv id k, some b)
      | none => none
    | _ => none

def updB (H : Hp) (id : Nat) : Option Blk → Hp
  | some b => H.upd id b
  | none => H

def isNew (io : List IOper) (j : Nat) : Bool :=
  match io[j]? with
  | some ⟨_, .new _, _⟩ => true
  | _ => false

def hide (H : Hp) (ks : List Nat) : Hp := fun id => if id ∈ ks then none else H id
def merge (ks : List Nat) (H H' : Hp) : Hp := fun id => if id ∈ ks then H id else H' id

def effP (P : Program) (s : St) (o : IOper) (K : Value → Hp → Nat → Prop) : Prop :=
  match wantG s.T o.guard with
  | true => oneP P s K o.op
  | false => K undef s.H s.c

/-- Asked again, the operation gives what it gave. -/
def Again (io : List IOper) (c0 : Nat) (s : St) (j : Nat) : Prop :=
  match io[j]? with
  | some o => match freeV s (c0 + j) o with
    | some (v, ob) => (∀ d, o.dst = some d → s.T d = v) ∧ s.H (c0 + j) = ob
    | none => False
  | none => False

def AgainL (io : List IOper) (c0 : Nat) (s : St) : List Nat → Prop
  | [] => True
  | j :: r => Again io c0 s j ∧ AgainL io c0 s r

def dwp (P : Program) (Q : St → Prop) (io : List IOper) (c0 : Nat) : List (Nat × Option (List Nat)) → St → Prop
  | [], s => Q s
  | (i, none) :: r, s => match io[i]? with
    | some o => match freeV s (c0 + i) o with
      | some (v, ob) => dwp P Q io c0 r ⟨updO s.T o.dst v, updB s.H (c0 + i) ob, s.c⟩
      | none => False
    | none => False
  | (i, some pend) :: r, s => match io[i]? with
    | some o => effP P ⟨s.T, hide s.H ((pend.filter (isNew io)).map (c0 + ·)), s.c⟩ o fun v H' c' =>
        AgainL io c0 ⟨updO s.T o.dst v, merge ((pend.filter (isNew io)).map (c0 + ·)) s.H H', c'⟩ pend ∧
        dwp P Q io c0 r ⟨updO s.T o.dst v, merge ((pend.filter (isNew io)).map (c0 + ·)) s.H H', c'⟩
    | none => False

/-! ### the checks of a plan -/
def Opd.tmp? : Opd → Option Nat
  | .t n => some n
  | _ => none

/-- The slots that an operation looks at. -/
def IOper.sees (o : IOper) : List Nat :=
  (match o.guard with
   | some (t, _) => [t]
   | none => []) ++ o.op.opds.filterMap Opd.tmp?

def befAt (bef : List (List Nat)) (i : Nat) : List Nat := bef.getD i []

def predsIn (ops : Array Oper) (i : Nat) (done : List Nat) : Bool :=
  match ops[i]? with
  | some o => o.after.all fun e => !Region.binds .any e || done.contains e.on
  | none => false

def befOk (ops : Array Oper) (bef : List (List Nat)) (n : Nat) : Bool :=
  (List.range n).all fun i => (befAt bef i).all fun j => match ops[i]? with
    | some o => o.after.any fun e => Region.binds .any e && Nat.ble (e.on + 1) i && (e.on == j || (befAt bef e.on).contains j)
    | none => false

def kFlat : Opd → Bool
  | .k c => flat c
  | _ => true

/-- An operation that may come early: it reads, reckons or makes; its slot is its own, and who looks at it waits for it. -/
def solo (io : List IOper) (bef : List (List Nat)) (n i : Nat) : Bool :=
  match io[i]? with
  | some o => ((match o.op with | .pur _ | .new _ => true | _ => false) && o.op.opds.all kFlat) && (match o.dst with
    | some d => (List.range n).all fun j => match io[j]? with
      | some p => (!p.sees.contains d || (befAt bef j).contains i) && (j == i || p.dst != some d)
      | none => false
    | none => true)
  | none => false

def frees (plan : List (Nat × Option (List Nat))) : List Nat := (plan.filter fun p => p.2.isNone).map (·.1)

def chk (ops : Array Oper) (io : List IOper) (bef : List (List Nat)) (n : Nat) (fr : List Nat) : List Nat → List (Nat × Option (List Nat)) → Bool
  | _, [] => true
  | done, (i, none) :: r => predsIn ops i done && !done.contains i && Nat.ble (i + 1) n && solo io bef n i && fr.contains i && chk ops io bef n fr (i :: done) r
  | done, (i, some pend) :: r => predsIn ops i done && !done.contains i && Nat.ble (i + 1) n && !fr.contains i &&
    (done.all fun j => (befAt bef i).contains j || (fr.contains j && pend.contains j)) &&
    (fr.all fun j => done.contains j || !predsIn ops j done) &&
    (pend.all fun j => done.contains j && fr.contains j) &&
    chk ops io bef n fr (i :: done) r

def DReg.ok (ops : Array Oper) (d : DReg) : Bool :=
  let n := ops.size
  let fr := frees d.plan
  befOk ops d.bef n && ((List.range n).all fun i => (d.plan.map (·.1)).contains i) &&
    (ops.toList.zipIdx.all fun p => p.1.after.all fun e => !Region.binds .any e || Nat.ble (e.on + 1) p.2) && chk ops d.ops d.bef n fr [] d.plan


/-! ### the theorem -/
section
open Classical
variable {P : Program} {ops : Array Oper} {io : List IOper} {bef : List (List Nat)} {n : Nat} {fr : List Nat} {c0 N : Nat} {T0 : Tm}

def Lst (listed : Array Bool) (j : Nat) : Prop := listed.getD j false = true
/-- Done by the plan, not yet come up. -/
def Pend (listed : Array Bool) (done : List Nat) (j : Nat) : Prop := j ∈ done ∧ ¬ Lst listed j

noncomputable def TS (io : List IOper) (T0 : Tm) (listed : Array Bool) (done : List Nat) (s : St) : Tm := fun t =>
  if ∃ j, Pend listed done j ∧ ∃ o, io[j]? = some o ∧ o.dst = some t then T0 t else s.T t
noncomputable def HS (c0 : Nat) (listed : Array Bool) (done : List Nat) (s : St) : Hp := fun id =>
  if ∃ j, Pend listed done j ∧ id = c0 + j then none else s.H id

/-- All that an operation waits for lies in X. -/
def Waits (ops : Array Oper) (X : Nat → Prop) (i : Nat) : Prop := ∀ o e, ops[i]? = some o → e ∈ o.after → Region.binds .any e = true → X e.on

theorem waits_of_predsIn {i : Nat} {done : List Nat} (h : predsIn ops i done = true) : Waits ops (· ∈ done) i ∧ ∃ o, ops[i]? = some o := by
  unfold predsIn at h
  split at h
  · rename_i o ho
    refine ⟨fun o' e ho' he hb => ?_, o, ho⟩
    rw [ho] at ho'; cases ho'
    rw [Array.all_eq_true'] at h
    have := h e he
    simpa [hb] using this
  · cases h

theorem predsIn_of_waits {i : Nat} {done : List Nat} (h : Waits ops (· ∈ done) i) {o : Oper} (ho : ops[i]? = some o) : predsIn ops i done = true := by
  unfold predsIn
  simp only [ho]
  rw [Array.all_eq_true']
  intro e he
  cases hb : Region.binds .any e with
  | false => simp
  | true => simpa using h o e ho he hb

/-- What is told as ahead of an operation lies in every set that is closed and holds all that it waits for. -/
theorem bef_in (hb : befOk ops bef n = true) {X : Nat → Prop} (hX : ∀ k, X k → Waits ops X k) : ∀ (i : Nat), i < n → Waits ops X i → ∀ j ∈ befAt bef i, X j := by
  intro i
  induction i using Nat.strongRecOn with
  | _ i ih =>
    intro hi hw j hj
    unfold befOk at hb
    rw [List.all_eq_true] at hb
    have h1 := hb i (List.mem_range.2 hi)
    rw [List.all_eq_true] at h1
    have h2 := h1 j hj
    split at h2
    · rename_i o ho
      rw [Array.any_eq_true'] at h2
      obtain ⟨e, he, h3⟩ := h2
      simp only [Bool.and_eq_true, Bool.or_eq_true, Nat.ble_eq, beq_iff_eq] at h3
      obtain ⟨⟨h4, h5⟩, h6⟩ := h3
      have hon := hw o e ho he h4
      rcases h6 with h6 | h6
      · exact h6 ▸ hon
      · exact ih e.on (by omega) (by omega) (hX _ hon) j (by simpa using h6)
    · cases h2

theorem bef_lt (hb : befOk ops bef n = true) {i j : Nat} (hi : i < n) (hj : j ∈ befAt bef i) : j < i := by
  induction i using Nat.strongRecOn generalizing j with
  | _ i ih =>
    unfold befOk at hb
    rw [List.all_eq_true] at hb
    have h1 := hb i (List.mem_range.2 hi)
    rw [List.all_eq_true] at h1
    have h2 := h1 j hj
    split at h2
    · rename_i o ho
      rw [Array.any_eq_true'] at h2
      obtain ⟨e, he, h3⟩ := h2
      simp only [Bool.and_eq_true, Bool.or_eq_true, Nat.ble_eq, beq_iff_eq] at h3
      obtain ⟨⟨h4, h5⟩, h6⟩ := h3
      rcases h6 with h6 | h6
      · omega
      · have := ih e.on (by omega) (by omega) (j := j) (by simpa using h6)
        omega
    · cases h2

/-- What holds between the plan's state and a frame and a world on the way. -/
structure DI (ops : Array Oper) (io : List IOper) (bef : List (List Nat)) (n : Nat) (fr : List Nat) (c0 N : Nat) (T0 : Tm) (listed : Array Bool) (done : List Nat) (rest : List (Nat × Option (List Nat))) (s : St)
    (ρ : Ren) (a : Act) (w : World) : Prop where
  lsz : listed.size = n
  ck : chk ops io bef n fr done rest = true
  cov : ∀ i, i < n → i ∈ done ∨ i ∈ rest.map (·.1)
  dlt : ∀ i ∈ done, i < n
  dcl : ∀ i ∈ done, Waits ops (· ∈ done) i
  lcl : ∀ i, Lst listed i → Waits ops (Lst listed) i
  lsub : ∀ i, Lst listed i → i ∈ done
  eff : ∀ i ∈ done, i ∉ fr → Lst listed i
  fro : ∀ i ∈ fr, solo io bef n i = true
  agn : ∀ j, Pend listed done j → Again io c0 s j
  tm : TRel ρ (TS io T0 listed done s) a
  rep : Rep ρ (HS c0 listed done s) w
  frs : ∀ id, s.c ≤ id → ρ id = none
  frp : ∀ j, j < n → ¬ Lst listed j → ρ (c0 + j) = none
  und : ∀ j, j < n → j ∉ done → s.H (c0 + j) = none ∧ (j ∈ fr → ∀ o d, io[j]? = some o → o.dst = some d → s.T d = T0 d)
  cle : c0 + n ≤ s.c
  sz : a.tmps.size = N
  dfr : a.defers = []

theorem lst_lt {listed : Array Bool} {j : Nat} (h : Lst listed j) : j < listed.size := by
  rcases Nat.lt_or_ge j listed.size with h' | h'
  · exact h'
  · simp [Lst, Array.getElem?_eq_none h'] at h

theorem lst_set {listed : Array Bool} {i j : Nat} (hi : i < listed.size) : Lst (listed.setIfInBounds i true) j ↔ j = i ∨ Lst listed j := by
  unfold Lst
  by_cases h : i = j
  · subst h; simp [hi]
  · rw [getD_set_ne false h]
    constructor
    · exact fun h' => .inr h'
    · rintro (rfl | h')
      · exact absurd rfl h
      · exact h'

theorem flat_top {c : Value} (h : flat c = true) : topId c = none := by
  unfold flat at h
  split at h
  · rfl
  · rfl
  · unfold scal at h
    split at h <;> first | rfl | (cases h; done)

theorem solo_spec {i : Nat} (h : solo io bef n i = true) : ∃ o, io[i]? = some o ∧ (∀ x ∈ o.op.opds, kFlat x = true) ∧
    ∀ d, o.dst = some d → ∀ j, j < n → ∃ p, io[j]? = some p ∧ (d ∈ p.sees → i ∈ befAt bef j) ∧ (j ≠ i → p.dst ≠ some d) := by
  unfold solo at h
  split at h
  · rename_i o ho
    rw [Bool.and_eq_true] at h
    obtain ⟨h1, h2⟩ := h
    refine ⟨o, ho, ?_, fun d hd j hj => ?_⟩
    · rw [Bool.and_eq_true] at h1
      exact List.all_eq_true.1 h1.2
    · rw [hd] at h2
      simp only [List.all_eq_true, List.mem_range] at h2
      have h3 := h2 j hj
      split at h3
      · rename_i p hp
        refine ⟨p, hp, fun hs => ?_, fun hne => ?_⟩
        · rw [Bool.and_eq_true] at h3
          have := h3.1
          simpa [hs] using this
        · rw [Bool.and_eq_true] at h3
          have := h3.2
          simp only [Bool.or_eq_true, beq_iff_eq, hne, false_or, bne_iff_ne] at this
          exact this
      · cases h3
  · cases h

/-- Slots that an operation sees, told by the same in two frames: it gives the same. -/
theorem ev_of_sees {o : IOper} {T T' : Tm} (h : ∀ t ∈ o.sees, T t = T' t) : (∀ x ∈ o.op.opds, x.ev T = x.ev T') ∧ wantG T o.guard = wantG T' o.guard := by
  constructor
  · intro x hx
    cases x with
    | t k => exact h k (by unfold IOper.sees; exact List.mem_append_right _ (List.mem_filterMap.2 ⟨.t k, hx, rfl⟩))
    | k v => rfl
    | f g => rfl
  · cases hg : o.guard with
    | none => rfl
    | some tb =>
      obtain ⟨t, b⟩ := tb
      have : T t = T' t := h t (by unfold IOper.sees; rw [hg]; simp)
      simp only [wantG, this]

theorem freeV_grow {s s' : St} {o : IOper} (ht : ∀ t ∈ o.sees, s.T t = s'.T t) (hH : ∀ id b, s.H id = some b → s'.H id = some b) {id : Nat} {r : Value × Option Blk} (h : freeV s id o = some r) : freeV s' id o = some r := by
  obtain ⟨h1, h2⟩ := ev_of_sees ht
  unfold freeV at h ⊢
  rw [← h2]
  split at h
  · exact h
  · split at h
    · rename_i f hf
      rw [hf] at h1
      split at h
      · rename_i v hv
        have h3 : fev s'.H (Opd.ev s'.T) f = some v := by
          refine fev_grow hH ?_
          rw [fev_congr (H := s.H) (H' := s.H) (e := Opd.ev s.T) (f := f) h1 (fun _ _ _ _ => rfl)]
          exact hv
        simp only [h3]; exact h
      · cases h
    · rename_i f hf
      rw [hf] at h1
      rw [aev_congr (f := f) h1]
      exact h
    · cases h

/-- A slot that is seen and may come stale is none that is still to come. -/
theorem sees_ts {listed : Array Bool} {done : List Nat} {rest : List (Nat × Option (List Nat))} {s : St} {ρ : Ren} {a : Act} {w : World} (hb : befOk ops bef n = true) (hD : DI ops io bef n fr c0 N T0 listed done rest s ρ a w)
    {j : Nat} (hj : j < n) (hw : Waits ops (Lst listed) j) {o : IOper} (ho : io[j]? = some o) : ∀ t ∈ o.sees, TS io T0 listed done s t = s.T t := by
  intro t ht
  unfold TS
  rw [if_neg]
  rintro ⟨i, ⟨hi, hnl⟩, p, hp, hd⟩
  have hfr : i ∈ fr := Classical.byContradiction fun hne => hnl (hD.eff i hi hne)
  obtain ⟨p', hp', -, hall⟩ := solo_spec (hD.fro i hfr)
  rw [hp] at hp'; cases hp'
  obtain ⟨q, hq, h1, -⟩ := hall t hd j hj
  rw [ho] at hq; cases hq
  exact hnl (bef_in hb hD.lcl j hj hw i (h1 ht))
end
end Go.Eng
