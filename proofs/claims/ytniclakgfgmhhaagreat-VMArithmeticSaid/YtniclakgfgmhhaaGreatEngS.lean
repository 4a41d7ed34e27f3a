/-
  THE ENGINE, part S: moves within a region are left out: a slot of V is read through what was moved into it. 'optFn' does it; 'AC.runS' runs what it gives.
-/
import Derived.Test.YtniclakgfgmhhaaGreatEngR
set_option linter.unusedVariables false
set_option linter.unusedSimpArgs false
namespace Go.Eng

def FOp.mapO (s : Opd → Opd) : FOp → FOp
  | .mv x => .mv (s x)
  | .pick c a b => .pick (s c) (s a) (s b)
  | .ld n g x => .ld n g (s x)
  | .fad o x => .fad o (s x)
  | .iad z x i => .iad z (s x) (s i)
  | .iada l z x i => .iada l z (s x) (s i)
  | .idx x i => .idx (s x) (s i)
  | .fld o n g x => .fld o n g (s x)
  | .ext x i => .ext (s x) i
  | .nck x => .nck (s x)
  | .bin op x y => .bin op (s x) (s y)
  | .eqb n x y => .eqb n (s x) (s y)
  | .eqn n k x y => .eqn n k (s x) (s y)
  | .eqa n k x y => .eqa n k (s x) (s y)
  | .un op x => .un op (s x)
  | .cvi k x => .cvi k (s x)
  | .cvs x => .cvs (s x)
  | .cvbs x => .cvbs (s x)
  | .slc z x l h => .slc z (s x) (l.map s) (h.map s)
  | .sls x l h => .sls (s x) (l.map s) (h.map s)
  | .mkf f a c => .mkf f (a.map s) (c.map s)
  | .bld z p q => .bld z p (q.map fun r => (r.1, s r.2))
  | .len x => .len (s x)
  | .lens x => .lens (s x)
  | .mn x y => .mn (s x) (s y)
  | .mx x y => .mx (s x) (s y)
theorem fev_map (H : Hp) (e : Opd → Value) (s : Opd → Opd) (f : FOp) : fev H e (f.mapO s) = fev H (fun x => e (s x)) f := by
  cases f with
  | slc z x l h => simp only [FOp.mapO, fev, Option.map_map]; rfl
  | sls x l h => simp only [FOp.mapO, fev, Option.map_map]; rfl
  | mkf f a c => simp only [FOp.mapO, fev, List.map_map]; rfl
  | bld z p q => simp only [FOp.mapO, fev, List.map_map]; rfl
  | _ => rfl
def AOp.mapO (s : Opd → Opd) : AOp → AOp
  | .box x => .box (s x)
  | .bsl z n y ps => .bsl z n y (ps.map fun r => (r.1, s r.2))
  | .msl z b y l c => .msl z b y (s l) (s c)
theorem aev_map (e : Opd → Value) (s : Opd → Opd) (f : AOp) : aev e (f.mapO s) = aev (fun x => e (s x)) f := by
  cases f with
  | bsl z n y ps => simp only [AOp.mapO, aev, List.map_map]; rfl
  | _ => rfl
def EOp.mapO (s : Opd → Opd) : EOp → EOp
  | .st n x v => .st n (s x) (s v)
  | .app z b x y => .app z b (s x) (s y)
  | .apps x y => .apps (s x) (s y)
theorem eev_map (H : Hp) (c : Nat) (e : Opd → Value) (s : Opd → Opd) (f : EOp) : eev H c e (f.mapO s) = eev H c (fun x => e (s x)) f := by cases f <;> rfl
def IOp.mapO (s : Opd → Opd) : IOp → IOp
  | .pur f => .pur (f.mapO s)
  | .new f => .new (f.mapO s)
  | .eff f => .eff (f.mapO s)
  | .call f as => .call f (as.map s)
  | .callv x as => .callv (s x) (as.map s)

section
variable {P : Program}
theorem oneP_map {T T' : Tm} {H : Hp} {c : Nat} {K : Value → Hp → Nat → Prop} {i : IOp} {s : Opd → Opd} (h : ∀ x ∈ i.opds, x.ev T = (s x).ev T') : oneP P ⟨T', H, c⟩ K (i.mapO s) = oneP P ⟨T, H, c⟩ K i := by
  cases i with
  | pur f =>
    simp only [IOp.mapO, oneP, fev_map]
    rw [fev_congr (H := H) (H' := H) (f := f) (e := Opd.ev T) (e' := fun x => (s x).ev T') h (fun _ _ _ _ => rfl)]
  | new f =>
    simp only [IOp.mapO, oneP, aev_map]
    rw [aev_congr (f := f) (e := Opd.ev T) (e' := fun x => (s x).ev T') h]
  | eff f =>
    simp only [IOp.mapO, oneP, eev_map]
    rw [eev_congr (f := f) (e := Opd.ev T) (e' := fun x => (s x).ev T') h]
  | call f as =>
    have h1 : (as.map s).map (Opd.ev T') = as.map (Opd.ev T) := by rw [List.map_map]; exact (List.map_congr_left fun x hx => h x hx).symm
    simp only [IOp.mapO, oneP, h1]
  | callv x as =>
    have h1 : (as.map s).map (Opd.ev T') = as.map (Opd.ev T) := by rw [List.map_map]; exact (List.map_congr_left fun y hy => h y (List.mem_cons_of_mem _ hy)).symm
    have h2 := h x List.mem_cons_self
    simp only [IOp.mapO, oneP, h1, ← h2]

theorem oneP_mono {s : St} {K K' : Value → Hp → Nat → Prop} {i : IOp} (hk : ∀ v H' c', K v H' c' → K' v H' c') (h : oneP P s K i) : oneP P s K' i := by
  cases i with
  | pur f =>
    simp only [oneP] at h ⊢
    split at h
    · exact hk _ _ _ h
    · exact h.elim
  | new f =>
    simp only [oneP] at h ⊢
    split at h
    · exact hk _ _ _ h
    · exact h.elim
  | eff f =>
    simp only [oneP] at h ⊢
    split at h
    · exact hk _ _ _ h
    · exact h.elim
  | call f as => exact AC.mono h hk
  | callv x as =>
    simp only [oneP] at h ⊢
    split at h
    · exact AC.mono h hk
    · exact h.elim

/-! ### the pass -/
def okO (V : Nat) : Opd → Bool
  | .t t => !Nat.testBit V t
  | _ => true
def lk : List (Nat × Opd) → Nat → Opd
  | [], t => .t t
  | (d, x) :: r, t => match Nat.beq d t with
    | true => x
    | false => lk r t
def sb (V : Nat) (σ : List (Nat × Opd)) : Opd → Opd
  | .t t => match Nat.testBit V t with
    | true => lk σ t
    | false => .t t
  | x => x
def isT (d : Nat) : Opd → Bool
  | .t t => Nat.beq t d
  | _ => false
def killO : Option Nat → List (Nat × Opd) → List (Nat × Opd)
  | none, σ => σ
  | some d, σ => σ.filter fun p => !isT d p.2
def sbG (V : Nat) (σ : List (Nat × Opd)) : Option (Nat × Bool) → Option (Option (Nat × Bool))
  | none => some none
  | some (t, b) => match sb V σ (.t t) with
    | .t t' => match Nat.testBit V t' with
      | true => none
      | false => some (some (t', b))
    | _ => none
def okD (V : Nat) : Option Nat → Bool
  | none => true
  | some d => !Nat.testBit V d
def isMv (V : Nat) : IOper → Option (Nat × Opd)
  | ⟨some d, .pur (.mv x), none⟩ => match Nat.testBit V d with
    | true => some (d, x)
    | false => none
  | _ => none

def optR (V : Nat) : List IOper → List (Nat × Opd) → Option (List IOper)
  | [], _ => some []
  | o :: os, σ => match isMv V o with
    | some (d, x) => match okO V (sb V σ x) with
      | true => optR V os ((d, sb V σ x) :: σ.filter fun p => !Nat.beq p.1 d)
      | false => none
    | none => match o.op.opds.all (fun x => okO V (sb V σ x)), okD V o.dst, sbG V σ o.guard with
      | true, true, some g => match optR V os (killO o.dst σ) with
        | some r => some (⟨o.dst, o.op.mapO (sb V σ), g⟩ :: r)
        | none => none
      | _, _, _ => none

def okP (V : Nat) (o : IOper) : Bool :=
  o.op.opds.all (okO V) && okD V o.dst && (match o.guard with
    | none => true
    | some (t, _) => !Nat.testBit V t)

def optC (V : Nat) : IC → Option IC
  | .skip => some .skip
  | .reg ops => match optR V ops [] with
    | some r => some (.reg r)
    | none => none
  | .drw n d => match d.ops.all (okP V) with
    | true => some (.drw n d)
    | false => none
  | .seq x y => match optC V x, optC V y with
    | some a, some b => some (.seq a b)
    | _, _ => none
  | .cond c x y => match okO V c, optC V x, optC V y with
    | true, some a, some b => some (.cond c a b)
    | _, _, _ => none
  | .blk id x => match optC V x with
    | some a => some (.blk id a)
    | none => none
  | .loop x => match optC V x with
    | some a => some (.loop a)
    | none => none
  | .exit id => some (.exit id)
  | .ret => some .ret

def okRV (V : Nat) : RV → Bool
  | .tmp t => !Nat.testBit V t
  | .cell a _ _ => !Nat.testBit V a

def optFn (V : Nat) (i : IFn) : Option IFn :=
  match i.res.all (okRV V), optC V i.body with
  | true, some b => some ⟨i.n, b, i.res⟩
  | _, _ => none

/-! ### why it is right -/
def Agree (V : Nat) (T T' : Tm) : Prop := ∀ t, Nat.testBit V t = false → T t = T' t
def InvS (V : Nat) (σ : List (Nat × Opd)) (T T' : Tm) : Prop := ∀ p ∈ σ, Nat.testBit V p.1 = true ∧ okO V p.2 = true ∧ T p.1 = p.2.ev T'

theorem Agree.opd {V : Nat} {T T' : Tm} (h : Agree V T T') {x : Opd} (hx : okO V x = true) : x.ev T = x.ev T' := by
  cases x with
  | t t => simp only [okO, Bool.not_eq_true'] at hx; exact h t hx
  | _ => rfl

theorem lk_ev {V : Nat} {T T' : Tm} : ∀ (σ : List (Nat × Opd)), InvS V σ T T' → ∀ t, Nat.testBit V t = true → okO V (lk σ t) = true → T t = (lk σ t).ev T'
  | [], h, t, ht, ho => by simp only [lk, okO, ht, Bool.not_true] at ho; cases ho
  | (d, x) :: r, h, t, ht, ho => by
    simp only [lk] at ho ⊢
    cases hb : Nat.beq d t with
    | true =>
      rw [hb] at ho
      have := Nat.eq_of_beq_eq_true hb
      subst this
      exact (h (d, x) List.mem_cons_self).2.2
    | false =>
      rw [hb] at ho
      exact lk_ev r (fun p hp => h p (List.mem_cons_of_mem _ hp)) t ht ho

theorem sb_ev {V : Nat} {σ : List (Nat × Opd)} {T T' : Tm} (hA : Agree V T T') (hI : InvS V σ T T') {x : Opd} (hx : okO V (sb V σ x) = true) : x.ev T = (sb V σ x).ev T' := by
  cases x with
  | t t =>
    simp only [sb] at hx ⊢
    cases hv : Nat.testBit V t with
    | true => rw [hv] at hx; exact lk_ev σ hI t hv hx
    | false => exact hA t hv
  | _ => rfl

theorem Agree.updO {V : Nat} {T T' : Tm} (hA : Agree V T T') {d : Option Nat} (v : Value) : Agree V (updO T d v) (updO T' d v) := by
  cases d with
  | none => exact hA
  | some d =>
    intro t ht
    simp only [Go.Eng.updO, Tm.upd]
    split
    · rfl
    · exact hA t ht
theorem Agree.virt {V : Nat} {T T' : Tm} (hA : Agree V T T') {d : Nat} (hd : Nat.testBit V d = true) (v : Value) : Agree V (T.upd d v) T' := by
  intro t ht
  simp only [Tm.upd]
  rw [if_neg (fun e => by rw [e, hd] at ht; cases ht)]
  exact hA t ht

theorem InvS.kill {V : Nat} {σ : List (Nat × Opd)} {T T' : Tm} (hI : InvS V σ T T') {d : Option Nat} (hd : okD V d = true) (v : Value) : InvS V (killO d σ) (updO T d v) (updO T' d v) := by
  cases d with
  | none => exact hI
  | some d =>
    simp only [okD, Bool.not_eq_true'] at hd
    intro p hp
    simp only [killO, List.mem_filter, Bool.not_eq_true'] at hp
    obtain ⟨h1, h2, h3⟩ := hI p hp.1
    refine ⟨h1, h2, ?_⟩
    simp only [Go.Eng.updO, Tm.upd]
    rw [if_neg (fun e => by rw [e, hd] at h1; cases h1), h3]
    obtain ⟨q, x⟩ := p
    cases x with
    | t t =>
      have : t ≠ d := fun e => by have h := hp.2; simp only [isT, e, Nat.beq_refl] at h; cases h
      show T' t = T'.upd d v t
      simp only [Tm.upd, if_neg this]
    | _ => rfl

theorem isMv_inv {V : Nat} {o : IOper} {d : Nat} {x : Opd} (h : isMv V o = some (d, x)) : o = ⟨some d, .pur (.mv x), none⟩ ∧ Nat.testBit V d = true := by
  unfold isMv at h
  split at h
  · split at h
    · rename_i hv; cases h; exact ⟨rfl, hv⟩
    · cases h
  · cases h

theorem sbG_want {V : Nat} {σ : List (Nat × Opd)} {T T' : Tm} (hA : Agree V T T') (hI : InvS V σ T T') {g g' : Option (Nat × Bool)} (h : sbG V σ g = some g') : wantG T g = wantG T' g' := by
  cases g with
  | none => cases h; rfl
  | some p =>
    obtain ⟨t, b⟩ := p
    simp only [sbG] at h
    split at h
    · rename_i t' ht
      split at h
      · cases h
      · rename_i hv
        cases h
        have e := sb_ev hA hI (x := .t t) (by rw [ht]; simp [okO, hv])
        rw [ht] at e
        simp only [Opd.ev] at e
        simp only [wantG, e]
    · cases h

theorem optR_sound {V : Nat} {Q Q' : St → Prop} (hQ : ∀ T T' H c, Agree V T T' → Q' ⟨T', H, c⟩ → Q ⟨T, H, c⟩) : ∀ (ops : List IOper) (σ : List (Nat × Opd)) (r : List IOper), optR V ops σ = some r →
    ∀ T T' H c, Agree V T T' → InvS V σ T T' → rwp P Q' r ⟨T', H, c⟩ → rwp P Q ops ⟨T, H, c⟩
  | [], σ, r, h, T, T', H, c, hA, hI, hw => by
    simp only [optR, Option.some.injEq] at h
    subst h
    exact hQ _ _ _ _ hA hw
  | o :: os, σ, r, h, T, T', H, c, hA, hI, hw => by
    simp only [optR] at h
    split at h
    · rename_i d x hm
      obtain ⟨rfl, hd⟩ := isMv_inv hm
      split at h
      · rename_i hx
        simp only [rwp, wantG, oneP, fev, Go.Eng.updO]
        refine optR_sound hQ os _ r h _ T' H c (hA.virt hd _) (fun p hp => ?_) hw
        rcases List.mem_cons.1 hp with rfl | hp
        · exact ⟨hd, hx, by simp only [Tm.upd, if_pos]; exact sb_ev hA hI hx⟩
        · rw [List.mem_filter] at hp
          obtain ⟨h1, h2, h3⟩ := hI p hp.1
          refine ⟨h1, h2, ?_⟩
          have hne : p.1 ≠ d := fun e => by have h := hp.2; simp only [e, Nat.beq_refl] at h; cases h
          simp only [Tm.upd, if_neg hne]
          exact h3
      · cases h
    · split at h
      · rename_i g hall hdst hg
        split at h
        · rename_i r' hr
          cases h
          have hwant := sbG_want hA hI hg
          simp only [rwp] at hw ⊢
          rw [hwant]
          have ih := optR_sound hQ os (killO o.dst σ) r' hr
          split at hw
          · rename_i hg1
            rw [oneP_map (T := T) (T' := T') (fun x hx => sb_ev hA hI (List.all_eq_true.1 hall x hx))] at hw
            exact oneP_mono (fun v H' c' h' => ih _ _ H' c' (hA.updO v) (hI.kill hdst v) h') hw
          · rename_i hg1
            exact ih _ _ H c (hA.updO undef) (hI.kill hdst undef) hw
        · cases h
      · cases h

theorem okP_sees {V : Nat} {o : IOper} (h : okP V o = true) {T T' : Tm} (hA : Agree V T T') : True ∧ (∀ x ∈ o.op.opds, x.ev T = x.ev T') ∧ wantG T o.guard = wantG T' o.guard ∧ okD V o.dst = true := by
  simp only [okP, Bool.and_eq_true, List.all_eq_true] at h
  obtain ⟨⟨h1, h2⟩, h3⟩ := h
  have hg : ∀ t b, o.guard = some (t, b) → T t = T' t := by
    intro t b e
    rw [e] at h3
    simp only [Bool.not_eq_true'] at h3
    exact hA t h3
  have ho : ∀ x ∈ o.op.opds, x.ev T = x.ev T' := fun x hx => hA.opd (h1 x hx)
  refine ⟨trivial, ho, ?_, h2⟩
  · cases hgd : o.guard with
    | none => rfl
    | some p => obtain ⟨t, b⟩ := p; simp only [wantG, hg t b hgd]

theorem freeV_agree {V : Nat} {o : IOper} (h : okP V o = true) {T T' : Tm} (hA : Agree V T T') (H : Hp) (c id : Nat) : freeV ⟨T, H, c⟩ id o = freeV ⟨T', H, c⟩ id o := by
  obtain ⟨-, h1, h2, -⟩ := okP_sees h hA
  unfold freeV
  simp only [h2]
  cases hw : wantG T' o.guard with
  | false => rfl
  | true =>
    cases ho : o.op with
    | pur f =>
      rw [ho] at h1
      simp only [fev_congr (H := H) (H' := H) (f := f) (e := Opd.ev T') (e' := Opd.ev T) (fun x hx => (h1 x hx).symm) (fun _ _ _ _ => rfl)]
    | new f =>
      rw [ho] at h1
      simp only [aev_congr (f := f) (e := Opd.ev T') (e' := Opd.ev T) (fun x hx => (h1 x hx).symm)]
    | _ => rfl

theorem mem_of_get {α : Type} {l : List α} {i : Nat} {x : α} (h : l[i]? = some x) : x ∈ l := by
  obtain ⟨hi, e⟩ := List.getElem?_eq_some_iff.1 h
  rw [← e]; exact List.getElem_mem hi

theorem again_agree {V : Nat} {io : List IOper} (hio : ∀ o ∈ io, okP V o = true) {T T' : Tm} (hA : Agree V T T') {H : Hp} {c c0 j : Nat} (h : Again io c0 ⟨T', H, c⟩ j) : Again io c0 ⟨T, H, c⟩ j := by
  unfold Again at h ⊢
  split at h
  · rename_i o ho
    try simp only [ho]
    have hk := hio o (mem_of_get ho)
    rw [freeV_agree hk hA]
    split at h
    · rename_i v ob hv
      try simp only [hv]
      refine ⟨fun d hd => ?_, h.2⟩
      have h2 := (okP_sees hk hA).2.2.2
      rw [hd] at h2
      simp only [okD, Bool.not_eq_true'] at h2
      rw [show T d = T' d from hA d h2]
      exact h.1 d hd
    · exact h.elim
  · exact h.elim
theorem againL_agree {V : Nat} {io : List IOper} (hio : ∀ o ∈ io, okP V o = true) {T T' : Tm} (hA : Agree V T T') {H : Hp} {c c0 : Nat} : ∀ l, AgainL io c0 ⟨T', H, c⟩ l → AgainL io c0 ⟨T, H, c⟩ l
  | [], _ => trivial
  | j :: l, h => ⟨again_agree hio hA h.1, againL_agree hio hA l h.2⟩

theorem dwp_agree {V : Nat} {Q Q' : St → Prop} (hQ : ∀ T T' H c, Agree V T T' → Q' ⟨T', H, c⟩ → Q ⟨T, H, c⟩) {io : List IOper} (hio : ∀ o ∈ io, okP V o = true) {c0 : Nat} : ∀ (plan : List (Nat × Option (List Nat))) (T T' : Tm) (H : Hp) (c : Nat), Agree V T T' → dwp P Q' io c0 plan ⟨T', H, c⟩ → dwp P Q io c0 plan ⟨T, H, c⟩
  | [], T, T', H, c, hA, h => hQ _ _ _ _ hA h
  | (i, none) :: r, T, T', H, c, hA, h => by
    simp only [dwp] at h ⊢
    split at h
    · rename_i o ho
      try simp only [ho]
      have hk := hio o (mem_of_get ho)
      rw [freeV_agree hk hA]
      split at h
      · rename_i v ob hv
        try simp only [hv]
        exact dwp_agree hQ hio r _ _ _ _ (hA.updO v) h
      · exact h.elim
    · exact h.elim
  | (i, some pend) :: r, T, T', H, c, hA, h => by
    simp only [dwp] at h ⊢
    split at h
    · rename_i o ho
      try simp only [ho]
      have hk := hio o (mem_of_get ho)
      obtain ⟨-, h1, h2, -⟩ := okP_sees hk hA
      have fin : ∀ v H' c', AgainL io c0 ⟨updO T' o.dst v, merge ((pend.filter (isNew io)).map (c0 + ·)) H H', c'⟩ pend ∧ dwp P Q' io c0 r ⟨updO T' o.dst v, merge ((pend.filter (isNew io)).map (c0 + ·)) H H', c'⟩ →
          AgainL io c0 ⟨updO T o.dst v, merge ((pend.filter (isNew io)).map (c0 + ·)) H H', c'⟩ pend ∧ dwp P Q io c0 r ⟨updO T o.dst v, merge ((pend.filter (isNew io)).map (c0 + ·)) H H', c'⟩ :=
        fun v H' c' ⟨a, b⟩ => ⟨againL_agree hio (hA.updO v) pend a, dwp_agree hQ hio r _ _ _ _ (hA.updO v) b⟩
      simp only [effP] at h ⊢
      rw [h2]
      split at h
      · rename_i hw
        rw [oneP_congr (T := T) (T' := T') h1] at h
        exact oneP_mono fin h
      · exact fin _ _ _ h
    · exact h.elim

theorem cO_sound {V fuel N : Nat} {call : CX} (ho : OrX P call) : ∀ (ic ic' : IC), optC V ic = some ic' → ∀ (kn : KF) (ke : Nat → KF) (kr : KF) (Q : Exit → St → Prop),
    (∀ fr H c T, Agree V T (tmX fr) → kn fr H c = true → Q .normal ⟨T, hpOf H, c⟩) → (∀ i fr H c T, Agree V T (tmX fr) → ke i fr H c = true → Q (.exit i) ⟨T, hpOf H, c⟩) → (∀ fr H c T, Agree V T (tmX fr) → kr fr H c = true → Q .ret ⟨T, hpOf H, c⟩) →
    ∀ fr H c T, Agree V T (tmX fr) → (codeW fuel ic').f call kn ke kr fr H c = true → wpI P N ic ⟨T, hpOf H, c⟩ Q := by
  intro ic
  induction ic with
  | skip => intro ic' hc kn ke kr Q hn he hr fr H c T hA h; cases hc; exact hn fr H c T hA h
  | reg ops =>
    intro ic' hc kn ke kr Q hn he hr fr H c T hA h
    simp only [optC] at hc
    split at hc
    · rename_i r hr
      cases hc
      have h1 := regX_sound (P := P) ho (K := kn) (Q := fun s' => ∃ fr H c, s' = stX fr H c ∧ kn fr H c = true) (fun fr H c hk => ⟨fr, H, c, rfl, hk⟩) r fr H c h
      refine optR_sound (fun T T' H' c' hA' hq => ?_) ops [] r hr T (tmX fr) (hpOf H) c hA (fun p hp => by cases hp) h1
      obtain ⟨fr1, H1, c1, e, hk⟩ := hq
      simp only [stX, St.mk.injEq] at e
      obtain ⟨e1, e2, e3⟩ := e
      subst e1 e2 e3
      exact hn fr1 H1 _ T hA' hk
    · cases hc
  | drw n d =>
    intro ic' hc kn ke kr Q hn he hr fr H c T hA h
    simp only [optC] at hc
    split at hc
    · rename_i hall
      cases hc
      obtain ⟨ops, bef, plan⟩ := d
      have h1 := drwX_sound (P := P) ho (K := kn) (Q := fun s' => ∃ fr H c, s' = stX fr H c ∧ kn fr H c = true) (fun fr H c hk => ⟨fr, H, c, rfl, hk⟩) plan fr H (c + n) h
      refine dwp_agree (V := V) (fun T T' H' c' hA' hq => ?_) (List.all_eq_true.1 hall) plan T (tmX fr) (hpOf H) (c + n) hA h1
      obtain ⟨fr1, H1, c1, e, hk⟩ := hq
      simp only [stX, St.mk.injEq] at e
      obtain ⟨e1, e2, e3⟩ := e
      subst e1 e2 e3
      exact hn fr1 H1 _ T hA' hk
    · cases hc
  | seq a b iha ihb =>
    intro ic' hc kn ke kr Q hn he hr fr H c T hA h
    simp only [optC] at hc
    split at hc
    · rename_i a' b' ha hb
      cases hc
      refine iha a' ha _ ke kr _ (fun fr1 H1 c1 T1 hA1 h1 => ?_) (fun i fr1 H1 c1 T1 hA1 h1 => ?_) (fun fr1 H1 c1 T1 hA1 h1 => ?_) fr H c T hA h
      · exact ihb b' hb kn ke kr Q hn he hr fr1 H1 c1 T1 hA1 h1
      · exact he i fr1 H1 c1 T1 hA1 h1
      · exact hr fr1 H1 c1 T1 hA1 h1
    · cases hc
  | cond o a b iha ihb =>
    intro ic' hc kn ke kr Q hn he hr fr H c T hA h
    simp only [optC] at hc
    split at hc
    · rename_i a' b' hok ha hb
      cases hc
      have h1 : vIf ((opdW o).f fr) ((codeW fuel a').f call kn ke kr fr H c) ((codeW fuel b').f call kn ke kr fr H c) = true := h
      rw [rdO_eq, ← hA.opd hok] at h1
      simp only [wpI]
      rcases vIf_true h1 with ⟨hv, h2⟩ | ⟨hv, h2⟩
      · simp only [hv]
        exact iha a' ha kn ke kr Q hn he hr fr H c T hA h2
      · simp only [hv]
        exact ihb b' hb kn ke kr Q hn he hr fr H c T hA h2
    · cases hc
  | blk id a ih =>
    intro ic' hc kn ke kr Q hn he hr fr H c T hA h
    simp only [optC] at hc
    split at hc
    · rename_i a' ha
      cases hc
      refine ih a' ha kn (keB id kn ke) kr (blkS id Q) (fun fr1 H1 c1 T1 hA1 h1 => hn fr1 H1 c1 T1 hA1 h1) (fun i fr1 H1 c1 T1 hA1 h1 => ?_) (fun fr1 H1 c1 T1 hA1 h1 => hr fr1 H1 c1 T1 hA1 h1) fr H c T hA h
      unfold keB at h1
      simp only [blkS]
      cases hb : Nat.beq i id with
      | true => rw [hb] at h1; rw [if_pos (Nat.eq_of_beq_eq_true hb)]; exact hn fr1 H1 c1 T1 hA1 h1
      | false => rw [hb] at h1; rw [if_neg (fun e => by rw [e, Nat.beq_refl] at hb; cases hb)]; exact he i fr1 H1 c1 T1 hA1 h1
    · cases hc
  | loop a ih =>
    intro ic' hc kn ke kr Q hn he hr fr H c T hA h
    simp only [optC] at hc
    split at hc
    · rename_i a' ha
      cases hc
      simp only [wpI]
      refine IW.loop (fun k s => ∃ fr H c T, Agree V T (tmX fr) ∧ s = ⟨T, hpOf H, c⟩ ∧ lpX k (codeW fuel a') call ke kr fr H c = true) fuel ⟨fr, H, c, T, hA, rfl, h⟩ ?_
      rintro k s ⟨fr1, H1, c1, T1, hA1, rfl, hk⟩
      cases k with
      | zero => cases hk
      | succ k =>
        exact ih a' ha (lpX k (codeW fuel a') call ke kr) ke kr (thenS (fun s' => ∃ m, m < k + 1 ∧ ∃ fr H c T, Agree V T (tmX fr) ∧ s' = ⟨T, hpOf H, c⟩ ∧ lpX m (codeW fuel a') call ke kr fr H c = true) Q)
          (fun fr2 H2 c2 T2 hA2 h2 => ⟨k, Nat.lt_succ_self k, fr2, H2, c2, T2, hA2, rfl, h2⟩) (fun i fr2 H2 c2 T2 hA2 h2 => he i fr2 H2 c2 T2 hA2 h2) (fun fr2 H2 c2 T2 hA2 h2 => hr fr2 H2 c2 T2 hA2 h2) fr1 H1 c1 T1 hA1 hk
    · cases hc
  | exit id => intro ic' hc kn ke kr Q hn he hr fr H c T hA h; cases hc; exact he id fr H c T hA h
  | ret => intro ic' hc kn ke kr Q hn he hr fr H c T hA h; cases hc; exact hr fr H c T hA h

theorem resL_agree {V : Nat} {T T' : Tm} (hA : Agree V T T') (H : Hp) (c : Nat) : ∀ (rs : List RV), rs.all (okRV V) = true → resL ⟨T, H, c⟩ rs = resL ⟨T', H, c⟩ rs
  | [], _ => rfl
  | .tmp t :: r, h => by
    simp only [List.all_cons, Bool.and_eq_true, okRV, Bool.not_eq_true'] at h
    simp only [resL, resL_agree hA H c r h.2, show T t = T' t from hA t h.1]
  | .cell a n g :: r, h => by
    simp only [List.all_cons, Bool.and_eq_true, okRV, Bool.not_eq_true'] at h
    simp only [resL, resL_agree hA H c r h.2, show T a = T' a from hA a h.1]
theorem resV_agree {V : Nat} {T T' : Tm} (hA : Agree V T T') (H : Hp) (c : Nat) (rs : List RV) (h : rs.all (okRV V) = true) : resV ⟨T, H, c⟩ rs = resV ⟨T', H, c⟩ rs := by
  unfold resV; rw [resL_agree hA H c rs h]

/-- What a table's function may stand for. -/
def IsFnO (P : Program) (f : Nat) (i : IFn) : Prop := ∃ V i0, IsFn P f i0 ∧ optFn V i0 = some i

theorem IsFnO.of {f : Nat} {i : IFn} (V : Nat) (h : ((P.funcs[f]?).bind (trFn P)).bind (optFn V) = some i) : IsFnO P f i := by
  cases h0 : (P.funcs[f]?).bind (trFn P) with
  | none => rw [h0] at h; cases h
  | some i0 => rw [h0] at h; exact ⟨V, i0, h0, h⟩

theorem fS_ok (hm : P.follows .mixedOrders = true) {F : Tr IFn} (hF : ∀ f i, F.get f = some i → IsFnO P f i) (fuel : Nat) : ∀ k, OrX P (fX k F fuel) := by
  intro k
  induction k with
  | zero => intro f args H c K h; cases h
  | succ k ih =>
    intro f args H c K h
    obtain ⟨⟨n, body, res⟩, h1, h2⟩ := optT (show @Option.rec IFn (fun _ => Bool) false (@IFn.rec (fun _ => Bool) (fnX fuel (fX k F fuel) args H c K)) (Tr.gx IFn F f) = true from h)
    rw [Tr.gx_eq] at h1
    obtain ⟨V, i0, hf, hopt⟩ := hF f _ h1
    unfold optFn at hopt
    split at hopt
    · rename_i b hres hbody
      cases hopt
      have h3 : fnX fuel (fX k F fuel) args H c K i0.n body i0.res = true := h2
      unfold fnX at h3
      cases hb : (Nat.ble args.length i0.n && Nat.ble args.length 512) with
      | false => rw [hb] at h3; cases h3
      | true =>
        rw [hb] at h3
        rw [Bool.and_eq_true] at hb
        have hn := Nat.le_of_ble_eq_true hb.1
        have h512 := Nat.le_of_ble_eq_true hb.2
        refine AC.of hm hf hn ?_
        have hk : ∀ fr H' c' T, Agree V T (tmX fr) → krX i0.res K fr H' c' = true → (match resV ⟨T, hpOf H', c'⟩ i0.res with
            | some v => ∃ H1, hpOf H' = hpOf H1 ∧ K v H1 c' = true
            | none => False) := by
          intro fr H' c' T hA hkr
          obtain ⟨v, g1, g2⟩ := optT (show @Option.rec Value (fun _ => Bool) false (fun v => K v H' c') (resV ⟨tmX fr, hpOf H', c'⟩ i0.res) = true from hkr)
          rw [← resV_agree hA _ _ _ hres] at g1
          simp only [g1]
          exact ⟨H', rfl, g2⟩
        exact cO_sound (V := V) (N := i0.n) ih i0.body body hbody (krX i0.res K) keF (krX i0.res K) (retQ i0.res fun v1 H1 c1 => ∃ H', H1 = hpOf H' ∧ K v1 H' c1 = true) hk (fun i fr H c T hA h => by cases h) hk (arX args 0 fr0) H c (argT args) (by rw [tmX_args args h512]; exact fun _ _ => rfl) h3
    · cases hopt

/-- **A closed call, by its run.** -/
theorem AC.runS (hm : P.follows .mixedOrders = true) {F : Tr IFn} (hF : ∀ f i, F.get f = some i → IsFnO P f i) {fuel k f c : Nat} {args : List Value} {H : TrB} {K : KV} (h : fX k F fuel f args H c K = true) :
    AC P f args (hpOf H) c fun v1 H1 c1 => ∃ H', H1 = hpOf H' ∧ K v1 H' c1 = true := fS_ok hm hF fuel k f args H c K h

theorem tableO_ok {F : Tr IFn} {L : List (Nat × IFn)} (hF : F = Tr.ofL L) (hL : ∀ p ∈ L, IsFnO P p.1 p.2) : ∀ f i, F.get f = some i → IsFnO P f i := by
  intro f i h
  rw [hF] at h
  exact hL _ (Tr.ofL_mem L f i h)
end
end Go.Eng
