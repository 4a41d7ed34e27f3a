/-
  THE ENGINE, part R: the faster run of a closed call, in the style of continuations, and why it is right.
-/
import Derived.Test.YtniclakgfgmhhaaGreatEngQ
set_option linter.unusedVariables false
set_option linter.unusedSimpArgs false
namespace Go.Eng

abbrev KV := Value → TrB → Nat → Bool
abbrev KF := Fr → TrB → Nat → Bool
abbrev CX := Nat → List Value → TrB → Nat → KV → Bool

structure RL where
  f : Fr → List Value
noncomputable def rdL0 : RL := ⟨fun _ => []⟩
noncomputable def rdLC (x : RdW) (r : RL) (fr : Fr) : List Value := x.f fr :: r.f fr
noncomputable def rdLW (l : List Opd) : RL := @List.rec Opd (fun _ => RL) rdL0 (fun x _ ih => ⟨rdLC (opdW x) ih⟩) l
theorem rdL_eq (fr : Fr) : ∀ l, (rdLW l).f fr = l.map (Opd.ev (tmX fr))
  | [] => rfl
  | x :: l => by
    show (opdW x).f fr :: (rdLW l).f fr = _
    rw [rdL_eq fr l, rdO_eq, List.map_cons]

/-! ### one operation -/
structure DW where
  f : KF → Fr → Value → TrB → Nat → Bool
noncomputable def dsN (K : KF) (fr : Fr) (_ : Value) (H : TrB) (c : Nat) : Bool := K fr H c
noncomputable def ds0 (_ : KF) (_ : Fr) (_ : Value) (_ : TrB) (_ : Nat) : Bool := false
noncomputable def dsS (w : WrW) (K : KF) (fr : Fr) (v : Value) (H : TrB) (c : Nat) : Bool := K (w.f fr v) H c
noncomputable def dsW (dst : Option Nat) : DW := @Option.rec Nat (fun _ => DW) ⟨dsN⟩ (fun d => @Option.rec WrW (fun _ => DW) ⟨ds0⟩ (fun w => ⟨dsS w⟩) (accW d)) dst

/-- An operation: the rest, calls, frame, memory, counter. -/
structure OpW where
  f : (Fr → Value → TrB → Nat → Bool) → CX → Fr → TrB → Nat → Bool
noncomputable def opPur (x : FW) (K : Fr → Value → TrB → Nat → Bool) (call : CX) (fr : Fr) (H : TrB) (c : Nat) : Bool := @Option.rec Value (fun _ => Bool) false (fun v => K fr v H c) (x.f fr H)
noncomputable def opMv (x : RdW) (K : Fr → Value → TrB → Nat → Bool) (call : CX) (fr : Fr) (H : TrB) (c : Nat) : Bool := K fr (x.f fr) H c
noncomputable def opNewK (H : TrB) (c : Nat) (K : Value → TrB → Nat → Bool) (k : Option Nat) (b : Blk) : Bool := K (mkv c k) (Tr.sx Blk H c (some b)) (Nat.succ c)
noncomputable def opNew (x : AW) (K : Fr → Value → TrB → Nat → Bool) (call : CX) (fr : Fr) (H : TrB) (c : Nat) : Bool := @Option.rec (Option Nat × Blk) (fun _ => Bool) false (@Prod.rec (Option Nat) Blk (fun _ => Bool) (opNewK H c (K fr))) (x.f fr)
noncomputable def opEffK (K : Value → TrB → Nat → Bool) (v : Value) (p : TrB × Nat) : Bool := @Prod.rec TrB Nat (fun _ => Bool) (K v) p
noncomputable def opEff (x : EW) (K : Fr → Value → TrB → Nat → Bool) (call : CX) (fr : Fr) (H : TrB) (c : Nat) : Bool := @Option.rec (Value × TrB × Nat) (fun _ => Bool) false (@Prod.rec Value (TrB × Nat) (fun _ => Bool) (opEffK (K fr))) (x.f fr H c)
noncomputable def opCall (f : Nat) (l : RL) (K : Fr → Value → TrB → Nat → Bool) (call : CX) (fr : Fr) (H : TrB) (c : Nat) : Bool := call f (l.f fr) H c (K fr)
noncomputable def opCallv (x : RdW) (l : RL) (K : Fr → Value → TrB → Nat → Bool) (call : CX) (fr : Fr) (H : TrB) (c : Nat) : Bool :=
  match x.f fr with
  | .func (.func f) a k => call f (a.toList ++ l.f fr ++ k.toList) H c (K fr)
  | _ => false
noncomputable def opFW (f : FOp) : OpW := @FOp.rec (fun _ => OpW) (fun x => ⟨opMv (opdW x)⟩) (fun c a b => ⟨opPur (fevW (.pick c a b))⟩) (fun n g x => ⟨opPur (fevW (.ld n g x))⟩) (fun o x => ⟨opPur (fevW (.fad o x))⟩) (fun z x i => ⟨opPur (fevW (.iad z x i))⟩) (fun l z x i => ⟨opPur (fevW (.iada l z x i))⟩) (fun x i => ⟨opPur (fevW (.idx x i))⟩) (fun o n g x => ⟨opPur (fevW (.fld o n g x))⟩) (fun x i => ⟨opPur (fevW (.ext x i))⟩) (fun x => ⟨opPur (fevW (.nck x))⟩) (fun o x y => ⟨opPur (fevW (.bin o x y))⟩) (fun n x y => ⟨opPur (fevW (.eqb n x y))⟩) (fun n k x y => ⟨opPur (fevW (.eqn n k x y))⟩) (fun n k x y => ⟨opPur (fevW (.eqa n k x y))⟩) (fun o x => ⟨opPur (fevW (.un o x))⟩) (fun k x => ⟨opPur (fevW (.cvi k x))⟩) (fun x => ⟨opPur (fevW (.cvs x))⟩) (fun x => ⟨opPur (fevW (.cvbs x))⟩) (fun s x l h => ⟨opPur (fevW (.slc s x l h))⟩) (fun x l h => ⟨opPur (fevW (.sls x l h))⟩) (fun f a c => ⟨opPur (fevW (.mkf f a c))⟩) (fun z p q => ⟨opPur (fevW (.bld z p q))⟩) (fun x => ⟨opPur (fevW (.len x))⟩) (fun x => ⟨opPur (fevW (.lens x))⟩) (fun x y => ⟨opPur (fevW (.mn x y))⟩) (fun x y => ⟨opPur (fevW (.mx x y))⟩) f
noncomputable def oneW (op : IOp) : OpW := @IOp.rec (fun _ => OpW) opFW (fun f => ⟨opNew (aevW f)⟩) (fun f => ⟨opEff (eevW f)⟩) (fun f l => ⟨opCall f (rdLW l)⟩) (fun x l => ⟨opCallv (opdW x) (rdLW l)⟩) op

/-! ### a region in the order of the text -/
structure RW where
  f : CX → KF → KF
noncomputable def wIfT (v : Value) (t e : Bool) : Bool := @Value.rec.{1} (fun _ => Bool) (fun _ => PUnit) (fun _ => PUnit) (@Bool.rec (fun _ => Bool) e t) (fun _ _ => e) (fun _ _ => e) (fun _ _ _ => e) (fun _ => e) (fun _ => e) (fun _ _ _ => e) (fun _ => e) (fun _ => e) (fun _ _ _ _ _ => e) (e) (fun _ _ _ => e) (e) (fun _ _ => e) (fun _ _ => e) (fun _ _ => PUnit.unit) PUnit.unit (fun _ _ _ _ => PUnit.unit) v
noncomputable def wIfF (v : Value) (t e : Bool) : Bool := @Value.rec.{1} (fun _ => Bool) (fun _ => PUnit) (fun _ => PUnit) (@Bool.rec (fun _ => Bool) t e) (fun _ _ => e) (fun _ _ => e) (fun _ _ _ => e) (fun _ => e) (fun _ => e) (fun _ _ _ => e) (fun _ => e) (fun _ => e) (fun _ _ _ _ _ => e) (e) (fun _ _ _ => e) (e) (fun _ _ => e) (fun _ _ => e) (fun _ _ => PUnit.unit) PUnit.unit (fun _ _ _ _ => PUnit.unit) v
noncomputable def rgK (d : DW) (K : KF) (fr : Fr) (v : Value) (H : TrB) (c : Nat) : Bool := d.f K fr v H c
noncomputable def rgN (d : DW) (o : OpW) (ih : RW) (call : CX) (K : KF) : KF := o.f (d.f (ih.f call K)) call
noncomputable def rgT (d : DW) (o : OpW) (r : RdW) (ih : RW) (call : CX) (K : KF) (fr : Fr) (H : TrB) (c : Nat) : Bool :=
  wIfT (r.f fr) (o.f (d.f (ih.f call K)) call fr H c) (d.f (ih.f call K) fr undef H c)
noncomputable def rgF (d : DW) (o : OpW) (r : RdW) (ih : RW) (call : CX) (K : KF) (fr : Fr) (H : TrB) (c : Nat) : Bool :=
  wIfF (r.f fr) (o.f (d.f (ih.f call K)) call fr H c) (d.f (ih.f call K) fr undef H c)
noncomputable def rgG (d : DW) (o : OpW) (ih : RW) (t : Nat) (b : Bool) : RW := @Bool.rec (fun _ => RW) ⟨rgF d o (accR t) ih⟩ ⟨rgT d o (accR t) ih⟩ b
noncomputable def rgOp (ih : RW) (dst : Option Nat) (op : IOp) (guard : Option (Nat × Bool)) : RW :=
  @Option.rec (Nat × Bool) (fun _ => RW) ⟨rgN (dsW dst) (oneW op) ih⟩ (@Prod.rec Nat Bool (fun _ => RW) (rgG (dsW dst) (oneW op) ih)) guard
noncomputable def rgNil (call : CX) (K : KF) (fr : Fr) (H : TrB) (c : Nat) : Bool := K fr H c
noncomputable def regW (ops : List IOper) : RW := @List.rec IOper (fun _ => RW) ⟨rgNil⟩ (fun o _ ih => @IOper.rec (fun _ => RW) (rgOp ih) o) ops

/-! ### a region that draws -/
noncomputable def gdP (fr : Fr) (t : Nat) (b : Bool) : Bool := wantV ((accR t).f fr) b
noncomputable def gdX (g : Option (Nat × Bool)) (fr : Fr) : Bool := @Option.rec (Nat × Bool) (fun _ => Bool) true (@Prod.rec Nat Bool (fun _ => Bool) (gdP fr)) g
noncomputable def frX (fr : Fr) (H : TrB) (id : Nat) (o : IOper) : Option (Value × Option Blk) :=
  match gdX o.guard fr with
  | false => some (undef, none)
  | true => match o.op with
    | .pur f => match fevX f fr H with
      | some v => some (v, none)
      | none => none
    | .new f => match aevX f fr with
      | some (k, b) => some (mkv id k, some b)
      | none => none
    | _ => none
noncomputable def hideX (H : TrB) (ks : List Nat) : TrB := ks.foldl (fun H k => Tr.sx Blk H k none) H
noncomputable def mergeX (H : TrB) (ks : List Nat) (H' : TrB) : TrB := ks.foldl (fun H' k => Tr.sx Blk H' k (Tr.gx Blk H k)) H'
noncomputable def againX (io : List IOper) (c0 : Nat) (fr : Fr) (H : TrB) (j : Nat) : Bool :=
  match nthX IOper io j with
  | some o => match frX fr H (c0 + j) o with
    | some (v, ob) => (match o.dst with
      | some d => vEq2 ((accR d).f fr) v
      | none => true) && bEq (Tr.gx Blk H (c0 + j)) ob
    | none => false
  | none => false
noncomputable def drwX (call : CX) (io : List IOper) (c0 : Nat) (K : KF) : List (Nat × Option (List Nat)) → Fr → TrB → Nat → Bool
  | [], fr, H, c => K fr H c
  | (i, none) :: r, fr, H, c => match nthX IOper io i with
    | some o => match frX fr H (c0 + i) o with
      | some (v, some b) => (dsW o.dst).f (drwX call io c0 K r) fr v (Tr.sx Blk H (c0 + i) (some b)) c
      | some (v, none) => (dsW o.dst).f (drwX call io c0 K r) fr v H c
      | none => false
    | none => false
  | (i, some pend) :: r, fr, H, c => match nthX IOper io i with
    | some o =>
      let ks := (pend.filter (isNew io)).map (c0 + ·)
      let K' : Fr → Value → TrB → Nat → Bool := fun fr v H' c' => (dsW o.dst).f (fun fr' H1 c1 => match pend.all (againX io c0 fr' H1) with
        | true => drwX call io c0 K r fr' H1 c1
        | false => false) fr v (mergeX H ks H') c'
      match gdX o.guard fr with
      | true => (oneW o.op).f K' call fr (hideX H ks) c
      | false => K' fr undef (hideX H ks) c
    | none => false

/-! ### code -/
abbrev CodeX := CX → KF → (Nat → KF) → KF → KF
structure CW where
  f : CodeX
noncomputable def cSkip : CodeX := fun _ kn _ _ fr H c => kn fr H c
noncomputable def cReg (r : RW) : CodeX := fun call kn _ _ => r.f call kn
noncomputable def cDrwD (n : Nat) (ops : List IOper) (plan : List (Nat × Option (List Nat))) : CodeX := fun call kn _ _ fr H c => drwX call ops c kn plan fr H (c + n)
noncomputable def cDrw (n : Nat) (d : DReg) : CW := @DReg.rec (fun _ => CW) (fun ops _ plan => ⟨cDrwD n ops plan⟩) d
noncomputable def cSeq (ix iy : CW) : CodeX := fun call kn ke kr => ix.f call (iy.f call kn ke kr) ke kr
noncomputable def vIf (v : Value) (t e : Bool) : Bool := @Value.rec.{1} (fun _ => Bool) (fun _ => PUnit) (fun _ => PUnit) (@Bool.rec (fun _ => Bool) e t) (fun _ _ => false) (fun _ _ => false) (fun _ _ _ => false) (fun _ => false) (fun _ => false) (fun _ _ _ => false) (fun _ => false) (fun _ => false) (fun _ _ _ _ _ => false) (false) (fun _ _ _ => false) (false) (fun _ _ => false) (fun _ _ => false) (fun _ _ => PUnit.unit) PUnit.unit (fun _ _ _ _ => PUnit.unit) v
noncomputable def cCond (o : RdW) (ix iy : CW) : CodeX := fun call kn ke kr fr H c => vIf (o.f fr) (ix.f call kn ke kr fr H c) (iy.f call kn ke kr fr H c)
noncomputable def keB (id : Nat) (kn : KF) (ke : Nat → KF) (i : Nat) : KF := @Bool.rec (fun _ => KF) (ke i) kn (Nat.beq i id)
noncomputable def cBlk (id : Nat) (ix : CW) : CodeX := fun call kn ke kr => ix.f call kn (keB id kn ke) kr
noncomputable def lp0 (_ : CW) (_ : CX) (_ : Nat → KF) (_ : KF) (_ : Fr) (_ : TrB) (_ : Nat) : Bool := false
noncomputable def lpS (_ : Nat) (ih : CW → CX → (Nat → KF) → KF → KF) (ix : CW) (call : CX) (ke : Nat → KF) (kr : KF) : KF := ix.f call (ih ix call ke kr) ke kr
noncomputable def lpX (k : Nat) : CW → CX → (Nat → KF) → KF → KF := @Nat.rec (fun _ => CW → CX → (Nat → KF) → KF → KF) lp0 lpS k
noncomputable def cLoop (fuel : Nat) (ix : CW) : CodeX := fun call _ ke kr => lpX fuel ix call ke kr
noncomputable def cExit (id : Nat) : CodeX := fun _ _ ke _ => ke id
noncomputable def cRet : CodeX := fun _ _ _ kr => kr
noncomputable def codeW (fuel : Nat) (ic : IC) : CW := @IC.rec (fun _ => CW) ⟨cSkip⟩ (fun ops => ⟨cReg (regW ops)⟩) cDrw (fun _ _ ix iy => ⟨cSeq ix iy⟩) (fun o _ _ ix iy => ⟨cCond (opdW o) ix iy⟩) (fun id _ ix => ⟨cBlk id ix⟩) (fun _ ix => ⟨cLoop fuel ix⟩) (fun id => ⟨cExit id⟩) ⟨cRet⟩ ic

/-! ### calls -/
noncomputable def arX (l : List Value) : Nat → Fr → Fr := @List.rec Value (fun _ => Nat → Fr → Fr) (fun _ fr => fr) (fun v _ ih i fr => @Option.rec WrW (fun _ => Fr) (ih (Nat.succ i) fr) (fun w => ih (Nat.succ i) (w.f fr v)) (accW i)) l
noncomputable def krX (res : List RV) (K : KV) (fr : Fr) (H : TrB) (c : Nat) : Bool := @Option.rec Value (fun _ => Bool) false (fun v => K v H c) (resV ⟨tmX fr, hpOf H, c⟩ res)
noncomputable def keF (_ : Nat) (_ : Fr) (_ : TrB) (_ : Nat) : Bool := false
noncomputable def fnX (fuel : Nat) (call : CX) (args : List Value) (H : TrB) (c : Nat) (K : KV) (n : Nat) (body : IC) (res : List RV) : Bool :=
  @Bool.rec (fun _ => Bool) false ((codeW fuel body).f call (krX res K) keF (krX res K) (arX args 0 fr0) H c) (Nat.ble args.length n && Nat.ble args.length 512)
noncomputable def fn0 (_ : Tr IFn) (_ : Nat) (_ : Nat) (_ : List Value) (_ : TrB) (_ : Nat) (_ : KV) : Bool := false
noncomputable def fnS (_ : Nat) (ih : Tr IFn → Nat → CX) (F : Tr IFn) (fuel : Nat) (f : Nat) (args : List Value) (H : TrB) (c : Nat) (K : KV) : Bool :=
  @Option.rec IFn (fun _ => Bool) false (@IFn.rec (fun _ => Bool) (fnX fuel (ih F fuel) args H c K)) (Tr.gx IFn F f)
/-- A closed call, run: 'k' bounds the calls in one another, 'fuel' the rounds of a loop; K looks at what comes out. -/
noncomputable def fX (k : Nat) : Tr IFn → Nat → CX := @Nat.rec (fun _ => Tr IFn → Nat → CX) fn0 fnS k

/-! ### why it is right -/
section
variable {P : Program}

def OrX (P : Program) (call : CX) : Prop :=
  ∀ f args H c K, call f args H c K = true → AC P f args (hpOf H) c fun v1 H1 c1 => ∃ H', H1 = hpOf H' ∧ K v1 H' c1 = true

noncomputable def stX (fr : Fr) (H : TrB) (c : Nat) : St := ⟨tmX fr, hpOf H, c⟩

theorem optT {α : Type} {o : Option α} {K : α → Bool} (h : @Option.rec α (fun _ => Bool) false K o = true) : ∃ v, o = some v ∧ K v = true := by
  cases o with
  | none => cases h
  | some v => exact ⟨v, rfl, h⟩

theorem oneW_sound {call : CX} (ho : OrX P call) (op : IOp) {fr : Fr} {H : TrB} {c : Nat} {K : Fr → Value → TrB → Nat → Bool} {K' : Value → Hp → Nat → Prop} (hK : ∀ v H' c', K fr v H' c' = true → K' v (hpOf H') c') (h : (oneW op).f K call fr H c = true) :
    oneP P (stX fr H c) K' op := by
  cases op with
  | pur f =>
    have gen : ∀ f : FOp, opPur (fevW f) K call fr H c = true → oneP P (stX fr H c) K' (.pur f) := by
      intro f h
      obtain ⟨v, h1, h2⟩ := optT (show @Option.rec Value (fun _ => Bool) false (fun v => K fr v H c) (fevX f fr H) = true from h)
      rw [fevX_eq] at h1
      simp only [oneP, stX, h1]
      exact hK _ _ _ h2
    cases f with
    | mv x =>
      have h1 : K fr ((opdW x).f fr) H c = true := h
      rw [rdO_eq] at h1
      simp only [oneP, stX, fev]
      exact hK _ _ _ h1
    | _ => exact gen _ h
  | new f =>
    obtain ⟨⟨k, b⟩, h1, h2⟩ := optT (show @Option.rec (Option Nat × Blk) (fun _ => Bool) false (@Prod.rec (Option Nat) Blk (fun _ => Bool) (opNewK H c (K fr))) (aevX f fr) = true from h)
    rw [aevX_eq] at h1
    have h2' : K fr (mkv c k) (Tr.sx Blk H c (some b)) (Nat.succ c) = true := h2
    rw [Tr.sx_eq] at h2'
    simp only [oneP, stX, h1]
    have := hK _ _ _ h2'
    rw [hpOf_set] at this
    exact this
  | eff f =>
    obtain ⟨⟨v, H', c'⟩, h1, h2⟩ := optT (show @Option.rec (Value × TrB × Nat) (fun _ => Bool) false (@Prod.rec Value (TrB × Nat) (fun _ => Bool) (opEffK (K fr))) (eevX f fr H c) = true from h)
    rw [eevX_eq] at h1
    simp only [oneP, stX, gEff_sound h1]
    exact hK _ _ _ h2
  | call f args =>
    have h1 : call f ((rdLW args).f fr) H c (K fr) = true := h
    rw [rdL_eq] at h1
    exact (ho _ _ _ _ _ h1).mono fun v1 H1 c1 ⟨H', e, q⟩ => by subst e; exact hK _ _ _ q
  | callv x args =>
    have h1 : opCallv (opdW x) (rdLW args) K call fr H c = true := h
    unfold opCallv at h1
    simp only [oneP, stX]
    split at h1
    · rename_i f a k he
      rw [rdO_eq] at he
      simp only [he]
      rw [rdL_eq] at h1
      exact (ho _ _ _ _ _ h1).mono fun v1 H1 c1 ⟨H', e, q⟩ => by subst e; exact hK _ _ _ q
    · cases h1

theorem dsW_sound {dst : Option Nat} {K : KF} {fr : Fr} {v : Value} {H : TrB} {c : Nat} (h : (dsW dst).f K fr v H c = true) : ∃ fr', tmX fr' = updO (tmX fr) dst v ∧ K fr' H c = true := by
  cases dst with
  | none => exact ⟨fr, rfl, h⟩
  | some d =>
    have h1 : (@Option.rec WrW (fun _ => DW) ⟨ds0⟩ (fun w => ⟨dsS w⟩) (accW d)).f K fr v H c = true := h
    cases hw : accW d with
    | none => rw [hw] at h1; cases h1
    | some w =>
      rw [hw] at h1
      exact ⟨w.f fr v, tmX_wr hw fr v, h1⟩

theorem gdX_eq (g : Option (Nat × Bool)) (fr : Fr) : gdX g fr = wantG (tmX fr) g := by
  cases g with
  | none => rfl
  | some g => rfl

theorem regW_cons (dst : Option Nat) (op : IOp) (guard : Option (Nat × Bool)) (os : List IOper) (call : CX) (K : KF) (fr : Fr) (H : TrB) (c : Nat) (h : (regW (⟨dst, op, guard⟩ :: os)).f call K fr H c = true) :
    (wantG (tmX fr) guard = true ∧ (oneW op).f ((dsW dst).f ((regW os).f call K)) call fr H c = true) ∨ (wantG (tmX fr) guard = false ∧ (dsW dst).f ((regW os).f call K) fr undef H c = true) := by
  cases guard with
  | none => exact .inl ⟨rfl, h⟩
  | some p =>
    obtain ⟨t, b⟩ := p
    cases b with
    | true =>
      have h1 : wIfT (tmX fr t) ((oneW op).f ((dsW dst).f ((regW os).f call K)) call fr H c) ((dsW dst).f ((regW os).f call K) fr undef H c) = true := h
      simp only [wantG]
      cases hv : tmX fr t with
      | bool b =>
        rw [hv] at h1
        cases b with
        | true => exact .inl ⟨rfl, h1⟩
        | false => exact .inr ⟨rfl, h1⟩
      | _ => rw [hv] at h1; exact .inr ⟨rfl, h1⟩
    | false =>
      have h1 : wIfF (tmX fr t) ((oneW op).f ((dsW dst).f ((regW os).f call K)) call fr H c) ((dsW dst).f ((regW os).f call K) fr undef H c) = true := h
      simp only [wantG]
      cases hv : tmX fr t with
      | bool b =>
        rw [hv] at h1
        cases b with
        | true => exact .inr ⟨rfl, h1⟩
        | false => exact .inl ⟨rfl, h1⟩
      | _ => rw [hv] at h1; exact .inr ⟨rfl, h1⟩

theorem regX_sound {call : CX} (ho : OrX P call) {K : KF} {Q : St → Prop} (hQ : ∀ fr H c, K fr H c = true → Q (stX fr H c)) : ∀ (ops : List IOper) (fr : Fr) (H : TrB) (c : Nat), (regW ops).f call K fr H c = true → rwp P Q ops (stX fr H c)
  | [], fr, H, c, h => hQ fr H c h
  | ⟨dst, op, guard⟩ :: os, fr, H, c, h => by
    simp only [rwp, stX]
    rcases regW_cons dst op guard os call K fr H c h with ⟨hw, h1⟩ | ⟨hw, h1⟩
    · rw [hw]
      refine oneW_sound ho op (fun v H' c' hk => ?_) h1
      obtain ⟨fr', e, hk'⟩ := dsW_sound hk
      have := regX_sound ho hQ os fr' H' c' hk'
      rw [stX, e] at this
      exact this
    · rw [hw]
      obtain ⟨fr', e, hk'⟩ := dsW_sound h1
      have := regX_sound ho hQ os fr' H c hk'
      rw [stX, e] at this
      exact this

theorem frX_eq (fr : Fr) (H : TrB) (c id : Nat) (o : IOper) : frX fr H id o = freeV (stX fr H c) id o := by
  unfold frX freeV
  rw [gdX_eq]
  simp only [stX, fevX_eq, aevX_eq]
  cases wantG (tmX fr) o.guard with
  | false => rfl
  | true => cases o.op with
    | pur f => simp only []; cases fev (hpOf H) (Opd.ev (tmX fr)) f <;> rfl
    | new f => simp only []; cases aev (Opd.ev (tmX fr)) f <;> rfl
    | _ => rfl

theorem hideX_eq : ∀ (ks : List Nat) (H : TrB), hideX H ks = gHide H ks
  | [], H => rfl
  | k :: r, H => by
    show hideX (Tr.sx Blk H k none) r = _
    rw [hideX_eq r, Tr.sx_eq]; rfl
theorem mergeX_eq (H : TrB) : ∀ (ks : List Nat) (H' : TrB), mergeX H ks H' = gMerge H ks H'
  | [], H' => rfl
  | k :: r, H' => by
    show mergeX H r (Tr.sx Blk H' k (Tr.gx Blk H k)) = _
    rw [mergeX_eq H r, Tr.sx_eq, Tr.gx_eq]; rfl

theorem againX_sound {io : List IOper} {c0 c : Nat} {fr : Fr} {H : TrB} {j : Nat} (h : againX io c0 fr H j = true) : Again io c0 (stX fr H c) j := by
  unfold againX at h
  unfold Again
  rw [nthX_eq] at h
  split at h
  · rename_i o ho
    simp only [ho]
    rw [frX_eq fr H c] at h
    split at h
    · rename_i v ob hv
      simp only [hv]
      rw [Bool.and_eq_true] at h
      obtain ⟨h1, h2⟩ := h
      rw [Tr.gx_eq] at h2
      refine ⟨fun d hd => ?_, bEq_sound h2⟩
      rw [hd] at h1
      exact vEq2_sound _ _ h1
    · cases h
  · cases h

theorem drwX_sound {call : CX} (ho : OrX P call) {K : KF} {Q : St → Prop} (hQ : ∀ fr H c, K fr H c = true → Q (stX fr H c)) {io : List IOper} {c0 : Nat} : ∀ (plan : List (Nat × Option (List Nat))) (fr : Fr) (H : TrB) (c : Nat), drwX call io c0 K plan fr H c = true → dwp P Q io c0 plan (stX fr H c)
  | [], fr, H, c, h => hQ fr H c h
  | (i, none) :: r, fr, H, c, h => by
    simp only [drwX, nthX_eq] at h
    simp only [dwp]
    split at h
    · rename_i o hio
      simp only [hio]
      rw [frX_eq fr H c] at h
      split at h
      · rename_i v b hv
        simp only [hv]
        obtain ⟨fr', e, hk'⟩ := dsW_sound h
        rw [Tr.sx_eq] at hk'
        have := drwX_sound ho hQ r fr' _ c hk'
        rw [stX, e, hpOf_set] at this
        exact this
      · rename_i v hv
        simp only [hv]
        obtain ⟨fr', e, hk'⟩ := dsW_sound h
        have := drwX_sound ho hQ r fr' _ c hk'
        rw [stX, e] at this
        exact this
      · cases h
    · cases h
  | (i, some pend) :: r, fr, H, c, h => by
    simp only [drwX, nthX_eq] at h
    simp only [dwp]
    split at h
    · rename_i o hio
      simp only [hio]
      generalize hks : (pend.filter (isNew io)).map (c0 + ·) = ks at h
      have fin : ∀ v H' c', (dsW o.dst).f (fun fr' H1 c1 => match pend.all (againX io c0 fr' H1) with
        | true => drwX call io c0 K r fr' H1 c1
        | false => false) fr v (mergeX H ks H') c' = true →
          AgainL io c0 ⟨updO (tmX fr) o.dst v, merge ks (hpOf H) (hpOf H'), c'⟩ pend ∧ dwp P Q io c0 r ⟨updO (tmX fr) o.dst v, merge ks (hpOf H) (hpOf H'), c'⟩ := by
        intro v H' c' hk
        obtain ⟨fr', e, hk'⟩ := dsW_sound hk
        split at hk'
        · rename_i hall
          have est : stX fr' (mergeX H ks H') c' = ⟨updO (tmX fr) o.dst v, merge ks (hpOf H) (hpOf H'), c'⟩ := by
            rw [stX, e, mergeX_eq, gMerge_eq]
          rw [← est]
          constructor
          · have hl : ∀ l : List Nat, (∀ j ∈ l, againX io c0 fr' (mergeX H ks H') j = true) → AgainL io c0 (stX fr' (mergeX H ks H') c') l := by
              intro l
              induction l with
              | nil => intro _; trivial
              | cons j l ih => intro hj; exact ⟨againX_sound (hj j List.mem_cons_self), ih fun k hk => hj k (List.mem_cons_of_mem _ hk)⟩
            exact hl pend (List.all_eq_true.1 hall)
          · exact drwX_sound ho hQ r fr' _ c' hk'
        · cases hk'
      rw [gdX_eq] at h
      simp only [stX, effP]
      split at h
      · rename_i hw
        simp only [hw]
        have eh : (⟨tmX fr, hide (hpOf H) ks, c⟩ : St) = stX fr (hideX H ks) c := by rw [stX, hideX_eq, gHide_eq]
        rw [eh]
        exact oneW_sound ho o.op (fun v H' c' hk => fin v H' c' hk) h
      · rename_i hw
        simp only [hw]
        have := fin undef (hideX H ks) c h
        rw [hideX_eq, gHide_eq] at this
        exact this
    · cases h

theorem vIf_true {v : Value} {t e : Bool} (h : vIf v t e = true) : (v = .bool true ∧ t = true) ∨ (v = .bool false ∧ e = true) := by
  cases v with
  | bool b => cases b with
    | true => exact .inl ⟨rfl, h⟩
    | false => exact .inr ⟨rfl, h⟩
  | _ => cases h

theorem cX_sound {fuel N : Nat} {call : CX} (ho : OrX P call) : ∀ (ic : IC) (kn : KF) (ke : Nat → KF) (kr : KF) (Q : Exit → St → Prop), (∀ fr H c, kn fr H c = true → Q .normal (stX fr H c)) → (∀ i fr H c, ke i fr H c = true → Q (.exit i) (stX fr H c)) → (∀ fr H c, kr fr H c = true → Q .ret (stX fr H c)) →
    ∀ fr H c, (codeW fuel ic).f call kn ke kr fr H c = true → wpI P N ic (stX fr H c) Q := by
  intro ic
  induction ic with
  | skip => intro kn ke kr Q hn he hr fr H c h; exact hn fr H c h
  | reg ops => intro kn ke kr Q hn he hr fr H c h; exact regX_sound ho hn ops fr H c h
  | drw n d =>
    intro kn ke kr Q hn he hr fr H c h
    obtain ⟨ops, bef, plan⟩ := d
    exact drwX_sound ho hn plan fr H (c + n) h
  | seq a b iha ihb =>
    intro kn ke kr Q hn he hr fr H c h
    refine iha _ ke kr _ (fun fr1 H1 c1 h1 => ?_) (fun i fr1 H1 c1 h1 => ?_) (fun fr1 H1 c1 h1 => ?_) fr H c h
    · exact ihb kn ke kr Q hn he hr fr1 H1 c1 h1
    · exact he i fr1 H1 c1 h1
    · exact hr fr1 H1 c1 h1
  | cond o a b iha ihb =>
    intro kn ke kr Q hn he hr fr H c h
    have h1 : vIf ((opdW o).f fr) ((codeW fuel a).f call kn ke kr fr H c) ((codeW fuel b).f call kn ke kr fr H c) = true := h
    rw [rdO_eq] at h1
    simp only [wpI]
    rcases vIf_true h1 with ⟨hv, h2⟩ | ⟨hv, h2⟩
    · have : o.ev (stX fr H c).T = .bool true := hv
      simp only [this]
      exact iha kn ke kr Q hn he hr fr H c h2
    · have : o.ev (stX fr H c).T = .bool false := hv
      simp only [this]
      exact ihb kn ke kr Q hn he hr fr H c h2
  | blk id a ih =>
    intro kn ke kr Q hn he hr fr H c h
    refine ih kn (keB id kn ke) kr (blkS id Q) (fun fr1 H1 c1 h1 => hn fr1 H1 c1 h1) (fun i fr1 H1 c1 h1 => ?_) (fun fr1 H1 c1 h1 => hr fr1 H1 c1 h1) fr H c h
    unfold keB at h1
    simp only [blkS]
    cases hb : Nat.beq i id with
    | true => rw [hb] at h1; rw [if_pos (Nat.eq_of_beq_eq_true hb)]; exact hn fr1 H1 c1 h1
    | false => rw [hb] at h1; rw [if_neg (fun e => by rw [e, Nat.beq_refl] at hb; cases hb)]; exact he i fr1 H1 c1 h1
  | loop a ih =>
    intro kn ke kr Q hn he hr fr H c h
    simp only [wpI]
    refine IW.loop (fun k s => ∃ fr H c, s = stX fr H c ∧ lpX k (codeW fuel a) call ke kr fr H c = true) fuel ⟨fr, H, c, rfl, h⟩ ?_
    rintro k s ⟨fr1, H1, c1, rfl, hk⟩
    cases k with
    | zero => cases hk
    | succ k =>
      exact ih (lpX k (codeW fuel a) call ke kr) ke kr (thenS (fun s' => ∃ m, m < k + 1 ∧ ∃ fr H c, s' = stX fr H c ∧ lpX m (codeW fuel a) call ke kr fr H c = true) Q) (fun fr2 H2 c2 h2 => ⟨k, Nat.lt_succ_self k, fr2, H2, c2, rfl, h2⟩) (fun i fr2 H2 c2 h2 => he i fr2 H2 c2 h2) (fun fr2 H2 c2 h2 => hr fr2 H2 c2 h2) fr1 H1 c1 hk
  | exit id => intro kn ke kr Q hn he hr fr H c h; exact he id fr H c h
  | ret => intro kn ke kr Q hn he hr fr H c h; exact hr fr H c h

theorem accW_some {i : Nat} (h : i < 512) : ∃ w, accW i = some w := by
  cases hw : accW i with
  | some w => exact ⟨w, rfl⟩
  | none =>
    exfalso
    unfold accW at hw
    have hb : Nat.ble 512 i = false := by
      cases hb : Nat.ble 512 i with
      | false => rfl
      | true => have := Nat.le_of_ble_eq_true hb; omega
    rw [hb] at hw
    have hm : i % 64 < 64 := Nat.mod_lt _ (by omega)
    have key : ∀ q, i / 64 = q → q < 8 → nthX WrW (wT (dg q)) (i % 64) = some (gW (q * 64 + i % 64)) := by
      intro q _ hq
      rw [nthX_eq]
      match q, hq with
      | 0, _ => exact lst_get wL0_eq hm
      | 1, _ => exact lst_get wL1_eq hm
      | 2, _ => exact lst_get wL2_eq hm
      | 3, _ => exact lst_get wL3_eq hm
      | 4, _ => exact lst_get wL4_eq hm
      | 5, _ => exact lst_get wL5_eq hm
      | 6, _ => exact lst_get wL6_eq hm
      | 7, _ => exact lst_get wL7_eq hm
    have h2 : nthX WrW (wT (dg (i / 64))) (i % 64) = none := hw
    rw [key (i / 64) rfl (by omega)] at h2
    cases h2

theorem arX_eq : ∀ (l : List Value) (i : Nat) (fr : Fr), i + l.length ≤ 512 → ∀ m, tmX (arX l i fr) m = if i ≤ m ∧ m < i + l.length then l.getD (m - i) undef else tmX fr m
  | [], i, fr, h, m => by
    show tmX fr m = _
    rw [if_neg (by simp)]
  | v :: r, i, fr, h, m => by
    simp only [List.length_cons] at h ⊢
    obtain ⟨w, hw⟩ := accW_some (i := i) (by omega)
    have e : arX (v :: r) i fr = arX r (i + 1) (w.f fr v) := by
      show @Option.rec WrW (fun _ => Fr) (arX r (i + 1) fr) (fun w => arX r (i + 1) (w.f fr v)) (accW i) = _
      rw [hw]
    rw [e, arX_eq r (i + 1) _ (by omega), tmX_wr hw]
    by_cases h1 : i + 1 ≤ m ∧ m < i + 1 + r.length
    · rw [if_pos h1, if_pos (by omega), show m - i = (m - (i + 1)) + 1 by omega, List.getD_cons_succ]
    · rw [if_neg h1]
      by_cases h2 : m = i
      · subst h2; rw [if_pos (by omega)]; simp [Tm.upd]
      · rw [if_neg (by omega)]; simp [Tm.upd, h2]

theorem tmX_args (l : List Value) (h : l.length ≤ 512) : tmX (arX l 0 fr0) = argT l := by
  funext m
  rw [arX_eq l 0 fr0 (by omega), tmX_fr0]
  simp only [argT, Nat.zero_le, true_and, Nat.zero_add, Nat.sub_zero]
  split
  · rfl
  · rw [List.getD_eq_getElem?_getD, List.getElem?_eq_none (by omega)]; rfl

theorem fX_ok (hm : P.follows .mixedOrders = true) {F : Tr IFn} (hF : ∀ f i, F.get f = some i → IsFn P f i) (fuel : Nat) : ∀ k, OrX P (fX k F fuel) := by
  intro k
  induction k with
  | zero => intro f args H c K h; cases h
  | succ k ih =>
    intro f args H c K h
    obtain ⟨⟨n, body, res⟩, h1, h2⟩ := optT (show @Option.rec IFn (fun _ => Bool) false (@IFn.rec (fun _ => Bool) (fnX fuel (fX k F fuel) args H c K)) (Tr.gx IFn F f) = true from h)
    rw [Tr.gx_eq] at h1
    have h3 : fnX fuel (fX k F fuel) args H c K n body res = true := h2
    unfold fnX at h3
    cases hb : (Nat.ble args.length n && Nat.ble args.length 512) with
    | false => rw [hb] at h3; cases h3
    | true =>
      rw [hb] at h3
      rw [Bool.and_eq_true] at hb
      have hn := Nat.le_of_ble_eq_true hb.1
      have h512 := Nat.le_of_ble_eq_true hb.2
      refine AC.of hm (hF f _ h1) hn ?_
      have hk : ∀ fr H' c', krX res K fr H' c' = true → (match resV (stX fr H' c') res with
          | some v => ∃ H1, hpOf H' = hpOf H1 ∧ K v H1 c' = true
          | none => False) := by
        intro fr H' c' hkr
        obtain ⟨v, g1, g2⟩ := optT (show @Option.rec Value (fun _ => Bool) false (fun v => K v H' c') (resV ⟨tmX fr, hpOf H', c'⟩ res) = true from hkr)
        simp only [stX, g1]
        exact ⟨H', rfl, g2⟩
      have := cX_sound (N := n) ih body (krX res K) keF (krX res K) (retQ res fun v1 H1 c1 => ∃ H', H1 = hpOf H' ∧ K v1 H' c1 = true) hk (fun i fr H c h => by cases h) hk (arX args 0 fr0) H c h3
      rw [stX, tmX_args args h512] at this
      exact this

/-- **A closed call, by its run.** -/
theorem AC.runX (hm : P.follows .mixedOrders = true) {F : Tr IFn} (hF : ∀ f i, F.get f = some i → IsFn P f i) {fuel k f c : Nat} {args : List Value} {H : TrB} {K : KV} (h : fX k F fuel f args H c K = true) :
    AC P f args (hpOf H) c fun v1 H1 c1 => ∃ H', H1 = hpOf H' ∧ K v1 H' c1 = true := fX_ok hm hF fuel k f args H c K h
end
end Go.Eng
