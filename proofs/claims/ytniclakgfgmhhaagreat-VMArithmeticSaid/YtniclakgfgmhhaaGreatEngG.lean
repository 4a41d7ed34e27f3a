/-
  THE ENGINE, part G: calls by contract ('AC'), one operation, regions in the order of the text, code, functions.
-/
import Derived.Test.YtniclakgfgmhhaaGreatEngF
import Derived.Deep.LoopGhost
set_option linter.unusedVariables false
set_option linter.unusedSimpArgs false
namespace Go.Eng

structure St where
  T : Tm
  H : Hp
  c : Nat

/-- An abstract state stands for a frame and a world. -/
structure Sim (N : Nat) (ρ : Ren) (s : St) (a : Act) (w : World) : Prop where
  tm : TRel ρ s.T a
  rep : Rep ρ s.H w
  fresh : ∀ id, s.c ≤ id → ρ id = none
  size : a.tmps.size = N
  dfr : a.defers = []

structure Step (ρ : Ren) (s : St) (w : World) (ρ' : Ren) (s' : St) (w' : World) : Prop where
  up : s.c ≤ s'.c
  dom : ∀ id, id < s.c → s'.H id ≠ none → s.H id ≠ none
  same : ∀ id, id < s.c → ρ' id = ρ id
  ext : Ext ρ s.H w ρ' s'.H w'

theorem Step.refl (ρ : Ren) (s : St) (w : World) : Step ρ s w ρ s w := ⟨Nat.le_refl _, fun _ _ h => h, fun _ _ => rfl, Ext.refl _ _ _⟩
theorem Step.trans {ρ ρ' ρ'' : Ren} {s s' s'' : St} {w w' w'' : World} (h : Step ρ s w ρ' s' w') (k : Step ρ' s' w' ρ'' s'' w'') : Step ρ s w ρ'' s'' w'' :=
  ⟨Nat.le_trans h.up k.up, fun id hid hne => h.dom id hid (k.dom id (Nat.lt_of_lt_of_le hid h.up) hne), fun id hid => (k.same id (Nat.lt_of_lt_of_le hid h.up)).trans (h.same id hid), h.ext.trans k.ext⟩

def Callable (P : Program) (f : Nat) : Bool :=
  match P.funcs[f]? with
  | some fn => !(fn.name == "runtime.NumGoroutine") && fn.body.isSome
  | none => false

/-- THE CONTRACT OF A CALL over abstract memory: whatever world the memory stands for, the call returns, and what it returns and leaves is told by Q. -/
def AC (P : Program) (f : Nat) (args : List Value) (H : Hp) (c : Nat) (Q : Value → Hp → Nat → Prop) : Prop :=
  Callable P f = true ∧ ∀ (ρ : Ren) (w : World) (args' : Array Value), Rep ρ H w → (∀ id, c ≤ id → ρ id = none) → ARel ρ args.toArray args' →
    Calls P f args' w fun e w' => ∃ v v' H' c' ρ', e = .returned v' ∧ Q v H' c' ∧ Did ρ H c w v' w' v H' c' ρ'

theorem AC.mono {P : Program} {f : Nat} {args : List Value} {H : Hp} {c : Nat} {Q Q' : Value → Hp → Nat → Prop} (h : AC P f args H c Q) (hq : ∀ v H' c', Q v H' c' → Q' v H' c') : AC P f args H c Q' :=
  ⟨h.1, fun ρ w args' h1 h2 h3 => (h.2 ρ w args' h1 h2 h3).mono fun e w' ⟨v, v', H', c', ρ', e1, q, d⟩ => ⟨v, v', H', c', ρ', e1, hq _ _ _ q, d⟩⟩

inductive IOp where
  | pur (f : FOp)
  | new (f : AOp)
  | eff (f : EOp)
  | call (f : Nat) (args : List Opd)
  | callv (x : Opd) (args : List Opd)

structure IOper where
  dst : Option Nat
  op : IOp
  guard : Option (Nat × Bool)

def trCl (P : Program) : Op → Option IOp
  | .call { callee := .value (.func f), args, .. } => (opdL args.toList).map (.call f)
  | .call { callee := .value (.tmp t), args, .. } => (opdL args.toList).map (.callv (.t t))
  | _ => none

def trI (P : Program) (op : Op) : Option IOp :=
  match trF P op with
  | some f => some (.pur f)
  | none => match trA P op with
    | some f => some (.new f)
    | none => match trE P op with
      | some f => some (.eff f)
      | none => trCl P op

def oneP (P : Program) (s : St) (K : Value → Hp → Nat → Prop) : IOp → Prop
  | .pur f => match fev s.H (Opd.ev s.T) f with
    | some v => K v s.H s.c
    | none => False
  | .new f => match aev (Opd.ev s.T) f with
    | some (k, b) => K (mkv s.c k) (s.H.upd s.c b) (s.c + 1)
    | none => False
  | .eff f => match eev s.H s.c (Opd.ev s.T) f with
    | some (v, H', c') => K v H' c'
    | none => False
  | .call f args => AC P f (args.map (Opd.ev s.T)) s.H s.c K
  | .callv x args => match x.ev s.T with
    | .func (.func f) a c => AC P f (a.toList ++ args.map (Opd.ev s.T) ++ c.toList) s.H s.c K
    | _ => False

theorem run_callFunc {P : Program} {f : Nat} (h : Callable P f = true) (args : Array Value) (w : World) : (callFunc f args).run P w = .ok (.enter f args) w := by
  unfold Callable at h
  split at h
  · rename_i fn hf
    simp only [Bool.and_eq_true, Bool.not_eq_true'] at h
    have h1 : ¬ (fn.name == "runtime.NumGoroutine") = true := by rw [h.1]; simp
    have h2 : ¬ fn.body.isNone = true := by cases hb : fn.body <;> simp [hb] at h ⊢
    unfold callFunc
    rw [Sem.run_bind, run_program, Result.andThen_ok]
    simp only [hf]
    rw [if_neg h1, if_neg h2]
    rfl
  · cases h

section
variable {P : Program} {ρ : Ren} {w : World} {a : Act} {N : Nat}

/-- **One operation.** -/
theorem one_sound {s : St} (hS : Sim N ρ s a w) {o : Oper} {i : IOp} (htr : trI P o.op = some i) {K : Value → Hp → Nat → Prop} (h : oneP P s K i) {next : Act → World → Prop} {Q : Exit → Act → World → Prop}
    (hn : ∀ v v' H' c' ρ' w', K v H' c' → Did ρ s.H s.c w v' w' v H' c' ρ' → next (a.put o.dst v') w') : o.wp P a w next Q := by
  unfold trI at htr
  split at htr
  · rename_i f hf
    cases htr
    simp only [oneP] at h
    split at h
    · rename_i v hv
      obtain ⟨v', h1, h2⟩ := fev_sound hS.rep hS.tm hf hv
      unfold Oper.wp
      rw [h1]
      exact hn v v' _ _ ρ w h ⟨h2, hS.rep, hS.fresh, Nat.le_refl _, fun _ _ h => h, fun _ _ => rfl, Ext.refl _ _ _⟩
    · exact h.elim
  · rename_i hn1
    clear hn1
    split at htr
    · rename_i f hf
      cases htr
      simp only [oneP] at h
      split at h
      · rename_i k b hk
        have hid := hS.fresh s.c (Nat.le_refl _)
        obtain ⟨v', c, e, h1, h2, h3, h4⟩ := aev_sound (w := w) hS.tm hid hf hk
        unfold Oper.wp
        rw [h1]
        refine hn _ v' _ _ _ _ h ⟨h2, hS.rep.alloc hid h4 h3 rfl, fun j hj => ?_, Nat.le_succ _, fun j hj hne => ?_, fun j hj => by simp only [Ren.upd, show j ≠ s.c by omega, if_false], Ext.alloc hS.rep hid rfl rfl rfl rfl⟩
        · simp only [Ren.upd, show j ≠ s.c by omega, if_false]
          exact hS.fresh j (by omega)
        · simpa [Hp.upd, show j ≠ s.c by omega] using hne
      · exact h.elim
    · rename_i hn1
      clear hn1
      split at htr
      · rename_i f hf
        cases htr
        obtain ⟨dst, op, ty, pos, aft, guard⟩ := o
        simp only [oneP] at h
        split at h
        · rename_i v H' c' hv
          cases op <;> simp only [trE] at hf <;> (try (cases hf; done))
          case store t x y =>
            split at hf
            · rename_i inf x' y' hi hx hy
              cases hf
              have rx := opd_sound hS.tm hx
              have ry := opd_sound hS.tm hy
              simp only [eev] at hv
              split at hv
              · rename_i id off he
                split at hv
                · rename_i b hb
                  split at hv
                  · rename_i hg
                    obtain ⟨g1, g2, g3, g4⟩ := hg
                    cases hv
                    obtain ⟨w', q1, q2⟩ := st_sound hS.rep hS.fresh hi rx ry he hb g1 g2 g3 g4
                    unfold Oper.wp
                    have hrun : (execOp a.eval ⟨dst, .store t x y, ty, pos, aft, guard⟩).run P w = .ok .skip w' := by
                      simp only [execOp, Sem.run_bind, q1, Result.andThen_ok, Sem.run_pure]
                    rw [hrun]
                    exact hn _ _ _ _ _ _ h q2
                  · cases hv
                · cases hv
              · cases hv
            · cases hf
          case call cl =>
            obtain ⟨callee, args, ats⟩ := cl
            cases callee with
            | value f => simp only [] at hf; cases hf
            | invoke r m => simp only [] at hf; cases hf
            | builtin b =>
              cases b <;> simp only [] at hf <;> (try (cases hf; done))
              split at hf
              · rename_i x y t u hargs hats
                obtain rfl : args = #[x, y] := by apply Array.ext'; simpa using hargs
                obtain rfl : ats = #[t, u] := by apply Array.ext'; simpa using hats
                split at hf
                · rename_i x' y' e hx hy ht
                  split at hf
                  · rename_i inf hi
                    split at hf
                    · rename_i z hz
                      split at hf
                      · rename_i hg
                        obtain ⟨g1, g2⟩ := hg
                        have rx := opd_sound hS.tm hx
                        have ry := opd_sound hS.tm hy
                        have hex : ∀ v' w', (Builtin.append_ #[t, u] ty #[a.eval x, a.eval y]).run P w = .ok v' w' →
                            (execOp a.eval ⟨dst, .call ⟨.builtin .append, #[x, y], #[t, u]⟩, ty, pos, aft, guard⟩).run P w = .ok (.value v') w' := by
                          intro v' w' hr
                          simp only [execOp, resolve, invoke, builtin, Sem.run_bind, Sem.run_pure, Result.andThen_ok, List.map_toArray, List.map_cons, List.map_nil, hr]
                        split at hf
                        · rename_i htu
                          subst htu
                          cases hf
                          simp only [eev] at hv
                          split at hv
                          · rename_i m src hsrc
                            obtain ⟨news, hs⟩ := src_sound (P := P) hS.rep ry hsrc
                            obtain ⟨v', w', ρ', q1, q2⟩ := app_sound (ty := ty) hS.rep hS.fresh ht ht (.inl ⟨_, rfl⟩) hi hz g1 g2 rx hs hv
                            unfold Oper.wp
                            rw [hex _ _ q1]
                            exact hn _ _ _ _ _ _ h q2
                          · cases hv
                        · split at hf
                          · rename_i hu
                            split at hf
                            · rename_i h11
                              obtain ⟨h1, h2⟩ := h11
                              cases hf
                              simp only [eev] at hv
                              split at hv
                              · rename_i str he
                                rw [he] at ry
                                have hs := str_src (P := P) (ρ := ρ) (w := w) str
                                rw [← h1] at hs
                                have hv' : appR s.H s.c inf.size inf.bytes (x'.ev s.T) str.data.toList.length (bytesV str) = some (v, H', c') := by rw [h1, h2]; exact hv
                                obtain ⟨v', w', ρ', q1, q2⟩ := app_sound (ty := ty) hS.rep hS.fresh ht hu (.inr rfl) hi hz g1 g2 rx hs hv'
                                unfold Oper.wp
                                rw [hex _ _ (by rw [ry.str_inv]; exact q1)]
                                exact hn _ _ _ _ _ _ h q2
                              · cases hv
                            · cases hf
                          · cases hf
                      · cases hf
                    · cases hf
                  · cases hf
                · cases hf
              · cases hf
        · exact h.elim
      · rename_i hn1
        clear hn1
        obtain ⟨dst, op, ty, pos, aft, guard⟩ := o
        unfold trCl at htr
        split at htr
        · rename_i f args ats heq
          simp only [] at heq
          subst heq
          simp only [Option.map_eq_some_iff] at htr
          obtain ⟨xs, hxs, rfl⟩ := htr
          simp only [oneP] at h
          have hr := opdL_sound hS.tm hxs
          have hargs : (args.map a.eval) = (args.toList.map a.eval).toArray := by apply Array.ext'; simp
          unfold Oper.wp
          have hrun : (execOp a.eval ⟨dst, .call ⟨.value (.func f), args, ats⟩, ty, pos, aft, guard⟩).run P w = .ok (.enter f (args.map a.eval)) w := by
            simp only [execOp, resolve, Act.eval, Deferred.ofValue, Sem.run_bind, Sem.run_pure, Result.andThen_ok, invoke, Array.empty_append, Array.append_empty, run_callFunc h.1]
          rw [hrun, Oper.upon_enter, hargs]
          refine (h.2 ρ w _ hS.rep hS.fresh hr).mono fun e w' hq => ?_
          obtain ⟨v, v', H', c', ρ', rfl, q, d⟩ := hq
          exact hn _ _ _ _ _ _ q d
        · rename_i t args ats heq
          simp only [] at heq
          subst heq
          simp only [Option.map_eq_some_iff] at htr
          obtain ⟨xs, hxs, rfl⟩ := htr
          simp only [oneP] at h
          have rt := hS.tm t
          simp only [Opd.ev] at h
          split at h
          · rename_i f fa fc hT
            rw [hT] at rt
            obtain ⟨fa', fc', hv, ra, rc⟩ := rt.func_inv
            have hr := opdL_sound hS.tm hxs
            have hargs : (args.map a.eval) = (args.toList.map a.eval).toArray := by apply Array.ext'; simp
            unfold Oper.wp
            have hev : a.eval (.tmp t) = .func (.func f) fa' fc' := hv
            have hrun : (execOp a.eval ⟨dst, .call ⟨.value (.tmp t), args, ats⟩, ty, pos, aft, guard⟩).run P w = .ok (.enter f (fa' ++ args.map a.eval ++ fc')) w := by
              simp only [execOp, resolve, hev, Deferred.ofValue, Sem.run_bind, Sem.run_pure, Result.andThen_ok, invoke, run_callFunc h.1]
            rw [hrun, Oper.upon_enter, hargs]
            have happ : ∀ {p q r p' q' r' : Array Value}, ARel ρ p p' → ARel ρ q q' → ARel ρ r r' → ARel ρ (p ++ q ++ r) (p' ++ q' ++ r') := by
              have h2 : ∀ {p q p' q' : Array Value}, ARel ρ p p' → ARel ρ q q' → ARel ρ (p ++ q) (p' ++ q') := by
                intro p q p' q' hp hq
                refine ⟨by simp [hp.1, hq.1], fun i x y hx hy => ?_⟩
                rw [Array.getElem?_append] at hx hy
                rw [← hp.1] at hy
                split at hx
                · rename_i hi; rw [if_pos hi] at hy; exact hp.2 i x y hx hy
                · rename_i hi; rw [if_neg hi] at hy; exact hq.2 _ x y hx hy
              intro p q r p' q' r' hp hq hr
              exact h2 (h2 hp hq) hr
            have hall : ARel ρ (fa.toList ++ xs.map (Opd.ev s.T) ++ fc.toList).toArray (fa' ++ (args.toList.map a.eval).toArray ++ fc') := by
              have := happ ra hr rc
              have he : (fa.toList ++ xs.map (Opd.ev s.T) ++ fc.toList).toArray = fa ++ (xs.map (Opd.ev s.T)).toArray ++ fc := by apply Array.ext'; simp
              rw [he]; exact this
            refine (h.2 ρ w _ hS.rep hS.fresh hall).mono fun e w' hq => ?_
            obtain ⟨v, v', H', c', ρ', rfl, q, d⟩ := hq
            exact hn _ _ _ _ _ _ q d
          · exact h.elim
        · cases htr
end

/-! ### a region in the order of the text -/
def wantV (v : Value) (b : Bool) : Bool :=
  match v with
  | .bool c => c == b
  | _ => false

def wantG (T : Tm) : Option (Nat × Bool) → Bool
  | none => true
  | some (t, b) => wantV (T t) b

def updO (T : Tm) (d : Option Nat) (v : Value) : Tm :=
  match d with
  | some d => T.upd d v
  | none => T

def rwp (P : Program) (Q : St → Prop) : List IOper → St → Prop
  | [], s => Q s
  | o :: os, s =>
    match wantG s.T o.guard with
    | true => oneP P s (fun v H' c' => rwp P Q os ⟨updO s.T o.dst v, H', c'⟩) o.op
    | false => rwp P Q os ⟨updO s.T o.dst undef, s.H, s.c⟩

def trG (ops : Array Oper) : Option (Nat × Bool) → Option (Option (Nat × Bool))
  | none => some none
  | some (j, b) => match ops[j]? with
    | some o => match o.dst with
      | some t => some (some (t, b))
      | none => none
    | none => none

def dstOk (N : Nat) : Option Nat → Bool
  | none => true
  | some d => Nat.ble (d + 1) N

def trO (P : Program) (N : Nat) (ops : Array Oper) (o : Oper) : Option IOper :=
  match trI P o.op, trG ops o.guard, dstOk N o.dst with
  | some i, some g, true => some ⟨o.dst, i, g⟩
  | _, _, _ => none

def trL (P : Program) (N : Nat) (ops : Array Oper) : List Oper → Option (List IOper)
  | [] => some []
  | o :: r => match trO P N ops o, trL P N ops r with
    | some i, some s => some (i :: s)
    | _, _ => none

section
variable {P : Program} {ρ : Ren} {w : World} {a : Act} {N : Nat}

theorem TRel.put {T : Tm} (hT : TRel ρ T a) {d : Nat} (hd : d < a.tmps.size) {v v' : Value} (hv : VRel ρ v v') : TRel ρ (T.upd d v) (a.put (some d) v') := by
  intro t
  simp only [Tm.upd, Act.put]
  by_cases h : t = d
  · subst h
    simp only [if_true, Array.getD_eq_getD_getElem?, Array.getElem?_setIfInBounds_self_of_lt hd, Option.getD_some]
    exact hv
  · simp only [h, if_false, Array.getD_eq_getD_getElem?, Array.getElem?_setIfInBounds_ne (Ne.symm h)]
    have := hT t
    simpa [Array.getD_eq_getD_getElem?] using this

theorem TRel.putO {T : Tm} (hT : TRel ρ T a) {d : Option Nat} (hd : dstOk a.tmps.size d = true) {v v' : Value} (hv : VRel ρ v v') : TRel ρ (updO T d v) (a.put d v') := by
  cases d with
  | none => exact hT
  | some d => exact hT.put (by simp only [dstOk, Nat.ble_eq] at hd; omega) hv

theorem size_put (a : Act) (d : Option Nat) (v : Value) : (a.put d v).tmps.size = a.tmps.size := by
  cases d <;> simp [Act.put]
theorem defers_put (a : Act) (d : Option Nat) (v : Value) : (a.put d v).defers = a.defers := by
  cases d <;> rfl

theorem undef_rel (ρ : Ren) : VRel ρ undef undef := .tup _ _ rfl (by simp)

theorem Sim.did {s : St} (hS : Sim N ρ s a w) {d : Option Nat} (hd : dstOk N d = true) {v v' : Value} {w' : World} {H' : Hp} {c' : Nat} {ρ' : Ren} (h : Did ρ s.H s.c w v' w' v H' c' ρ') :
    Sim N ρ' ⟨updO s.T d v, H', c'⟩ (a.put d v') w' ∧ Step ρ s w ρ' ⟨updO s.T d v, H', c'⟩ w' :=
  ⟨⟨(hS.tm.mono h.ext.le).putO (by rw [hS.size]; exact hd) h.val, h.rep, h.fresh, (size_put _ _ _).trans hS.size, (defers_put _ _ _).trans hS.dfr⟩, ⟨h.up, h.dom, h.same, h.ext⟩⟩

theorem want_rel {s : St} (hS : Sim N ρ s a w) {ops : Array Oper} {g : Option (Nat × Bool)} {g' : Option (Nat × Bool)} (h : trG ops g = some g') {o : Oper} (ho : o.guard = g) :
    Region.wanted o (yielded ops a.tmps) = wantG s.T g' := by
  unfold Region.wanted
  rw [ho]
  cases g with
  | none => simp only [trG, Option.some.injEq] at h; subst h; rfl
  | some jb =>
    obtain ⟨j, b⟩ := jb
    simp only [trG] at h
    split at h
    · rename_i oj hj
      split at h
      · rename_i t ht
        cases h
        simp only [wantG, yielded, hj, Option.bind_some, ht]
        have hr := hS.tm t
        rw [Array.getD_eq_getD_getElem?] at hr
        cases hc : a.tmps[t]? with
        | none =>
          rw [hc] at hr
          simp only [Option.getD_none] at hr
          generalize s.T t = x at hr
          cases x <;> first | rfl | (cases hr; done)
        | some y =>
          rw [hc] at hr
          simp only [Option.getD_some] at hr
          generalize s.T t = x at hr
          cases hr <;> first | rfl | (simp only [wantV]; cases b <;> rename_i c <;> cases c <;> rfl)
      · cases h
    · cases h

/-- What a piece of code owes to its end. -/
def Ends (N : Nat) (ρ : Ren) (s : St) (w : World) (Q : Exit → St → Prop) : Exit → Act → World → Prop :=
  fun e a' w' => ∃ ρ' s', Q e s' ∧ Sim N ρ' s' a' w' ∧ Step ρ s w ρ' s' w'

theorem rwp_sound {ops : Array Oper} {Q : Exit → Act → World → Prop} {Q' : St → Prop} : ∀ (os : List Oper) (is : List IOper) {ρ : Ren} {s : St} {a : Act} {w : World}, trL P N ops os = some is → Sim N ρ s a w →
    rwp P Q' is s → (∀ ρ' s' a' w', Q' s' → Sim N ρ' s' a' w' → Step ρ s w ρ' s' w' → Q .normal a' w') → wpList P ops Q os a w
  | [], is, ρ, s, a, w, htr, hS, h, hq => by
    simp only [trL, Option.some.injEq] at htr
    subst htr
    exact hq ρ s a w h hS (Step.refl _ _ _)
  | o :: os, is, ρ, s, a, w, htr, hS, h, hq => by
    simp only [trL] at htr
    split at htr
    · rename_i i is' ho his
      cases htr
      unfold trO at ho
      split at ho
      · rename_i op g hop hg hd
        cases ho
        unfold wpList
        rw [want_rel hS hg rfl]
        simp only [rwp] at h
        split at h
        · rename_i hw
          rw [if_pos hw]
          left
          refine one_sound hS hop h fun v v' H' c' ρ' w' hk d => ?_
          obtain ⟨hS', hst⟩ := hS.did hd d
          exact rwp_sound os is' his hS' hk fun ρ2 s2 a2 w2 q2 hS2 hst2 => hq ρ2 s2 a2 w2 q2 hS2 (hst.trans hst2)
        · rename_i hw
          rw [if_neg (by rw [hw]; exact Bool.false_ne_true)]
          have d : Did ρ s.H s.c w undef w undef s.H s.c ρ := ⟨undef_rel ρ, hS.rep, hS.fresh, Nat.le_refl _, fun _ _ h => h, fun _ _ => rfl, Ext.refl _ _ _⟩
          obtain ⟨hS', hst⟩ := hS.did hd d
          exact rwp_sound os is' his hS' h fun ρ2 s2 a2 w2 q2 hS2 hst2 => hq ρ2 s2 a2 w2 q2 hS2 (hst.trans hst2)
      · cases ho
    · cases htr

/-! ### code -/
/-- A piece of code over abstract states. -/
def AWp (P : Program) (N : Nat) (c : Code) (s : St) (Q : Exit → St → Prop) : Prop :=
  ∀ (ρ : Ren) (a : Act) (w : World), Sim N ρ s a w → c.wp P (Ends N ρ s w Q) a w

theorem AWp.mono {c : Code} {s : St} {Q Q' : Exit → St → Prop} (h : AWp P N c s Q) (hq : ∀ e s', Q e s' → Q' e s') : AWp P N c s Q' :=
  fun ρ a w hS => wp_mono (h ρ a w hS) fun e a' w' ⟨ρ', s', q, r⟩ => ⟨ρ', s', hq _ _ q, r⟩

theorem AWp.region {id : Nat} {ops : Array Oper} {is : List IOper} (htr : trL P N ops ops.toList = some is) {s : St} {Q : Exit → St → Prop} (h : rwp P (Q .normal) is s) : AWp P N (.region id ops false) s Q :=
  fun ρ a w hS => wp_region_list (rwp_sound ops.toList is htr hS h fun ρ' s' a' w' q hS' hst => ⟨ρ', s', q, hS', hst⟩)

def thenS (next : St → Prop) (Q : Exit → St → Prop) : Exit → St → Prop
  | .normal, s => next s
  | e, s => Q e s

theorem Ends.step {s s' : St} {ρ ρ' : Ren} {w w' : World} (h : Step ρ s w ρ' s' w') {Q : Exit → St → Prop} {e : Exit} {a'' : Act} {w'' : World} (k : Ends N ρ' s' w' Q e a'' w'') : Ends N ρ s w Q e a'' w'' :=
  let ⟨ρ2, s2, q, hS, hst⟩ := k; ⟨ρ2, s2, q, hS, h.trans hst⟩

theorem AWp.seq {x y : Code} {s : St} {Q : Exit → St → Prop} (h : AWp P N x s (thenS (fun s' => AWp P N y s' Q) Q)) : AWp P N (.seq x y) s Q := by
  intro ρ a w hS
  refine wp_seq (wp_mono (h ρ a w hS) fun e a' w' hk => ?_)
  obtain ⟨ρ', s', q, hS', hst⟩ := hk
  cases e with
  | normal => exact wp_mono (q ρ' a' w' hS') fun e2 a2 w2 hk2 => Ends.step hst hk2
  | _ => exact ⟨ρ', s', q, hS', hst⟩

theorem AWp.cond {c : Operand} {x : Opd} (hc : opd c = some x) {t e : Code} {s : St} {Q : Exit → St → Prop} {b : Bool} (hb : x.ev s.T = .bool b) (h : AWp P N (if b then t else e) s Q) : AWp P N (.cond c t e) s Q := by
  intro ρ a w hS
  have hr := opd_sound hS.tm hc
  rw [hb] at hr
  exact wp_cond hr.bool_inv (h ρ a w hS)

def blkS (id : Nat) (Q : Exit → St → Prop) : Exit → St → Prop
  | .exit i, s => if i = id then Q .normal s else Q (.exit i) s
  | e, s => Q e s

theorem AWp.block {id : Nat} {c : Code} {s : St} {Q : Exit → St → Prop} (h : AWp P N c s (blkS id Q)) : AWp P N (.block id c) s Q := by
  intro ρ a w hS
  refine wp_block (wp_mono (h ρ a w hS) fun e a' w' hk => ?_)
  obtain ⟨ρ', s', q, hS', hst⟩ := hk
  cases e with
  | exit i =>
    simp only [blkS] at q
    simp only [Exit.inBlock]
    split
    · rename_i hi; rw [if_pos hi] at q; exact ⟨ρ', s', q, hS', hst⟩
    · rename_i hi; rw [if_neg hi] at q; exact ⟨ρ', s', q, hS', hst⟩
  | _ => exact ⟨ρ', s', q, hS', hst⟩

theorem AWp.skip {s : St} {Q : Exit → St → Prop} (h : Q .normal s) : AWp P N .skip s Q := fun ρ a w hS => wp_skip ⟨ρ, s, h, hS, Step.refl _ _ _⟩
theorem AWp.exit {id : Nat} {s : St} {Q : Exit → St → Prop} (h : Q (.exit id) s) : AWp P N (.exit id) s Q := fun ρ a w hS => wp_exit ⟨ρ, s, h, hS, Step.refl _ _ _⟩
theorem AWp.ret {s : St} {Q : Exit → St → Prop} (h : Q .ret s) : AWp P N .ret s Q := fun ρ a w hS => wp_ret ⟨ρ, s, h, hS, Step.refl _ _ _⟩

/-- A loop: what holds at each round's head, and a measure. -/
theorem AWp.loop {c : Code} {s : St} {Q : Exit → St → Prop} (I : Nat → St → Prop) {n : Nat} (h0 : I n s) (hI : ∀ n s, I n s → AWp P N c s (thenS (fun s' => ∃ m, m < n ∧ I m s') Q)) : AWp P N (.loop c) s Q := by
  intro ρ a w hS
  refine wp_loop_ghost (fun n a' w' => ∃ ρ' s', I n s' ∧ Sim N ρ' s' a' w' ∧ Step ρ s w ρ' s' w') n ⟨ρ, s, h0, hS, Step.refl _ _ _⟩ ?_
  rintro k a1 w1 ⟨ρ1, s1, hi, hS1, hst1⟩
  refine wp_mono (hI k s1 hi ρ1 a1 w1 hS1) fun e a2 w2 hk => ?_
  obtain ⟨ρ2, s2, q, hS2, hst2⟩ := hk
  cases e with
  | normal =>
    obtain ⟨m, hm, hi2⟩ := q
    exact ⟨m, hm, ρ2, s2, hi2, hS2, hst1.trans hst2⟩
  | _ => exact ⟨ρ2, s2, q, hS2, hst1.trans hst2⟩

/-- A smaller memory stands for the same world. -/
theorem Rep.less {ρ : Ren} {H H0 : Hp} {w : World} (hR : Rep ρ H w) (h : ∀ j, H0 j = none ∨ H0 j = H j) : Rep ρ H0 w := by
  have up : ∀ j b, H0 j = some b → H j = some b := fun j b hj => by
    rcases h j with h0 | h0 <;> rw [h0] at hj
    · cases hj
    · exact hj
  exact ⟨fun j b hj => hR.blk j b (up j b hj), fun a b ba bb ta tb h1 h2 => hR.sep a b ba bb ta tb (up a ba h1) (up b bb h2)⟩
end
end Go.Eng
