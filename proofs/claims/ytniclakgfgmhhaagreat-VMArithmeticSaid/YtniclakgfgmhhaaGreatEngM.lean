/-
  THE ENGINE, part M: functions in the engine's own form: 'IC' (code), 'IFn' (a function), their translation, and the rules that speak of them alone.
-/
import Derived.Test.YtniclakgfgmhhaaGreatEngL
set_option linter.unusedVariables false
set_option linter.unusedSimpArgs false
namespace Go.Eng

inductive IC where
  | skip
  | reg (ops : List IOper)
  | drw (n : Nat) (d : DReg)
  | seq (x y : IC)
  | cond (c : Opd) (x y : IC)
  | blk (id : Nat) (x : IC)
  | loop (x : IC)
  | exit (id : Nat)
  | ret

/-! ### making a plan -/
def preds (o : Oper) : List Nat := (o.after.toList.filter fun e => Region.binds .any e).map (·.on)

def mkBef : List Oper → List (List Nat) → List (List Nat)
  | [], acc => acc
  | o :: r, acc => mkBef r (acc ++ [((preds o) ++ (preds o).flatMap fun j => acc.getD j []).eraseDups])

def isEff (ops : Array Oper) (io : List IOper) (bef : List (List Nat)) (n i : Nat) : Bool :=
  match ops[i]? with
  | some o => match o.op with
    | .assign _ => true
    | _ => !solo io bef n i
  | none => true

def nextFree (ops : Array Oper) (eff : List Bool) (done : List Nat) : Nat → Nat → Option Nat
  | 0, _ => none
  | k + 1, i => if !(eff.getD i true) && !done.contains i && predsIn ops i done then some i else nextFree ops eff done k (i + 1)
def nextEff (ops : Array Oper) (eff : List Bool) (done : List Nat) : Nat → Nat → Option Nat
  | 0, _ => none
  | k + 1, i => if eff.getD i true && !done.contains i && predsIn ops i done then some i else nextEff ops eff done k (i + 1)

def mkPlan (ops : Array Oper) (eff : List Bool) (bef : List (List Nat)) (n : Nat) : Nat → List Nat → List (Nat × Option (List Nat))
  | 0, _ => []
  | k + 1, done =>
    match nextFree ops eff done n 0 with
    | some i => (i, none) :: mkPlan ops eff bef n k (i :: done)
    | none => match nextEff ops eff done n 0 with
      | some i => (i, some ((done.filter fun j => !(eff.getD j true) && !(bef.getD i []).contains j).reverse)) :: mkPlan ops eff bef n k (i :: done)
      | none => []

def mkD (ops : Array Oper) (io : List IOper) : DReg :=
  let n := ops.size
  let bef := mkBef ops.toList []
  let eff := (List.range n).map (isEff ops io bef n)
  ⟨io, bef, mkPlan ops eff bef n n []⟩

def trC (P : Program) (N : Nat) : Code → Option IC
  | .skip => some .skip
  | .region _ ops draw => match trL P N ops ops.toList with
    | some io => match draw with
      | false => some (.reg io)
      | true => if (mkD ops io).ok ops then some (.drw ops.size (mkD ops io)) else none
    | none => none
  | .seq a b => match trC P N a, trC P N b with
    | some x, some y => some (.seq x y)
    | _, _ => none
  | .cond c a b => match opd c, trC P N a, trC P N b with
    | some c, some x, some y => some (.cond c x y)
    | _, _, _ => none
  | .block id b => (trC P N b).map (.blk id)
  | .loop b => (trC P N b).map .loop
  | .exit id => some (.exit id)
  | .ret => some .ret
  | _ => none

inductive RV where
  | tmp (t : Nat)
  | cell (a n : Nat) (agg : Bool)

def trR (P : Program) : List ResultVar → Option (List RV)
  | [] => some []
  | .tmp t :: r => (trR P r).map (.tmp t :: ·)
  | .cell a t :: r => match P.info? t, P.underlying t, trR P r with
    | some i, some u, some s => some (.cell a i.size (isAggD u) :: s)
    | _, _, _ => none

structure IFn where
  n : Nat
  body : IC
  res : List RV

def trFn (P : Program) (fn : Func) : Option IFn :=
  if fn.name == "runtime.NumGoroutine" then none else
  match fn.body with
  | some c => match trC P fn.ntmps c, trR P fn.results.toList with
    | some b, some r => some ⟨fn.ntmps, b, r⟩
    | _, _ => none
  | none => none

def IsFn (P : Program) (f : Nat) (i : IFn) : Prop := (P.funcs[f]?).bind (trFn P) = some i

def resL (s : St) : List RV → Option (List Value)
  | [] => some []
  | .tmp t :: r => match resL s r with
    | some vs => some (s.T t :: vs)
    | none => none
  | .cell a n agg :: r => match ldv s.H n agg (s.T a), resL s r with
    | some v, some vs => some (v :: vs)
    | _, _ => none

def resV (s : St) (rs : List RV) : Option Value :=
  match resL s rs with
  | some [v] => some v
  | some vs => some (.tuple vs.toArray)
  | none => none

/-! ### the rules -/
/-- A piece of code in the engine's form: whatever Go code it is the form of. -/
def IW (P : Program) (N : Nat) (ic : IC) (s : St) (Q : Exit → St → Prop) : Prop :=
  P.follows .mixedOrders = true → ∀ c, trC P N c = some ic → AWp P N c s Q

def wpI (P : Program) (N : Nat) : IC → St → (Exit → St → Prop) → Prop
  | .skip, s, Q => Q .normal s
  | .reg ops, s, Q => rwp P (Q .normal) ops s
  | .drw n d, s, Q => dwp P (Q .normal) d.ops s.c d.plan ⟨s.T, s.H, s.c + n⟩
  | .seq x y, s, Q => wpI P N x s (thenS (fun s' => wpI P N y s' Q) Q)
  | .cond c x y, s, Q => match c.ev s.T with
    | .bool true => wpI P N x s Q
    | .bool false => wpI P N y s Q
    | _ => False
  | .blk id x, s, Q => wpI P N x s (blkS id Q)
  | .loop x, s, Q => IW P N (.loop x) s Q
  | .exit id, s, Q => Q (.exit id) s
  | .ret, s, Q => Q .ret s

theorem IW.mono {P : Program} {N : Nat} {ic : IC} {s : St} {Q Q' : Exit → St → Prop} (h : IW P N ic s Q) (hq : ∀ e s', Q e s' → Q' e s') : IW P N ic s Q' :=
  fun hm c hc => (h hm c hc).mono hq

theorem wpI_sound {P : Program} {N : Nat} : ∀ (ic : IC) (s : St) (Q : Exit → St → Prop), wpI P N ic s Q → IW P N ic s Q := by
  intro ic
  induction ic with
  | skip =>
    intro s Q h hm c hc
    cases c <;> simp only [trC] at hc <;> (try (cases hc; done))
    · exact .skip h
    all_goals (repeat' (split at hc)) <;> (try (cases hc; done))
    all_goals simp at hc
  | reg ops =>
    intro s Q h hm c hc
    cases c <;> simp only [trC] at hc <;> (try (cases hc; done))
    · rename_i id os dr
      split at hc
      · rename_i io hio
        split at hc
        · cases hc; exact .region hio h
        · split at hc <;> cases hc
      · cases hc
    all_goals (repeat' (split at hc)) <;> (try (cases hc; done))
    all_goals simp at hc
  | drw n d =>
    intro s Q h hm c hc
    cases c <;> simp only [trC] at hc <;> (try (cases hc; done))
    · rename_i id os dr
      split at hc
      · rename_i io hio
        split at hc
        · cases hc
        · split at hc
          · rename_i hok
            cases hc
            exact .draw hm hio hok h
          · cases hc
      · cases hc
    all_goals (repeat' (split at hc)) <;> (try (cases hc; done))
    all_goals simp at hc
  | seq x y ihx ihy =>
    intro s Q h hm c hc
    cases c <;> simp only [trC] at hc <;> (try (cases hc; done))
    case seq a b =>
      split at hc
      · rename_i x' y' hx hy
        cases hc
        refine .seq ((ihx s _ h hm a hx).mono fun e s' q => ?_)
        cases e with
        | normal => exact ihy s' Q q hm b hy
        | _ => exact q
      · cases hc
    all_goals (repeat' (split at hc)) <;> (try (cases hc; done))
    all_goals simp at hc
  | cond o x y ihx ihy =>
    intro s Q h hm c hc
    cases c <;> simp only [trC] at hc <;> (try (cases hc; done))
    case cond c0 a b =>
      split at hc
      · rename_i c' x' y' hc0 hx hy
        cases hc
        simp only [wpI] at h
        split at h
        · rename_i hb; exact .cond hc0 hb (by rw [if_pos rfl]; exact ihx s Q h hm a hx)
        · rename_i hb; exact .cond hc0 hb (by rw [if_neg Bool.false_ne_true]; exact ihy s Q h hm b hy)
        · exact h.elim
      · cases hc
    all_goals (repeat' (split at hc)) <;> (try (cases hc; done))
    all_goals simp at hc
  | blk id x ih =>
    intro s Q h hm c hc
    cases c <;> simp only [trC] at hc <;> (try (cases hc; done))
    case block i b =>
      simp only [Option.map_eq_some_iff] at hc
      obtain ⟨x', hx, he⟩ := hc
      cases he
      exact .block (ih s _ h hm b hx)
    all_goals (repeat' (split at hc)) <;> (try (cases hc; done))
    all_goals simp at hc
  | loop x ih => exact fun s Q h => h
  | exit id =>
    intro s Q h hm c hc
    cases c <;> simp only [trC] at hc <;> (try (cases hc; done))
    case exit i => cases hc; exact .exit h
    all_goals (repeat' (split at hc)) <;> (try (cases hc; done))
    all_goals simp at hc
  | ret =>
    intro s Q h hm c hc
    cases c <;> simp only [trC] at hc <;> (try (cases hc; done))
    case ret => exact .ret h
    all_goals (repeat' (split at hc)) <;> (try (cases hc; done))
    all_goals simp at hc

/-- **A loop**: what holds at each round's head, with a number that every round lowers. -/
theorem IW.loop {P : Program} {N : Nat} {x : IC} {s : St} {Q : Exit → St → Prop} (I : Nat → St → Prop) (n : Nat) (h0 : I n s) (h : ∀ n s, I n s → wpI P N x s (thenS (fun s' => ∃ m, m < n ∧ I m s') Q)) : IW P N (.loop x) s Q := by
  intro hm c hc
  cases c <;> simp only [trC] at hc <;> (try (cases hc; done))
  case loop b =>
    simp only [Option.map_eq_some_iff] at hc
    obtain ⟨x', hx, he⟩ := hc
    cases he
    exact .loop I h0 fun k s' hi => wpI_sound x s' _ (h k s' hi) hm b hx
  all_goals (repeat' (split at hc)) <;> (try (cases hc; done))
  all_goals simp at hc

/-- The frame of a call. -/
def argT (args : List Value) : Tm := fun t => args.getD t undef

def retQ (rs : List RV) (Q : Value → Hp → Nat → Prop) : Exit → St → Prop
  | .normal, s | .ret, s => match resV s rs with
    | some v => Q v s.H s.c
    | none => False
  | _, _ => False

def resM (tmps : Array Value) : ResultVar → Sem Value
  | .tmp t => pure (tmps.getD t undef)
  | .cell x t => do loadVar t (← asAddr (tmps.getD x undef))

theorem results_eq (fn : Func) (tmps : Array Value) : results fn tmps = (do let vs ← fn.results.mapM (resM tmps); pure (if h : vs.size = 1 then vs[0] else .tuple vs)) := by
  unfold results
  congr 1

theorem resL_sound {P : Program} {ρ : Ren} {w : World} {s : St} {a : Act} (hR : Rep ρ s.H w) (hT : TRel ρ s.T a) : ∀ (os : List ResultVar) (rs : List RV) (vs : List Value), trR P os = some rs → resL s rs = some vs →
    ∃ vs', (os.mapM (resM a.tmps)).run P w = .ok vs' w ∧ ARel ρ vs.toArray vs'.toArray
  | [], rs, vs, h1, h2 => by
    simp only [trR, Option.some.injEq] at h1; subst h1
    simp only [resL, Option.some.injEq] at h2; subst h2
    exact ⟨[], rfl, rfl, by simp⟩
  | .tmp t :: os, rs, vs, h1, h2 => by
    simp only [trR, Option.map_eq_some_iff] at h1
    obtain ⟨rs', h1, rfl⟩ := h1
    simp only [resL] at h2
    split at h2
    · rename_i vs0 hv
      cases h2
      obtain ⟨vs', g1, g2⟩ := resL_sound hR hT os rs' vs0 h1 hv
      refine ⟨a.tmps.getD t undef :: vs', ?_, by simpa using g2.1, fun i x y hx hy => ?_⟩
      · simp only [List.mapM_cons, resM, Sem.run_bind, Sem.run_pure, Result.andThen_ok, g1]
      · cases i with
        | zero => simp only [List.getElem?_toArray, List.getElem?_cons_zero, Option.some.injEq] at hx hy; subst hx hy; exact hT t
        | succ i => exact g2.2 i x y (by simpa using hx) (by simpa using hy)
    · cases h2
  | .cell x t :: os, rs, vs, h1, h2 => by
    simp only [trR] at h1
    split at h1
    · rename_i i u rs' hi hu hrs
      cases h1
      simp only [resL] at h2
      split at h2
      · rename_i v vs0 hv hvs
        cases h2
        obtain ⟨vs', g1, g2⟩ := resL_sound hR hT os rs' vs0 hrs hvs
        obtain ⟨v', g3, g4⟩ := ld_sound (P := P) hR hi hu (hT x) hv
        have g5 : (resM a.tmps (.cell x t)).run P w = .ok v' w := by
          have hr := hT x
          unfold ldv at hv
          split at hv
          · rename_i id off he
            rw [he] at hr
            obtain ⟨-, tg, ht, hp⟩ := hr.ptr_inv
            rw [hp] at g3
            simp only [resM, hp]
            simpa [Instr.loadAt, Instr.sureAddr, asAddr] using g3
          · cases hv
        refine ⟨v' :: vs', ?_, by simpa using g2.1, fun i x y hx hy => ?_⟩
        · simp only [List.mapM_cons, Sem.run_bind, g5, Sem.run_pure, Result.andThen_ok, g1]
        · cases i with
          | zero => simp only [List.getElem?_toArray, List.getElem?_cons_zero, Option.some.injEq] at hx hy; subst hx hy; exact g4
          | succ i => exact g2.2 i x y (by simpa using hx) (by simpa using hy)
      · cases h2
    · cases h1

/-- **THE CONTRACT OF A FUNCTION, out of its body.** -/
theorem AC.of {P : Program} (hm : P.follows .mixedOrders = true) {f : Nat} {i : IFn} (hf : IsFn P f i) {args : List Value} (hn : args.length ≤ i.n) {H : Hp} {c : Nat} {Q : Value → Hp → Nat → Prop}
    (h : wpI P i.n i.body ⟨argT args, H, c⟩ (retQ i.res Q)) : AC P f args H c Q := by
  unfold IsFn at hf
  cases hfn : P.funcs[f]? with
  | none => rw [hfn] at hf; cases hf
  | some fn =>
    rw [hfn, Option.bind_some] at hf
    unfold trFn at hf
    split at hf
    · cases hf
    · rename_i hname
      split at hf
      · rename_i code hbody
        split at hf
        · rename_i b r hb hr
          cases hf
          refine ⟨?_, fun ρ w args' hR hfr hA => ?_⟩
          · unfold Callable
            rw [hfn]
            simp only [hbody, Option.isSome_some, Bool.and_true, Bool.not_eq_true']
            exact Bool.eq_false_iff.2 hname
          · refine calls_of_wp hfn hbody ?_
            have hsz : args'.size = args.length := by have := hA.1; simpa using this.symm
            have hS : Sim fn.ntmps ρ ⟨argT args, H, c⟩ { tmps := args' ++ Array.replicate (fn.ntmps - args'.size) undef, defers := [] } w := by
              refine ⟨fun t => ?_, hR, hfr, ?_, rfl⟩
              · simp only [argT, Array.getD_eq_getD_getElem?, Array.getElem?_append, List.getD_eq_getElem?_getD]
                split
                · rename_i ht
                  have h1 : args[t]? = some args[t] := List.getElem?_eq_getElem (by omega)
                  have h2 : args'[t]? = some args'[t] := by simp [ht]
                  rw [h1, h2]
                  exact hA.2 t _ _ (by simp) h2
                · rename_i ht
                  rw [List.getElem?_eq_none (by omega)]
                  simp only [Option.getD_none]
                  rw [Array.getElem?_replicate]
                  split <;> exact undef_rel ρ
              · simp only [Array.size_append, Array.size_replicate]
                simp only [] at hn
                omega
            refine wp_mono (wpI_sound b _ _ h hm code hb ρ _ w hS) fun e a' w' hk => ?_
            obtain ⟨ρ', s', q, hS', hst⟩ := hk
            have fin : ∀ v, resV s' r = some v → Q v s'.H s'.c → a'.defers = [] ∧ ∃ v', (results fn a'.tmps).run P w' = .ok v' w' ∧
                ∃ v0 v0' H' c' ρ', Ending.returned v' = .returned v0' ∧ Q v0 H' c' ∧ Did ρ H c w v0' w' v0 H' c' ρ' := by
              intro v hv hq
              unfold resV at hv
              have key : ∀ vs, resL s' r = some vs → ∃ vs' : List Value, (results fn a'.tmps).run P w' = .ok (if h : vs'.toArray.size = 1 then vs'.toArray[0] else .tuple vs'.toArray) w' ∧ ARel ρ' vs.toArray vs'.toArray := by
                intro vs hvs
                obtain ⟨vs', g1, g2⟩ := resL_sound (P := P) hS'.rep hS'.tm fn.results.toList r vs hr hvs
                refine ⟨vs', ?_, g2⟩
                rw [results_eq, Array.mapM_eq_mapM_toList, Sem.run_bind, Sem.run_map, g1]
                rfl
              have did : ∀ v', VRel ρ' v v' → Did ρ H c w v' w' v s'.H s'.c ρ' := fun v' hv' => ⟨hv', hS'.rep, hS'.fresh, hst.up, hst.dom, hst.same, hst.ext⟩
              refine ⟨hS'.dfr, ?_⟩
              split at hv
              · rename_i v1 hl
                cases hv
                obtain ⟨vs', g1, g2⟩ := key _ hl
                have hlen : vs'.length = 1 := by have := g2.1; simpa using this.symm
                obtain ⟨y, rfl⟩ : ∃ y, vs' = [y] := by
                  cases vs' with
                  | nil => simp at hlen
                  | cons y t => cases t with
                    | nil => exact ⟨y, rfl⟩
                    | cons z t => simp at hlen
                refine ⟨y, by simpa using g1, v, y, _, _, _, rfl, hq, did y (g2.2 0 v y rfl rfl)⟩
              · rename_i vs hne hl
                cases hv
                obtain ⟨vs', g1, g2⟩ := key _ hl
                have hlen : vs.length = vs'.length := by have := g2.1; simpa using this
                have hn1 : ¬ vs'.toArray.size = 1 := by
                  intro h1
                  have h2 : vs.length = 1 := by rw [hlen]; simpa using h1
                  cases vs with
                  | nil => simp at h2
                  | cons y t => cases t with
                    | nil => exact hne y rfl
                    | cons z t => simp at h2
                refine ⟨.tuple vs'.toArray, by rwa [dif_neg hn1] at g1, _, _, _, _, _, rfl, hq, did _ (.mkTup g2)⟩
              · cases hv
            cases e <;> simp only [retQ] at q
            · split at q
              · rename_i v hv; exact fin v hv q
              · exact q.elim
            · split at q
              · rename_i v hv; exact fin v hv q
              · exact q.elim
        · cases hf
      · cases hf

end Go.Eng
