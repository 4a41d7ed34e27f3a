/-
  THE ENGINE, part N: closed calls, run. Memory and frames are tries here, so that the kernel can reckon with them.
-/
import Derived.Test.YtniclakgfgmhhaaGreatEngM
set_option linter.unusedVariables false
set_option linter.unusedSimpArgs false
namespace Go.Eng

inductive Tr (α : Type) where
  | nil
  | node (v : Option α) (l r : Tr α)

namespace Tr
variable {α : Type}
def get : Tr α → Nat → Option α
  | nil, _ => none
  | node v l r, n =>
    match Nat.beq n 0 with
    | true => v
    | false => match Nat.beq (n % 2) 1 with
      | true => l.get (n / 2)
      | false => r.get (n / 2 - 1)

def setF : Nat → Tr α → Nat → Option α → Tr α
  | 0, t, _, _ => t
  | k + 1, t, n, x =>
    match t with
    | nil => match Nat.beq n 0 with
      | true => node x nil nil
      | false => match Nat.beq (n % 2) 1 with
        | true => node none (setF k nil (n / 2) x) nil
        | false => node none nil (setF k nil (n / 2 - 1) x)
    | node v l r => match Nat.beq n 0 with
      | true => node x l r
      | false => match Nat.beq (n % 2) 1 with
        | true => node v (setF k l (n / 2) x) r
        | false => node v l (setF k r (n / 2 - 1) x)

def set (t : Tr α) (n : Nat) (x : Option α) : Tr α := setF (n + 1) t n x

theorem beqF {a b : Nat} (h : a ≠ b) : Nat.beq a b = false := by
  cases hb : Nat.beq a b
  · rfl
  · exact absurd (Nat.eq_of_beq_eq_true hb) h

theorem get_setF : ∀ (k : Nat) (t : Tr α) (n : Nat) (x : Option α), n < k → ∀ m, (setF k t n x).get m = if m = n then x else t.get m := by
  intro k
  induction k with
  | zero => intro t n x h; omega
  | succ k ih =>
    intro t n x hn m
    have e0 : ∀ (a b : Nat), Nat.beq a b = true ↔ a = b := fun a b => ⟨Nat.eq_of_beq_eq_true, fun h => by subst h; exact Nat.beq_refl a⟩
    have key : ∀ (v : Option α) (l r : Tr α), (match Nat.beq n 0 with
        | true => node x l r
        | false => match Nat.beq (n % 2) 1 with
          | true => node v (setF k l (n / 2) x) r
          | false => node v l (setF k r (n / 2 - 1) x)).get m = if m = n then x else (node v l r).get m := by
      intro v l r
      by_cases h0 : n = 0
      · subst h0
        simp only [Nat.beq_refl]
        by_cases hm : m = 0
        · subst hm; simp [get]
        · have : Nat.beq m 0 = false := beqF hm
          simp only [get, this, hm, if_false]
      · have hb0 : Nat.beq n 0 = false := beqF h0
        rw [hb0]
        simp only []
        by_cases h1 : n % 2 = 1
        · rw [(e0 _ _).2 h1]
          simp only [get]
          by_cases hm0 : m = 0
          · subst hm0; simp only [Nat.beq_refl]; rw [if_neg (by omega)]
          · have hbm : Nat.beq m 0 = false := beqF hm0
            rw [hbm]
            simp only []
            by_cases hm1 : m % 2 = 1
            · rw [(e0 _ _).2 hm1]
              simp only []
              rw [ih l (n / 2) x (by omega)]
              by_cases hmn : m = n
              · subst hmn; simp
              · rw [if_neg (by omega), if_neg hmn]
            · have : Nat.beq (m % 2) 1 = false := beqF hm1
              rw [this]
              simp only []
              rw [if_neg (fun e => hm1 (by rw [e]; exact h1))]
        · have hb1 : Nat.beq (n % 2) 1 = false := beqF h1
          rw [hb1]
          simp only [get]
          by_cases hm0 : m = 0
          · subst hm0; simp only [Nat.beq_refl]; rw [if_neg (by omega)]
          · have hbm : Nat.beq m 0 = false := beqF hm0
            rw [hbm]
            simp only []
            by_cases hm1 : m % 2 = 1
            · rw [(e0 _ _).2 hm1]
              simp only []
              rw [if_neg (fun e => h1 (by rw [← e]; exact hm1))]
            · have : Nat.beq (m % 2) 1 = false := beqF hm1
              rw [this]
              simp only []
              rw [ih r (n / 2 - 1) x (by omega)]
              by_cases hmn : m = n
              · subst hmn; simp
              · rw [if_neg (by omega), if_neg hmn]
    cases t with
    | nil =>
      have h := key none nil nil
      simp only [setF]
      refine Eq.trans (Eq.trans ?_ h) ?_
      · by_cases h0 : n = 0
        · subst h0; rfl
        · have hb0 : Nat.beq n 0 = false := beqF h0
          rw [hb0]
      · have : (node none nil nil : Tr α).get m = (nil : Tr α).get m := by
          simp only [get]
          split
          · rfl
          · split <;> rfl
        rw [this]
    | node v l r => simp only [setF]; exact key v l r

theorem get_set (t : Tr α) (n : Nat) (x : Option α) (m : Nat) : (t.set n x).get m = if m = n then x else t.get m := get_setF (n + 1) t n x (Nat.lt_succ_self n) m
end Tr

structure GS where
  T : Tr Value
  H : Tr Blk
  c : Nat

def tmOf (t : Tr Value) : Tm := fun i => (t.get i).getD undef
def hpOf (t : Tr Blk) : Hp := fun i => t.get i
def GS.st (g : GS) : St := ⟨tmOf g.T, hpOf g.H, g.c⟩

theorem hpOf_set (t : Tr Blk) (id : Nat) (b : Blk) : hpOf (t.set id (some b)) = (hpOf t).upd id b := by
  funext j; simp only [hpOf, Tr.get_set, Hp.upd]
theorem hpOf_del (t : Tr Blk) (id : Nat) : hpOf (t.set id none) = (hpOf t).del id := by
  funext j; simp only [hpOf, Tr.get_set, Hp.del]
theorem tmOf_set (t : Tr Value) (d : Nat) (v : Value) : tmOf (t.set d (some v)) = (tmOf t).upd d v := by
  funext j; simp only [tmOf, Tr.get_set, Tm.upd]; split <;> rfl

def setO (t : Tr Value) (d : Option Nat) (v : Value) : Tr Value :=
  match d with
  | some d => t.set d (some v)
  | none => t
theorem tmOf_setO (t : Tr Value) (d : Option Nat) (v : Value) : tmOf (setO t d v) = updO (tmOf t) d v := by
  cases d with
  | none => rfl
  | some d => exact tmOf_set t d v

abbrev Res := Option (Value × Tr Blk × Nat)

def gApp (H : Tr Blk) (c sz bytes : Nat) (s : Value) (m : Nat) (src : List Value) : Res :=
  match s with
  | .slice none 0 0 =>
    match m with
    | 0 => some (.slice none 0 0, H, c)
    | _ => match Nat.ble (m * bytes) 140737488355328, Nat.ble m maxLen with
      | true, true => some (.slice (some ⟨c, 0, none⟩) m 0, H.set c (some ⟨sz, true, src⟩), c + 1)
      | _, _ => none
  | .slice (some ⟨id, 0, none⟩) n 0 =>
    match H.get id with
    | some b =>
      if b.own = true ∧ b.unit = sz ∧ n * sz ≤ b.cells.length ∧ (n + m) * bytes ≤ 140737488355328 ∧ n + m ≤ maxLen then
        some (.slice (some ⟨c, 0, none⟩) (n + m) 0, (H.set id none).set c (some ⟨sz, true, b.cells.take (n * sz) ++ src⟩), c + 1)
      else none
    | none => none
  | _ => none

def gEff (H : Tr Blk) (c : Nat) (e : Opd → Value) : EOp → Res
  | .st n x v => match e x with
    | .pointer (some ⟨id, off, none⟩) => match H.get id with
      | some b =>
        if b.own = true ∧ (e v).cells.size = n ∧ off + n ≤ b.cells.length ∧ (e v).cells.all Value.oneCell' = true then
          some (undef, H.set id (some ⟨b.unit, true, b.cells.take off ++ (e v).cells.toList ++ b.cells.drop (off + n)⟩), c)
        else none
      | none => none
    | _ => none
  | .app sz bytes s x => match srcOf (hpOf H) sz (e x) with
    | some (m, src) => gApp H c sz bytes (e s) m src
    | none => none
  | .apps s x => match e x with
    | .string t => gApp H c 1 1 (e s) t.data.toList.length (bytesV t)
    | _ => none

theorem gApp_sound {H : Tr Blk} {c sz bytes : Nat} {s : Value} {m : Nat} {src : List Value} {v : Value} {H' : Tr Blk} {c' : Nat} (h : gApp H c sz bytes s m src = some (v, H', c')) :
    appR (hpOf H) c sz bytes s m src = some (v, hpOf H', c') := by
  unfold gApp at h
  unfold appR
  split at h
  · split at h
    · cases h; rfl
    · split at h
      · rename_i h1 h2; cases h; simp only [h1, h2, hpOf_set]
      · cases h
  · rename_i id n
    split at h
    · rename_i b hb
      split at h
      · rename_i hg
        cases h
        simp only [hpOf, hb]
        rw [if_pos hg]
        have e1 := hpOf_set (H.set id none) c ⟨sz, true, b.cells.take (n * sz) ++ src⟩
        rw [hpOf_del] at e1
        exact congrArg (fun X => some (Value.slice (some ⟨c, 0, none⟩) (n + m) 0, X, c + 1)) e1.symm
      · cases h
    · cases h
  · cases h

theorem gEff_sound {H : Tr Blk} {c : Nat} {e : Opd → Value} {f : EOp} {v : Value} {H' : Tr Blk} {c' : Nat} (h : gEff H c e f = some (v, H', c')) : eev (hpOf H) c e f = some (v, hpOf H', c') := by
  cases f with
  | st n x u =>
    simp only [gEff] at h
    simp only [eev]
    split at h
    · rename_i id off he
      simp only [he]
      split at h
      · rename_i b hb
        split at h
        · rename_i hg
          cases h
          have hb' : hpOf H id = some b := hb
          simp only [hb']
          rw [if_pos hg]
          rw [hpOf_set]
        · cases h
      · cases h
    · cases h
  | app sz bytes s x =>
    simp only [gEff] at h
    simp only [eev]
    split at h
    · rename_i m src hs; simp only [hs]; exact gApp_sound h
    · cases h
  | apps s x =>
    simp only [gEff] at h
    simp only [eev]
    split at h
    · rename_i t he; simp only [he]; exact gApp_sound h
    · cases h

abbrev Oracle := Nat → List Value → Tr Blk → Nat → Res

def gOne (call : Oracle) (T : Tm) (H : Tr Blk) (c : Nat) : IOp → Res
  | .pur f => match fev (hpOf H) (Opd.ev T) f with
    | some v => some (v, H, c)
    | none => none
  | .new f => match aev (Opd.ev T) f with
    | some (k, b) => some (mkv c k, H.set c (some b), c + 1)
    | none => none
  | .eff f => gEff H c (Opd.ev T) f
  | .call f args => call f (args.map (Opd.ev T)) H c
  | .callv x args => match x.ev T with
    | .func (.func f) a k => call f (a.toList ++ args.map (Opd.ev T) ++ k.toList) H c
    | _ => none

def gReg (call : Oracle) : List IOper → GS → Option GS
  | [], g => some g
  | o :: os, g => match wantG (tmOf g.T) o.guard with
    | true => match gOne call (tmOf g.T) g.H g.c o.op with
      | some (v, H', c') => gReg call os ⟨setO g.T o.dst v, H', c'⟩
      | none => none
    | false => gReg call os ⟨setO g.T o.dst undef, g.H, g.c⟩

/-! ### values held against each other -/
def vEqL (veq : Value → Value → Bool) : List Value → List Value → Bool
  | [], [] => true
  | a :: r, b :: s => veq a b && vEqL veq r s
  | _, _ => false

def adEq (a b : Option Addr) : Bool :=
  match a, b with
  | none, none => true
  | some ⟨x, y, none⟩, some ⟨u, v, none⟩ => Nat.beq x u && Nat.beq y v
  | _, _ => false

def vEq1 : Value → Value → Bool
  | .bool a, .bool b => a == b
  | .int j a, .int k b => decide (j = k) && decide (a = b)
  | .string a, .string b => strL a == strL b
  | .pointer a, .pointer b => adEq a b
  | .slice a n c, .slice b m d => adEq a b && Nat.beq n m && Nat.beq c d
  | .nilFunc, .nilFunc => true
  | .func (.func f) a c, .func (.func g) b d => Nat.beq f g && a.isEmpty && b.isEmpty && vEqL (fun x y => match x, y with | .pointer p, .pointer q => adEq p q | _, _ => false) c.toList d.toList
  | _, _ => false

def vEq2 : Value → Value → Bool
  | .agg a, .agg b => vEqL vEq1 a.toList b.toList
  | .tuple a, .tuple b => vEqL vEq1 a.toList b.toList
  | a, b => vEq1 a b

theorem adEq_sound {a b : Option Addr} (h : adEq a b = true) : a = b := by
  unfold adEq at h
  split at h
  · rfl
  · rw [Bool.and_eq_true] at h
    rw [Nat.eq_of_beq_eq_true h.1, Nat.eq_of_beq_eq_true h.2]
  · cases h

theorem vEqL_sound {veq : Value → Value → Bool} (hv : ∀ a b, veq a b = true → a = b) : ∀ {l m : List Value}, vEqL veq l m = true → l = m
  | [], [], _ => rfl
  | [], _ :: _, h => by cases h
  | _ :: _, [], h => by cases h
  | a :: r, b :: s, h => by
    simp only [vEqL, Bool.and_eq_true] at h
    rw [hv a b h.1, vEqL_sound hv h.2]

theorem vEq1_sound (a b : Value) (h : vEq1 a b = true) : a = b := by
  unfold vEq1 at h
  split at h
  · simp only [beq_iff_eq] at h; rw [h]
  · simp only [Bool.and_eq_true, decide_eq_true_eq] at h; rw [h.1, h.2]
  · rename_i s t
    simp only [beq_iff_eq] at h
    congr 1
    apply ByteArray.ext
    apply Array.ext'
    exact h
  · rw [adEq_sound h]
  · simp only [Bool.and_eq_true] at h
    rw [adEq_sound h.1.1, Nat.eq_of_beq_eq_true h.1.2, Nat.eq_of_beq_eq_true h.2]
  · rfl
  · rename_i f a c g b d
    simp only [Bool.and_eq_true] at h
    obtain ⟨⟨⟨h1, h2⟩, h3⟩, h4⟩ := h
    have e1 := Nat.eq_of_beq_eq_true h1
    have e2 : a = #[] := by simpa using h2
    have e3 : b = #[] := by simpa using h3
    have e4 : c.toList = d.toList := vEqL_sound (fun x y hxy => by
      split at hxy
      · rw [adEq_sound hxy]
      · cases hxy) h4
    rw [e1, e2, e3, Array.ext' e4]
  · cases h

theorem vEq2_sound (a b : Value) (h : vEq2 a b = true) : a = b := by
  unfold vEq2 at h
  split at h
  · congr 1; exact Array.ext' (vEqL_sound vEq1_sound h)
  · congr 1; exact Array.ext' (vEqL_sound vEq1_sound h)
  · exact vEq1_sound a b h

def bEq (a b : Option Blk) : Bool :=
  match a, b with
  | none, none => true
  | some x, some y => Nat.beq x.unit y.unit && (x.own == y.own) && vEqL vEq1 x.cells y.cells
  | _, _ => false

theorem bEq_sound {a b : Option Blk} (h : bEq a b = true) : a = b := by
  unfold bEq at h
  split at h
  · rfl
  · rename_i x y
    simp only [Bool.and_eq_true, beq_iff_eq] at h
    obtain ⟨⟨h1, h2⟩, h3⟩ := h
    obtain ⟨u, o, c⟩ := x
    obtain ⟨u', o', c'⟩ := y
    have e1 := Nat.eq_of_beq_eq_true h1
    have e3 := vEqL_sound vEq1_sound h3
    simp only at e1 h2 e3
    subst e1 h2 e3
    rfl
  · cases h

/-! ### a region that draws -/
def gHide (H : Tr Blk) : List Nat → Tr Blk
  | [] => H
  | k :: r => gHide (H.set k none) r
def gMerge (H : Tr Blk) : List Nat → Tr Blk → Tr Blk
  | [], H' => H'
  | k :: r, H' => gMerge H r (H'.set k (H.get k))

theorem gHide_eq : ∀ (ks : List Nat) (H : Tr Blk), hpOf (gHide H ks) = hide (hpOf H) ks
  | [], H => by funext j; simp [gHide, hide]
  | k :: r, H => by
    rw [gHide, gHide_eq r]
    funext j
    simp only [hide, hpOf, Tr.get_set, List.mem_cons]
    by_cases h1 : j ∈ r
    · simp [h1]
    · by_cases h2 : j = k <;> simp [h1, h2]
theorem gMerge_eq (H : Tr Blk) : ∀ (ks : List Nat) (H' : Tr Blk), hpOf (gMerge H ks H') = merge ks (hpOf H) (hpOf H')
  | [], H' => by funext j; simp [gMerge, merge]
  | k :: r, H' => by
    rw [gMerge, gMerge_eq H r]
    funext j
    simp only [merge, hpOf, Tr.get_set, List.mem_cons]
    by_cases h1 : j ∈ r
    · simp [h1]
    · by_cases h2 : j = k <;> simp [h1, h2]

def gAgain (io : List IOper) (c0 : Nat) (g : GS) (j : Nat) : Bool :=
  match io[j]? with
  | some o => match freeV g.st (c0 + j) o with
    | some (v, ob) => (match o.dst with
      | some d => vEq2 (tmOf g.T d) v
      | none => true) && bEq (g.H.get (c0 + j)) ob
    | none => false
  | none => false

def gDraw (call : Oracle) (io : List IOper) (c0 : Nat) : List (Nat × Option (List Nat)) → GS → Option GS
  | [], g => some g
  | (i, none) :: r, g => match io[i]? with
    | some o => match freeV g.st (c0 + i) o with
      | some (v, some b) => gDraw call io c0 r ⟨setO g.T o.dst v, g.H.set (c0 + i) (some b), g.c⟩
      | some (v, none) => gDraw call io c0 r ⟨setO g.T o.dst v, g.H, g.c⟩
      | none => none
    | none => none
  | (i, some pend) :: r, g => match io[i]? with
    | some o =>
      let ks := (pend.filter (isNew io)).map (c0 + ·)
      match (match wantG (tmOf g.T) o.guard with
        | true => gOne call (tmOf g.T) (gHide g.H ks) g.c o.op
        | false => some (undef, gHide g.H ks, g.c)) with
      | some (v, H', c') =>
        match pend.all (gAgain io c0 ⟨setO g.T o.dst v, gMerge g.H ks H', c'⟩) with
        | true => gDraw call io c0 r ⟨setO g.T o.dst v, gMerge g.H ks H', c'⟩
        | false => none
      | none => none
    | none => none

inductive GX where
  | normal
  | exit (id : Nat)
  | ret

def GX.ex : GX → Exit
  | .normal => .normal
  | .exit i => .exit i
  | .ret => .ret

def gLoop (f : GS → Option (GX × GS)) : Nat → GS → Option (GX × GS)
  | 0, _ => none
  | k + 1, g => match f g with
    | some (.normal, g') => gLoop f k g'
    | r => r

def gC (fuel : Nat) (call : Oracle) : IC → GS → Option (GX × GS)
  | .skip, g => some (.normal, g)
  | .reg ops, g => match gReg call ops g with
    | some g' => some (.normal, g')
    | none => none
  | .drw n d, g => match gDraw call d.ops g.c d.plan ⟨g.T, g.H, g.c + n⟩ with
    | some g' => some (.normal, g')
    | none => none
  | .seq x y, g => match gC fuel call x g with
    | some (.normal, g') => gC fuel call y g'
    | r => r
  | .cond c x y, g => match c.ev (tmOf g.T) with
    | .bool true => gC fuel call x g
    | .bool false => gC fuel call y g
    | _ => none
  | .blk id x, g => match gC fuel call x g with
    | some (.exit i, g') => if i = id then some (.normal, g') else some (.exit i, g')
    | r => r
  | .loop x, g => gLoop (gC fuel call x) fuel g
  | .exit id, g => some (.exit id, g)
  | .ret, g => some (.ret, g)

def gArgs : List Value → Nat → Tr Value → Tr Value
  | [], _, t => t
  | v :: r, i, t => gArgs r (i + 1) (t.set i (some v))

/-- A closed call, run: 'depth' bounds the calls in one another, 'fuel' the rounds of a loop. -/
def gF (F : Tr IFn) (fuel : Nat) : Nat → Oracle
  | 0, _, _, _, _ => none
  | k + 1, f, args, H, c => match F.get f with
    | some i => match Nat.ble args.length i.n with
      | true => match gC fuel (gF F fuel k) i.body ⟨gArgs args 0 .nil, H, c⟩ with
        | some (.exit _, _) => none
        | some (_, g) => match resV g.st i.res with
          | some v => some (v, g.H, g.c)
          | none => none
        | none => none
      | false => none
    | none => none

/-! ### why it is right -/
section
variable {P : Program}

def OrOk (P : Program) (call : Oracle) : Prop :=
  ∀ f args H c v H' c', call f args H c = some (v, H', c') → AC P f args (hpOf H) c fun v1 H1 c1 => v1 = v ∧ H1 = hpOf H' ∧ c1 = c'

theorem gOne_sound {call : Oracle} (ho : OrOk P call) {T : Tm} {H : Tr Blk} {c : Nat} {op : IOp} {v : Value} {H' : Tr Blk} {c' : Nat} (h : gOne call T H c op = some (v, H', c')) {K : Value → Hp → Nat → Prop} (hK : K v (hpOf H') c') :
    oneP P ⟨T, hpOf H, c⟩ K op := by
  cases op with
  | pur f =>
    simp only [gOne] at h
    simp only [oneP]
    split at h
    · rename_i v0 hv; cases h; simp only [hv]; exact hK
    · cases h
  | new f =>
    simp only [gOne] at h
    simp only [oneP]
    split at h
    · rename_i k b hk; cases h; simp only [hk]; rw [← hpOf_set]; exact hK
    · cases h
  | eff f =>
    simp only [gOne] at h
    simp only [oneP, gEff_sound h]
    exact hK
  | call f args =>
    simp only [gOne] at h
    exact (ho _ _ _ _ _ _ _ h).mono fun v1 H1 c1 ⟨e1, e2, e3⟩ => by subst e1 e2 e3; exact hK
  | callv x args =>
    simp only [gOne] at h
    simp only [oneP]
    split at h
    · rename_i f a k he
      simp only [he]
      exact (ho _ _ _ _ _ _ _ h).mono fun v1 H1 c1 ⟨e1, e2, e3⟩ => by subst e1 e2 e3; exact hK
    · cases h

theorem gReg_sound {call : Oracle} (ho : OrOk P call) {Q : St → Prop} : ∀ (ops : List IOper) (g g' : GS), gReg call ops g = some g' → Q g'.st → rwp P Q ops g.st
  | [], g, g', h, hq => by simp only [gReg, Option.some.injEq] at h; subst h; exact hq
  | o :: os, g, g', h, hq => by
    simp only [gReg] at h
    simp only [rwp, GS.st]
    split at h
    · rename_i hw
      simp only [hw]
      split at h
      · rename_i v H' c' hv
        refine gOne_sound ho hv ?_
        have := gReg_sound ho os _ g' h hq
        simpa only [GS.st, tmOf_setO] using this
      · cases h
    · rename_i hw
      simp only [hw]
      have := gReg_sound ho os _ g' h hq
      simpa only [GS.st, tmOf_setO] using this

theorem gAgain_sound {io : List IOper} {c0 : Nat} {g : GS} {j : Nat} (h : gAgain io c0 g j = true) : Again io c0 g.st j := by
  unfold gAgain at h
  unfold Again
  split at h
  · rename_i o ho
    simp only [ho]
    split at h
    · rename_i v ob hv
      simp only [hv]
      rw [Bool.and_eq_true] at h
      obtain ⟨h1, h2⟩ := h
      refine ⟨fun d hd => ?_, bEq_sound h2⟩
      rw [hd] at h1
      exact vEq2_sound _ _ h1
    · cases h
  · cases h

theorem gDraw_sound {call : Oracle} (ho : OrOk P call) {Q : St → Prop} {io : List IOper} {c0 : Nat} : ∀ (plan : List (Nat × Option (List Nat))) (g g' : GS), gDraw call io c0 plan g = some g' → Q g'.st → dwp P Q io c0 plan g.st
  | [], g, g', h, hq => by simp only [gDraw, Option.some.injEq] at h; subst h; exact hq
  | (i, none) :: r, g, g', h, hq => by
    simp only [gDraw] at h
    simp only [dwp]
    split at h
    · rename_i o hio
      simp only [hio]
      split at h
      · rename_i v b hv
        simp only [hv]
        have := gDraw_sound ho r _ g' h hq
        simpa only [GS.st, tmOf_setO, updB, hpOf_set] using this
      · rename_i v hv
        simp only [hv]
        have := gDraw_sound ho r _ g' h hq
        simpa only [GS.st, tmOf_setO, updB] using this
      · cases h
    · cases h
  | (i, some pend) :: r, g, g', h, hq => by
    simp only [gDraw] at h
    simp only [dwp]
    split at h
    · rename_i o hio
      simp only [hio]
      generalize hks : (pend.filter (isNew io)).map (c0 + ·) = ks at h
      split at h
      · rename_i v H' c' hv
        split at h
        · rename_i hall
          have hfin : AgainL io c0 ⟨updO (tmOf g.T) o.dst v, merge ks (hpOf g.H) (hpOf H'), c'⟩ pend ∧ dwp P Q io c0 r ⟨updO (tmOf g.T) o.dst v, merge ks (hpOf g.H) (hpOf H'), c'⟩ := by
            have est : (⟨setO g.T o.dst v, gMerge g.H ks H', c'⟩ : GS).st = ⟨updO (tmOf g.T) o.dst v, merge ks (hpOf g.H) (hpOf H'), c'⟩ := by
              simp only [GS.st, tmOf_setO, gMerge_eq]
            constructor
            · rw [← est]
              have hl : ∀ l : List Nat, (∀ j ∈ l, gAgain io c0 ⟨setO g.T o.dst v, gMerge g.H ks H', c'⟩ j = true) → AgainL io c0 (⟨setO g.T o.dst v, gMerge g.H ks H', c'⟩ : GS).st l := by
                intro l
                induction l with
                | nil => intro _; trivial
                | cons j l ih => intro hj; exact ⟨gAgain_sound (hj j List.mem_cons_self), ih fun k hk => hj k (List.mem_cons_of_mem _ hk)⟩
              exact hl pend (List.all_eq_true.1 hall)
            · rw [← est]; exact gDraw_sound ho r _ g' h hq
          simp only [GS.st, effP]
          split at hv
          · rename_i hw
            simp only [hw]
            rw [← gHide_eq]
            exact gOne_sound ho hv hfin
          · rename_i hw
            simp only [hw]
            cases hv
            have := hfin
            rw [gHide_eq] at this
            exact this
        · cases h
      · cases h
    · cases h

theorem gC_sound {fuel N : Nat} {call : Oracle} (ho : OrOk P call) : ∀ (ic : IC) (g : GS) (x : GX) (g' : GS), gC fuel call ic g = some (x, g') → ∀ Q : Exit → St → Prop, Q x.ex g'.st → wpI P N ic g.st Q := by
  intro ic
  induction ic with
  | skip => intro g x g' h Q hq; simp only [gC, Option.some.injEq, Prod.mk.injEq] at h; obtain ⟨rfl, rfl⟩ := h; exact hq
  | reg ops =>
    intro g x g' h Q hq
    simp only [gC] at h
    split at h
    · rename_i g1 hg
      cases h
      exact gReg_sound ho ops g _ hg hq
    · cases h
  | drw n d =>
    intro g x g' h Q hq
    simp only [gC] at h
    split at h
    · rename_i g1 hg
      cases h
      exact gDraw_sound ho d.plan _ _ hg hq
    · cases h
  | seq a b iha ihb =>
    intro g x g' h Q hq
    simp only [gC] at h
    split at h
    · rename_i g1 hg
      exact iha g .normal g1 hg _ (ihb g1 x g' h Q hq)
    · rename_i hne
      refine iha g x g' h _ ?_
      cases x with
      | normal => exact absurd h (hne _)
      | exit i => exact hq
      | ret => exact hq
  | cond c a b iha ihb =>
    intro g x g' h Q hq
    simp only [gC] at h
    simp only [wpI, GS.st]
    split at h
    · rename_i hc; simp only [hc]; exact iha g x g' h Q hq
    · rename_i hc; simp only [hc]; exact ihb g x g' h Q hq
    · cases h
  | blk id a ih =>
    intro g x g' h Q hq
    simp only [gC] at h
    split at h
    · rename_i i g1 hg
      refine ih g (.exit i) g1 hg _ ?_
      simp only [GX.ex, blkS]
      split at h
      · rename_i hi; cases h; rw [if_pos hi]; exact hq
      · rename_i hi; cases h; rw [if_neg hi]; exact hq
    · rename_i hne
      refine ih g x g' h _ ?_
      cases x with
      | exit i => exact absurd h (hne _ _)
      | normal => exact hq
      | ret => exact hq
  | loop a ih =>
    intro g x g' h Q hq
    simp only [gC] at h
    simp only [wpI]
    refine IW.loop (fun k s => ∃ g1, s = g1.st ∧ gLoop (gC fuel call a) k g1 = some (x, g')) fuel ⟨g, rfl, h⟩ ?_
    rintro k s ⟨g1, rfl, hk⟩
    cases k with
    | zero => cases hk
    | succ k =>
      simp only [gLoop] at hk
      split at hk
      · rename_i g2 hg2
        exact ih g1 .normal g2 hg2 _ ⟨k, Nat.lt_succ_self k, g2, rfl, hk⟩
      · rename_i hne
        refine ih g1 x g' hk _ ?_
        cases x with
        | normal => exact absurd hk (hne _)
        | exit i => exact hq
        | ret => exact hq
  | exit id => intro g x g' h Q hq; simp only [gC, Option.some.injEq, Prod.mk.injEq] at h; obtain ⟨rfl, rfl⟩ := h; exact hq
  | ret => intro g x g' h Q hq; simp only [gC, Option.some.injEq, Prod.mk.injEq] at h; obtain ⟨rfl, rfl⟩ := h; exact hq

theorem gArgs_get : ∀ (l : List Value) (i : Nat) (t : Tr Value) (m : Nat), (gArgs l i t).get m = if i ≤ m ∧ m < i + l.length then l[m - i]? else t.get m
  | [], i, t, m => by simp only [gArgs]; rw [if_neg (by simp)]
  | v :: r, i, t, m => by
    rw [gArgs, gArgs_get r (i + 1), Tr.get_set]
    simp only [List.length_cons]
    by_cases h1 : i + 1 ≤ m ∧ m < i + 1 + r.length
    · rw [if_pos h1, if_pos (by omega), show m - i = (m - (i + 1)) + 1 by omega, List.getElem?_cons_succ]
    · rw [if_neg h1]
      by_cases h2 : m = i
      · subst h2; rw [if_pos rfl, if_pos (by omega)]; simp
      · rw [if_neg h2, if_neg (by omega)]

theorem tmOf_args (l : List Value) : tmOf (gArgs l 0 .nil) = argT l := by
  funext m
  simp only [tmOf, argT, gArgs_get, List.getD_eq_getElem?_getD, Nat.zero_le, true_and, Nat.zero_add, Nat.sub_zero]
  split
  · rfl
  · rename_i h
    rw [List.getElem?_eq_none (by omega)]
    rfl

theorem gF_ok (hm : P.follows .mixedOrders = true) {F : Tr IFn} (hF : ∀ f i, F.get f = some i → IsFn P f i) (fuel : Nat) : ∀ k, OrOk P (gF F fuel k) := by
  intro k
  induction k with
  | zero => intro f args H c v H' c' h; cases h
  | succ k ih =>
    intro f args H c v H' c' h
    simp only [gF] at h
    split at h
    · rename_i i hi
      split at h
      · rename_i hn
        have fin : ∀ (x : GX) (g : GS), (x = .normal ∨ x = .ret) → gC fuel (gF F fuel k) i.body ⟨gArgs args 0 .nil, H, c⟩ = some (x, g) → (match resV g.st i.res with
          | some v => some (v, g.H, g.c)
          | none => none) = some (v, H', c') → AC P f args (hpOf H) c fun v1 H1 c1 => v1 = v ∧ H1 = hpOf H' ∧ c1 = c' := by
          intro x g hx hg hr
          refine AC.of hm (hF f i hi) (by rw [Nat.ble_eq] at hn; exact hn) ?_
          have := gC_sound (N := i.n) ih i.body ⟨gArgs args 0 .nil, H, c⟩ x g hg (retQ i.res fun v1 H1 c1 => v1 = v ∧ H1 = hpOf H' ∧ c1 = c') (by
            split at hr
            · rename_i v0 hv0
              cases hr
              rcases hx with rfl | rfl <;> (simp only [GX.ex, retQ, hv0]; simp [GS.st])
            · cases hr)
          simpa only [GS.st, tmOf_args] using this
        split at h
        · cases h
        · rename_i x g hne hg
          refine fin x g ?_ hg h
          cases x with
          | normal => exact .inl rfl
          | ret => exact .inr rfl
          | exit i => exact (hne i rfl).elim
        · cases h
      · cases h
    · cases h

/-- **A closed call, by its run.** -/
theorem AC.run (hm : P.follows .mixedOrders = true) {F : Tr IFn} (hF : ∀ f i, F.get f = some i → IsFn P f i) {fuel k f c : Nat} {args : List Value} {H H' : Tr Blk} {v : Value} {c' : Nat} (h : gF F fuel k f args H c = some (v, H', c')) :
    AC P f args (hpOf H) c fun v1 H1 c1 => v1 = v ∧ H1 = hpOf H' ∧ c1 = c' := gF_ok hm hF fuel k f args H c v H' c' h
end
end Go.Eng
