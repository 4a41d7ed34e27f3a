/-
  HELPERS of the claim: part 8 of its texts.
-/
import Derived.Test.YtcallbfckjlagaaDoorDecg
set_option linter.unusedVariables false
set_option linter.unusedSimpArgs false
namespace Go.Pb
open Go.Sym
def Tg (L : List Ins) (E : List Ent) : Prop :=
  ∃ hs : List Int, hs.length = L.length ∧ (∀ e ∈ E, 0 ≤ e.pos ∧ hs[e.pos.toNat]? = some 0) ∧ ∀ (j : Nat) i z, L[j]? = some i → hs[j]? = some z → Ok2 i j z fun s => hs[s.1]? = some s.2
theorem Tg.nil : Tg [] [] := ⟨[], rfl, by simp, by simp⟩
theorem Tg.hnd {L M : List Ins} {E : List Ent} {e : Ent} (h : Tg L E) (k : Sg L.length M 0 0) (he : e.pos = (L.length : Int)) : Tg (L ++ M ++ [⟨31, 0⟩]) (E ++ [e]) := by
  obtain ⟨hs, l1, n1, o1⟩ := h
  obtain ⟨ks, l2, s2, o2⟩ := k
  have key : ∀ (n : Nat) (w : Int), hs[n]? = some w → (hs ++ (ks ++ [0]))[n]? = some w := fun n w hn => by
    rw [List.getElem?_append_left (List.getElem?_eq_some_iff.1 hn).1]; exact hn
  have key2 : ∀ (n : Nat) (w : Int), L.length ≤ n → (ks ++ [0])[n - L.length]? = some w → (hs ++ (ks ++ [0]))[n]? = some w := fun n w hl hn => by
    rw [List.getElem?_append_right (by omega), l1]; exact hn
  refine ⟨hs ++ (ks ++ [0]), by simp [l1, l2], fun x hx => ?_, fun j i z hj hz => ?_⟩
  · rw [List.mem_append] at hx
    rcases hx with hx | hx
    · exact ⟨(n1 x hx).1, key _ _ (n1 x hx).2⟩
    · simp only [List.mem_singleton] at hx; subst hx
      refine ⟨by omega, key2 _ _ (by omega) ?_⟩
      have e0 : x.pos.toNat - L.length = 0 := by omega
      rw [e0]; exact s2
  · rw [List.append_assoc] at hj
    by_cases h1 : j < L.length
    · rw [List.getElem?_append_left h1] at hj
      rw [List.getElem?_append_left (by omega)] at hz
      exact (o1 j i z hj hz).mono fun s q => key _ _ q
    · rw [List.getElem?_append_right (by omega)] at hj
      rw [List.getElem?_append_right (by omega), l1] at hz
      by_cases h2 : j - L.length < M.length
      · rw [List.getElem?_append_left h2] at hj
        rw [List.getElem?_append_left (by omega)] at hz
        have h3 := o2 _ i z hj hz
        have e : L.length + (j - L.length) = j := by omega
        rw [e] at h3
        exact h3.mono fun s ⟨q1, q2⟩ => key2 _ _ q1 q2
      · rw [List.getElem?_append_right (by omega)] at hj hz
        have h4 : j - L.length - M.length = 0 := by
          rcases Nat.eq_zero_or_pos (j - L.length - M.length) with h | h
          · exact h
          · rw [List.getElem?_eq_none (by simp; omega)] at hj; cases hj
        rw [l2, h4] at hz
        rw [h4] at hj
        simp only [List.getElem?_cons_zero, Option.some.injEq] at hj hz
        subst hj hz
        exact ⟨⟨by decide, by decide⟩, by decide, by decide, by simp, fun s hs => by simp [afterM] at hs⟩
def kp0 (e : Ent) : Ent := ⟨e.mode, e.trigger, e.index, 0⟩
theorem mdH_tg {l : List UInt8} {key : Ent} {x : MS} {p : Nat} (h : Tg x.I x.E) : Tg (mdH l key x p).I (mdH l key x p).E := by
  obtain ⟨M, e, hM⟩ := mdB_sg (l := l) (x := (x.I, (nextM l p 4).2)) (nextM l p 4).1
  simp only [mdH]
  rw [e]
  exact h.hnd hM rfl
theorem mdK_tg {l : List UInt8} : ∀ i, Tg (mdK l i).I (mdK l i).E
  | 0 => Tg.nil
  | i + 1 => by
    have h := mdK_tg (l := l) i
    simp only [mdK, mdI]
    split
    · exact mdH_tg h
    · split
      · exact h
      · exact mdH_tg h
theorem mdH_kp {l : List UInt8} {key : Ent} {x : MS} {p : Nat} : (mdH l key x p).E.map kp0 = x.E.map kp0 ++ [kp0 key] := by simp [mdH, kp0]
theorem mdK_sub {l : List UInt8} : ∀ i, i ≤ 9 → ((mdK l i).E.map kp0).Sublist (keysM.take i)
  | 0, _ => by simp [mdK]
  | i + 1, hi => by
    have h := mdK_sub (l := l) i (by omega)
    have hk : i < keysM.length := by have : keysM.length = 9 := rfl; omega
    have hg := List.getElem?_eq_getElem hk
    have hk0 : ∀ e ∈ keysM, kp0 e = e := by decide
    have e1 : keysM.take (i + 1) = keysM.take i ++ [keysM.getD i ⟨0, 0, 0, 0⟩] := by
      rw [List.take_add_one, hg]
      have : keysM.getD i ⟨0, 0, 0, 0⟩ = keysM[i] := by simp [List.getD, hk]
      rw [this]; rfl
    have e2 : kp0 (keysM.getD i ⟨0, 0, 0, 0⟩) = keysM.getD i ⟨0, 0, 0, 0⟩ := by
      have : keysM.getD i ⟨0, 0, 0, 0⟩ = keysM[i] := by simp [List.getD, hk]
      rw [this]; exact hk0 _ (List.getElem_mem hk)
    simp only [mdK, mdI]
    rw [e1]
    split
    · rw [mdH_kp, e2]; exact List.Sublist.append h (List.Sublist.refl _)
    · split
      · exact h.trans (List.sublist_append_left _ _)
      · rw [mdH_kp, e2]; exact List.Sublist.append h (List.Sublist.refl _)
theorem chain_of_pw : ∀ (l : List Ent), l.Pairwise (fun a b => lessM a b = true) → chainM l = true
  | [], _ => rfl
  | [a], _ => rfl
  | a :: b :: r, h => by
    simp only [chainM, Bool.and_eq_true]
    rw [List.pairwise_cons] at h
    exact ⟨h.1 b List.mem_cons_self, chain_of_pw (b :: r) h.2⟩
theorem keys_pw : keysM.Pairwise (fun a b => lessM a b = true) := by decide
theorem tg_notBad {c : Prg} (h : Tg c.instrs c.entries) : ¬Bad c := by
  obtain ⟨hs, l1, n1, o1⟩ := h
  have hin : ∀ p, p < c.instrs.length → c.instrs[p]? = some (c.ins p) := fun p hp => by
    simp [Prg.ins, List.getD, hp]
  have key : ∀ p x, Rch c p x → hs[p]? = some x := by
    intro p x hr
    induction hr with
    | ent he => exact (n1 _ he).2
    | step h1 h2 h3 ih =>
      have hp := (List.getElem?_eq_some_iff.1 ih).1
      exact (o1 _ _ _ (hin _ (by omega)) ih).2.2.2.2 _ h3
  rintro ⟨p, x, h1, h2 | ⟨y, h2, h3⟩⟩
  · apply h2
    have ih := key p x h1
    have hp := (List.getElem?_eq_some_iff.1 ih).1
    obtain ⟨a, b, d, e, -⟩ := o1 p _ x (hin p (by omega)) ih
    exact ⟨by omega, b, d, e⟩
  · have e1 := key p x h1
    rw [key p y h2] at e1
    cases e1; exact h3 rfl
theorem made_valid (l : List UInt8) : validM (madeM l) = 0 := by
  rw [madeM]
  generalize l.take 200 = t
  obtain ⟨c, hc⟩ : ∃ c, c = madeT t := ⟨_, rfl⟩
  have ei : c.instrs = (mdK t 9).I := by rw [hc]; rfl
  have ee : c.entries = (mdK t 9).E := by rw [hc]; rfl
  have es : c.strings = mdS := by rw [hc]; rfl
  have ep : c.prios = mdP t := by rw [hc]; rfl
  have ev : c.vars = mdV := by rw [hc]; rfl
  have et : c.timers = 2 := by rw [hc]; rfl
  have en : c.events = 2 := by rw [hc]; rfl
  obtain ⟨b1, b2, b3⟩ := mdK_bd (l := t) 9
  have hT := mdK_tg (l := t) 9
  rw [← ei, ← ee] at hT
  rw [← ei] at b2
  rw [← ee] at b3
  have hpl : (mdP t).length = 2 := rfl
  have hL : limitsM c = true := by
    have e1 : c.strings.length = 2 := by rw [es]; rfl
    have e2 : c.prios.length = 2 := by rw [ep]; rfl
    have e3 : c.vars.length = 3 := by rw [ev]; rfl
    simp only [limitsM, inM, Bool.and_eq_true, decide_eq_true_eq]
    rw [e1, e2, e3, et, en]
    omega
  have hnum : ∀ i, numberM c i = numberM mc0 i := by
    intro i
    have e1 : c.strings.length = mc0.strings.length := by rw [es]; rfl
    have e2 : c.prios.length = mc0.prios.length := by rw [ep]; rfl
    have e3 : c.vars.length = mc0.vars.length := by rw [ev]; rfl
    have e4 : c.timers = mc0.timers := et
    have e5 : c.events = mc0.events := en
    unfold numberM kindM
    rw [e1, e2, e3, e4, e5]
  have hent : ∀ e, entryM c e = entryM mc0 e := by
    intro e
    have e2 : c.prios.length = mc0.prios.length := by rw [ep]; rfl
    have e4 : c.timers = mc0.timers := et
    have e5 : c.events = mc0.events := en
    unfold entryM
    rw [e2, e4, e5]
  have hsub := mdK_sub (l := t) 9 (by omega)
  rw [← ee] at hsub
  have hk9 : keysM.take 9 = keysM := rfl
  rw [hk9] at hsub
  obtain ⟨hs, l1, n1, o1⟩ := id hT
  have hz : ∀ (j : Nat) i, c.instrs[j]? = some i → ∃ z, hs[j]? = some z := fun j i hj => by
    have := (List.getElem?_eq_some_iff.1 hj).1
    exact ⟨hs[j], List.getElem?_eq_getElem (by omega)⟩
  have hP : partsM c = true := by
    simp only [partsM, Bool.and_eq_true, List.all_eq_true]
    refine ⟨⟨⟨⟨?_, ?_⟩, ?_⟩, ?_⟩, ?_⟩
    · rw [es]; decide
    · rw [ep]
      intro n hn
      have q1 := nextM_lt (l := t) (p := 0) (n := 4) (by omega)
      have q2 := nextM_lt (l := t) (p := (nextM t 0 4).2) (n := 4) (by omega)
      simp only [mdP, List.mem_cons, List.not_mem_nil, or_false] at hn
      rcases hn with rfl | rfl <;> exact in_rng (by omega) (by omega)
    · rw [ev]; decide
    · intro e he
      have hm : kp0 e ∈ keysM := hsub.subset (List.mem_map_of_mem he)
      have hall : ∀ e ∈ keysM, entryM mc0 e = true := by decide
      rw [hent]
      have h2 : entryM mc0 (kp0 e) = true := hall _ hm
      exact h2
    · intro i hi
      obtain ⟨j, hj⟩ := List.getElem?_of_mem hi
      obtain ⟨z, hz⟩ := hz j i hj
      rw [hnum]
      exact (o1 j i z hj hz).1.1
  have hJ : jumpsM c = true := by
    simp only [jumpsM, Bool.and_eq_true, List.all_eq_true]
    refine ⟨fun i hi => ?_, fun e he => ?_⟩
    · obtain ⟨j, hj⟩ := List.getElem?_of_mem hi
      obtain ⟨z, hz⟩ := hz j i hj
      obtain ⟨a, -, -, -, d⟩ := o1 j i z hj hz
      by_cases h7 : (effM i.op).2.2 = 7
      · have hJ : isJ i.op = true := by rw [isJ_kind, h7]; rfl
        have hA := a.2 hJ
        have hlt : i.A.toNat < hs.length := by
          have hop : i.op = 12 ∨ i.op = 13 ∨ i.op = 14 := by simpa [isJ] using hJ
          have hmem : ∃ w, (i.A.toNat, w) ∈ afterM i j z := by
            obtain ⟨op, A⟩ := i
            simp only at hop
            rcases hop with rfl | rfl | rfl
            · exact ⟨z, by rw [after12]; simp⟩
            · exact ⟨z - 1, by rw [after13]; simp⟩
            · exact ⟨z - 1, by rw [after14]; simp⟩
          obtain ⟨w, hw⟩ := hmem
          exact (List.getElem?_eq_some_iff.1 (d _ hw)).1
        simp only [jumpI, h7, inM]
        simp; omega
      · simp [jumpI, h7]
    · obtain ⟨a, d⟩ := n1 e he
      have := (List.getElem?_eq_some_iff.1 d).1
      exact in_rng (by omega) (by omega)
  have hC : chainM c.entries = true := by
    refine chain_of_pw _ ?_
    have := keys_pw.sublist hsub
    rw [List.pairwise_map] at this
    exact this
  have hH : (hR c).isNone = false := by
    have hs := hR_says (c := c) (by omega) hJ
    cases h : hR c with
    | none => rw [h] at hs; exact absurd hs (tg_notBad hT)
    | some x => rfl
  rw [← hc]
  simp [validM, hL, hP, hJ, hC, hH]
end Go.Pb
set_option maxHeartbeats 4000000
set_option maxRecDepth 100000
set_option linter.unusedSimpArgs false
set_option linter.unusedVariables false
namespace Go.Proofs.YtcallbfckjlagaaDoor
open Go.Eng (IC IOper DReg IFn IsFn)
open Go.Sym Go.Pb
theorem made_lens (l : List UInt8) : (∀ s ∈ (madeM l).strings, s.length ≤ 140737488355328) ∧ (madeM l).instrs.length ≤ 9223372036854775807 ∧ (madeM l).entries.length ≤ 9223372036854775807 := by
  obtain ⟨b1, b2, b3⟩ := mdK_bd (l := l.take 200) 9
  refine ⟨?_, ?_, ?_⟩
  · show ∀ s ∈ mdS, _
    simp [mdS]
  · show (mdK (l.take 200) 9).I.length ≤ _
    omega
  · show (mdK (l.take 200) 9).E.length ≤ _
    omega
end Go.Proofs.YtcallbfckjlagaaDoor
set_option linter.unusedVariables false
set_option linter.unusedSimpArgs false
namespace Go.Pb
open Go.Sym
theorem enc_len2 {c : Prg} (h0 : validM c = 0) : (encM c).length ≤ 900000 := by
  obtain ⟨b1, b2, b3, b4, b5, b6, b7⟩ := Bnd.valid h0
  obtain ⟨hL, -⟩ := valid_all h0
  obtain ⟨d1, d2, d3, d4, d5, -⟩ := Lim.dims hL
  have f1 := flat_len insB 20 c.instrs (fun x hx => by
    have h1 := numI_len (b1 x hx).1
    have h2 := numI_len (b1 x hx).2
    rw [insB, List.length_append]; omega)
  have f2 := flat_len strB 42 c.strings (fun x hx => by
    have h1 := b7 x hx
    have h2 := numI_len (n := (x.length : Int)) ⟨by omega, by omega⟩
    rw [strB, List.length_append]; omega)
  have f3 := flat_len entB 40 c.entries (fun x hx => by
    obtain ⟨h1, h2, h3, h4⟩ := b2 x hx
    have h1 := numI_len h1
    have h2 := numI_len h2
    have h3 := numI_len h3
    have h4 := numI_len h4
    simp only [entB, List.length_append]; omega)
  have f4 := numsB_len b3 (by omega)
  have f5 := numsB_len b4 (by omega)
  have f6 := numI_len b5
  have f7 := numI_len b6
  have f8 := numI_len (n := (c.instrs.length : Int)) ⟨by omega, by omega⟩
  have f9 := numI_len (n := (c.strings.length : Int)) ⟨by omega, by omega⟩
  have f10 := numI_len (n := (c.entries.length : Int)) ⟨by omega, by omega⟩
  simp only [encM, List.length_append]; omega
theorem valid_lens {c : Prg} (h0 : validM c = 0) : (∀ s ∈ c.strings, s.length ≤ 140737488355328) ∧ c.instrs.length ≤ 4000 ∧ c.strings.length ≤ 200 ∧ c.entries.length ≤ 512 ∧ c.prios.length ≤ 16 ∧ c.vars.length ≤ 128 := by
  obtain ⟨b1, b2, b3, b4, b5, b6, b7⟩ := Bnd.valid h0
  obtain ⟨hL, -⟩ := valid_all h0
  obtain ⟨d1, d2, d3, d4, d5, -⟩ := Lim.dims hL
  exact ⟨fun s hs => by have := b7 s hs; omega, d1, d2, d3, d4, d5⟩
end Go.Pb
set_option linter.unusedVariables false
set_option linter.unusedSimpArgs false
namespace Go.Pb
open Go.Sym
section
variable {o : Option Nat} {c : Prg} {cc : Nat}
end
theorem cv_one {z : UInt8} {n : Nat} (hn : n = z.toNat) (H : Hp) (id : Nat) : cvbsR (H.upd id ⟨1, true, [.int .u8 (n : Int)]⟩) (.slc id 0 1) = some (.str [z]) :=
  cv_own h_same (by rw [hn]; rfl) rfl
end Go.Pb
set_option maxHeartbeats 4000000
set_option maxRecDepth 100000
set_option linter.unusedSimpArgs false
set_option linter.unusedVariables false
namespace Go.Proofs.YtcallbfckjlagaaDoor
open Go.Eng (IC IOper DReg IFn IsFn)
open Go.Sym Go.Pb
noncomputable section
def u5_16r : List IOper := [oP 6 (.mv (.k (.bool false)))]
def u5_16 : IC := .seq (.reg u5_16r) .ret
def u5_15 : IC := .cond (.t 91) u5_16 .skip
def u5_14r : List IOper := [oP 83 (.mv (.t 13)), oP 84 (.mv (.t 15)), oP 85 (.bin .neq (.t 83) (.t 84)), oP 86 (.mv (.t 85)), ⟨some 87, .pur (.ld 7 true (.t 12)), some (86, false)⟩, ⟨some 88, .pur (.ld 7 true (.t 14)), some (86, false)⟩, ⟨some 89, .call 18 [.t 87, .t 88], some (86, false)⟩, ⟨some 90, .pur (.un .not (.t 89)), some (86, false)⟩, oP 91 (.pick (.t 86) (.k (.bool true)) (.t 90))]
def u5_14 : IC := .seq (.reg u5_14r) u5_15
def u5_22r : List IOper := [oP 6 (.mv (.k (.bool false)))]
def u5_22 : IC := .seq (.reg u5_22r) .ret
def u5_21 : IC := .cond (.t 105) u5_22 .skip
def u5_20r : List IOper := [oP 99 (.mv (.t 17)), oP 100 (.bin .neq (.t 99) (.k (.int .i64 0))), oP 101 (.mv (.t 100)), ⟨some 102, .pur (.mv (.t 16)), some (101, false)⟩, ⟨some 103, .pur (.mv (.t 11)), some (101, false)⟩, ⟨some 104, .pur (.bin .neq (.t 102) (.t 103)), some (101, false)⟩, oP 105 (.pick (.t 101) (.k (.bool true)) (.t 104))]
def u5_20 : IC := .seq (.reg u5_20r) u5_21
def u5_19r : List IOper := [oP 95 (.ld 7 true (.t 12)), ⟨some 96, .call 19 [.t 95], none⟩, oP 94 (.mv (.t 96)), oP 97 (.ext (.t 94) 0), oP 98 (.ext (.t 94) 1), oP 16 (.mv (.t 97)), oP 17 (.mv (.t 98))]
def u5_19 : IC := .seq (.reg u5_19r) u5_20
def u5_18 : IC := .cond (.t 93) u5_19 .skip
def u5_17r : List IOper := [oP 92 (.mv (.t 13)), oP 93 (.bin .eql (.t 92) (.k (.int .i64 0)))]
def u5_17 : IC := .seq (.reg u5_17r) u5_18
def u5_13 : IC := .seq u5_14 u5_17
def u5_12r : List IOper := [oP 79 (.mv (.t 11)), ⟨some 80, .call 17 [.t 79], none⟩, oP 78 (.mv (.t 80)), oP 81 (.ext (.t 78) 0), oP 82 (.ext (.t 78) 1), ⟨some 14, .new (.box (.k (.agg #[.slice none 0 0, .slice none 0 0, .slice none 0 0, .slice none 0 0, .slice none 0 0, .int .i64 0, .int .i64 0]))), none⟩, ⟨none, .eff (.st 7 (.t 14) (.t 81)), none⟩, oP 15 (.mv (.t 82))]
def u5_12 : IC := .seq (.reg u5_12r) u5_13
def u5_11r : List IOper := [oP 74 (.mv (.t 11)), ⟨some 75, .call 16 [.t 74], none⟩, oP 73 (.mv (.t 75)), oP 76 (.ext (.t 73) 0), oP 77 (.ext (.t 73) 1), ⟨some 12, .new (.box (.k (.agg #[.slice none 0 0, .slice none 0 0, .slice none 0 0, .slice none 0 0, .slice none 0 0, .int .i64 0, .int .i64 0]))), none⟩, ⟨none, .eff (.st 7 (.t 12) (.t 76)), none⟩, oP 13 (.mv (.t 77))]
def u5_11 : IC := .seq (.reg u5_11r) u5_12
def u5_10r : List IOper := [oP 71 (.iad 1 (.t 67) (.t 69)), oP 72 (.ld 1 false (.t 71)), oP 11 (.mv (.t 72))]
def u5_10 : IC := .seq (.reg u5_10r) u5_11
def u5_23r : List IOper := [oP 106 (.bin .add (.t 69) (.k (.int .i64 1))), oP 69 (.mv (.t 106))]
def u5_23 : IC := .reg u5_23r
def u5_9 : IC := .seq (.blk 1 u5_10) u5_23
def u5_8 : IC := .seq (.cond (.t 70) .skip (.exit 0)) u5_9
def u5_7r : List IOper := [oP 70 (.bin .lss (.t 69) (.t 68))]
def u5_7 : IC := .seq (.reg u5_7r) u5_8
def u5_6 : IC := .blk 0 (.loop u5_7)
def u5_5r : DReg := ⟨[oP 36 (.mv (.t 7)), oP 37 (.mv (.t 7)), oP 38 (.mv (.t 9)), oP 39 (.sls (.t 37) none (some (.t 38))), oP 40 (.mv (.t 7)), oP 41 (.mv (.t 9)), oP 42 (.sls (.t 40) none (some (.t 41))), oP 43 (.iada 3 1 (.t 5) (.k (.int .i64 2))), oP 44 (.ld 1 false (.t 43)), ⟨some 45, .new (.bsl 1 1 #[.int .u8 0] [(0, .t 44)]), none⟩, oP 46 (.cvbs (.t 45)), oP 47 (.bin .add (.t 42) (.t 46)), oP 48 (.mv (.t 7)), oP 49 (.mv (.t 9)), oP 50 (.bin .add (.t 49) (.k (.int .i64 1))), oP 51 (.mv (.t 7)), oP 52 (.lens (.t 51)), oP 53 (.mn (.t 50) (.t 52)), oP 54 (.sls (.t 48) (some (.t 53)) none), oP 55 (.bin .add (.t 47) (.t 54)), oP 56 (.mv (.t 7)), oP 57 (.iada 3 1 (.t 5) (.k (.int .i64 2))), oP 58 (.ld 1 false (.t 57)), ⟨some 59, .new (.bsl 1 1 #[.int .u8 0] [(0, .t 58)]), none⟩, oP 60 (.cvbs (.t 59)), oP 61 (.bin .add (.t 56) (.t 60)), oP 62 (.mv (.t 1)), oP 63 (.mv (.t 1)), oP 64 (.lens (.t 63)), oP 65 (.mn (.t 64) (.k (.int .i64 300))), oP 66 (.sls (.t 62) none (some (.t 65))), ⟨some 67, .new (.bsl 1 5 #[.string ⟨#[]⟩] [(0, .t 36), (1, .t 39), (2, .t 55), (3, .t 61), (4, .t 66)]), none⟩, oP 68 (.len (.t 67)), oP 69 (.mv (.k (.int .i64 0)))], [[], [], [], [1, 2], [], [], [4, 5], [], [7], [8, 7], [9, 8, 7], [6, 10, 4, 5, 9, 8, 7], [], [], [13], [], [15], [14, 16, 13, 15], [12, 17, 14, 16, 13, 15], [11, 18, 6, 10, 4, 5, 9, 8, 7, 12, 17, 14, 16, 13, 15], [], [], [21], [22, 21], [23, 22, 21], [20, 24, 23, 22, 21], [], [], [27], [28, 27], [26, 29, 28, 27], [0, 3, 19, 25, 30, 1, 2, 11, 18, 6, 10, 4, 5, 9, 8, 7, 12, 17, 14, 16, 13, 15, 20, 24, 23, 22, 21, 26, 29, 28, 27], [31, 0, 3, 19, 25, 30, 1, 2, 11, 18, 6, 10, 4, 5, 9, 8, 7, 12, 17, 14, 16, 13, 15, 20, 24, 23, 22, 21, 26, 29, 28, 27], []], [(0, none), (1, none), (2, none), (3, none), (4, none), (5, none), (6, none), (7, none), (8, none), (9, none), (10, none), (11, none), (12, none), (13, none), (14, none), (15, none), (16, none), (17, none), (18, none), (19, none), (20, none), (21, none), (22, none), (23, none), (24, none), (25, none), (26, none), (27, none), (28, none), (29, none), (30, none), (31, none), (32, none), (33, none)]⟩
def u5_5 : IC := .seq (.drw 34 u5_5r) u5_6
def u5_24r : List IOper := [⟨some 107, .call 13 [], none⟩, oP 6 (.mv (.t 107))]
def u5_24 : IC := .seq (.reg u5_24r) .ret
def u5_4 : IC := .seq u5_5 u5_24
def u5_3r : List IOper := [oP 24 (.iada 3 1 (.t 5) (.k (.int .i64 0))), oP 25 (.ld 1 false (.t 24)), oP 26 (.cvi .i64 (.t 25)), oP 27 (.bin .mul (.t 26) (.k (.int .i64 256))), oP 28 (.iada 3 1 (.t 5) (.k (.int .i64 1))), oP 29 (.ld 1 false (.t 28)), oP 30 (.cvi .i64 (.t 29)), oP 31 (.bin .add (.t 27) (.t 30)), oP 32 (.mv (.t 7)), oP 33 (.lens (.t 32)), oP 34 (.mx (.k (.int .i64 1)) (.t 33)), oP 35 (.bin .rem (.t 31) (.t 34)), oP 9 (.mv (.t 35))]
def u5_3 : IC := .seq (.reg u5_3r) u5_4
def u5_2r : List IOper := [oP 19 (.mv (.t 0)), ⟨some 20, .call 10 [.t 19], none⟩, ⟨some 21, .call 15 [.t 20], none⟩, oP 18 (.mv (.t 21)), oP 22 (.ext (.t 18) 0), oP 23 (.ext (.t 18) 1), oP 7 (.mv (.t 22)), oP 8 (.mv (.t 23))]
def u5_2 : IC := .seq (.reg u5_2r) u5_3
def u5_1r : List IOper := [⟨some 5, .new (.box (.t 2)), none⟩, oP 6 (.mv (.k (.bool false)))]
def u5_1 : IC := .seq (.reg u5_1r) u5_2
def u5 : IFn := ⟨108, u5_1, [.tmp 6]⟩
end
theorem isU5 : IsFn Tryd.prog 5 u5 := by unfold IsFn; kernel_rfl
instance i5_15 : WR Tryd.prog 108 u5_15 (rCE (.t 91) u5_16 .skip [11, 12, 13, 67, 68, 69, 91]) := ⟨mkCE⟩
instance i5_14 : WR Tryd.prog 108 u5_14 (rS u5_14r u5_15 [11, 12, 13, 14, 15, 67, 68, 69]) := ⟨mkS⟩
instance i5_21 : WR Tryd.prog 108 u5_21 (rCE (.t 105) u5_22 .skip [67, 68, 69, 105]) := ⟨mkCE⟩
instance i5_20 : WR Tryd.prog 108 u5_20 (rS u5_20r u5_21 [11, 16, 17, 67, 68, 69]) := ⟨mkS⟩
instance i5_19 : WR Tryd.prog 108 u5_19 (rS u5_19r u5_20 [11, 12, 67, 68, 69]) := ⟨mkS⟩
instance i5_18 : WR Tryd.prog 108 u5_18 (rCE (.t 93) u5_19 .skip [11, 12, 67, 68, 69, 93]) := ⟨mkCE⟩
instance i5_17 : WR Tryd.prog 108 u5_17 (rS u5_17r u5_18 [11, 12, 13, 67, 68, 69]) := ⟨mkS⟩
instance i5_13 : WR Tryd.prog 108 u5_13 (rQ u5_14 u5_17 [11, 12, 13, 14, 15, 67, 68, 69]) := ⟨mkQ⟩
instance i5_12 : WR Tryd.prog 108 u5_12 (rS u5_12r u5_13 [11, 12, 13, 67, 68, 69]) := ⟨mkS⟩
instance i5_11 : WR Tryd.prog 108 u5_11 (rS u5_11r u5_12 [11, 67, 68, 69]) := ⟨mkS⟩
instance i5_10 : WR Tryd.prog 108 u5_10 (rS u5_10r u5_11 [67, 68, 69]) := ⟨mkS⟩
instance i5_23 : WR Tryd.prog 108 u5_23 (rE u5_23r [67, 68, 69]) := ⟨mkE⟩
instance i5_9 : WR Tryd.prog 108 u5_9 (rB 1 u5_10 u5_23 [67, 68, 69]) := ⟨mkB⟩
instance i5_8 : WR Tryd.prog 108 u5_8 (rC (.t 70) .skip (.exit 0) u5_9 [67, 68, 69, 70]) := ⟨mkC⟩
instance i5_7 : WR Tryd.prog 108 u5_7 (rS u5_7r u5_8 [67, 68, 69]) := ⟨mkS⟩
instance i5_6 : WR Tryd.prog 108 u5_6 (rBE 0 (.loop u5_7) [67, 68, 69]) := ⟨mkBE⟩
instance i5_5 : WR Tryd.prog 108 u5_5 (rD 34 u5_5r u5_6 [1, 5, 7, 9]) := ⟨mkD⟩
instance i5_24 : WR Tryd.prog 108 u5_24 (rS u5_24r .ret []) := ⟨mkS⟩
instance i5_4 : WR Tryd.prog 108 u5_4 (rQ u5_5 u5_24 [1, 5, 7, 9]) := ⟨mkQ⟩
instance i5_3 : WR Tryd.prog 108 u5_3 (rS u5_3r u5_4 [1, 5, 7]) := ⟨mkS⟩
instance i5_2 : WR Tryd.prog 108 u5_2 (rS u5_2r u5_3 [0, 1, 5]) := ⟨mkS⟩
instance i5_1 : WR Tryd.prog 108 u5_1 (rS u5_1r u5_2 [0, 1, 2]) := ⟨mkS⟩
attribute [go_sem] u5_16r u5_14r u5_22r u5_20r u5_19r u5_17r u5_12r u5_11r u5_10r u5_23r u5_7r u5_5r u5_24r u5_3r u5_2r u5_1r
theorem c_decLaw (l raw : List UInt8) (a0 a1 a2 : Nat) (b0 : a0 < 256) (b1 : a1 < 256) (b2 : a2 < 256) (hl : l.length ≤ 9223372036854775807) (hraw : raw.length ≤ 9223372036854775807) :
    PC Tryd.prog 5 [.lst (bytesC l), .str raw, .agg [.int .u8 (a0 : Int), .int .u8 (a1 : Int), .int .u8 (a2 : Int)]] (.bool true) := by
  have nlb : DV.nlL (bytesC l) = true := nlL_map (fun _ => rfl) l
  refine PC.of mixedU isU5 (Nat.le_of_ble_eq_true rfl) (by simp [DV.nlL, DV.nl, nlb]) rfl ?_
  show IW Tryd.prog 108 u5_1 ⟨argT _, _, _⟩ (rt [.tmp 6] _)
  have hv := made_valid l
  obtain ⟨h1, h2, h3⟩ := made_lens l
  have cE := c_EncodeR (madeM l) h1 h2
  have hle := enc_len2 hv
  have eE : encV (madeM l) = encM (madeM l) := by unfold encV; rw [if_pos hv]
  rw [eE, hv] at cE
  have cM := c_Made l hl
  generalize encM (madeM l) = s at *
  have w0 := w64 (n := (a0 : Int)) (by omega) (by omega)
  have w1 := w64 (n := (a1 : Int)) (by omega) (by omega)
  have w2 : IntKind.i64.wrap ((a0 : Int) * 256) = ((a0 * 256 : Nat) : Int) := by rw [w64 (by omega) (by omega)]; omega
  have w3 : IntKind.i64.wrap (((a0 * 256 : Nat) : Int) + (a1 : Int)) = ((a0 * 256 + a1 : Nat) : Int) := by rw [w64 (by omega) (by omega)]; omega
  obtain ⟨m, hm⟩ : ∃ m, m = max 1 s.length := ⟨_, rfl⟩
  have hmx : (if (s.length : Int) > 1 then (s.length : Int) else 1) = (m : Int) := by split <;> omega
  obtain ⟨k, hk⟩ : ∃ k, k = (a0 * 256 + a1) % m := ⟨_, rfl⟩
  have hkm : k < m := by rw [hk]; exact Nat.mod_lt _ (by omega)
  have hks : k ≤ s.length := by omega
  have hrem : binR .rem (.int .i64 ((a0 * 256 + a1 : Nat) : Int)) (.int .i64 (m : Int)) = some (.int .i64 (k : Int)) := by rw [r_rem (by omega), hk]; exact congrArg (fun x => some (DV.int .i64 x)) (Int.ofNat_tmod _ _).symm
  have T1 := sls_to (s := s) (k := k) (by omega)
  have w4 : IntKind.i64.wrap ((k : Int) + 1) = ((k + 1 : Nat) : Int) := by rw [w64 (by omega) (by omega)]; omega
  obtain ⟨j, hj⟩ : ∃ j, j = min (k + 1) s.length := ⟨_, rfl⟩
  have hmn : (if (s.length : Int) < ((k + 1 : Nat) : Int) then (s.length : Int) else ((k + 1 : Nat) : Int)) = (j : Int) := by split <;> omega
  have T2 := sls_from (s := s) (k := j) (by omega)
  obtain ⟨q, hq⟩ : ∃ q, q = min raw.length 300 := ⟨_, rfl⟩
  have hmr : (if (300 : Int) < (raw.length : Int) then (300 : Int) else (raw.length : Int)) = (q : Int) := by split <;> omega
  have T3 := sls_to (s := raw) (k := q) (by omega)
  obtain ⟨z, hz⟩ : ∃ z, z = UInt8.ofNat a2 := ⟨_, rfl⟩
  have hzn : a2 = z.toNat := by rw [hz, UInt8.toNat_ofNat']; omega
  have hcv := cv_one hzn
  have A1 := sadd (s := s.take k) (t := [z]) (by rw [List.length_take, List.length_singleton]; omega)
  have A2 := sadd (s := s.take k ++ [z]) (t := s.drop j) (by simp only [List.length_append, List.length_take, List.length_drop, List.length_singleton]; omega)
  have A3 := sadd (s := s) (t := [z]) (by rw [List.length_singleton]; omega)
  repeat' ((first | with_reducible refine wr ?_ | ((with_reducible refine wb2 ?_ ?_) <;> (intro hb; try simp only [hb])) | ((with_reducible refine AC.call ((cM).at _ _) ?_); rintro _ _ _ ⟨rfl, rfl, rfl⟩ -) | ((with_reducible refine AC.call ((cE).at _ _) ?_); rintro _ _ _ ⟨rfl, rfl, rfl⟩ -) | fail) <;> try simp only [go_sem, seval, w0, w1, w2, w3, hmx, hrem, T1, w4, hmn, T2, hmr, T3, hcv, A1, A2, A3])
  obtain ⟨L, hL⟩ : ∃ L, L = [s, s.take k, s.take k ++ [z] ++ s.drop j, s ++ [z], raw.take q] := ⟨_, rfl⟩
  have hLn : L.length = 5 := by rw [hL]; rfl
  have hLb : ∀ b ∈ L, b.length ≤ 1000000 := by
    rw [hL]
    intro b hb
    simp only [List.mem_cons, List.not_mem_nil, or_false] at hb
    rcases hb with rfl | rfl | rfl | rfl | rfl <;> (try simp only [List.length_append, List.length_take, List.length_drop, List.length_singleton]) <;> omega
  refine IW.keep [67, 68, 69] [strs L, I64 5, I64 0] (GL.one (id := 32) h_same rfl (.cons _ _ _ _ (fz_slc (u := 1) (by rw [List.length_map, hLn]) (str_unit _) ⟨[], by rw [hL]; rfl⟩) (FzL.refl _))) ?_
  clear hL A1 A2 A3 T1 T2 T3 cE cM hcv
  refine i_loop (fun i : Nat => [(67, strs L), (68, I64 5), (69, I64 i)]) (fun _ => Sym.nil) (fun i c => i ≤ 5) (fun i => 5 - i) 0 (by simp [tmLe, tm, Tm.upd]) (Sub.nil _) (by omega) ?_
  have n1 : ∀ c : Nat, ¬ c = c + 1 := fun c => by omega
  have n2 : ∀ c : Nat, ¬ c + 1 = c := fun c => by omega
  intro i c hi
  by_cases hlt : i < 5
  · have hd : decide ((i : Int) < 5) = true := by simp; omega
    have hw : IntKind.i64.wrap ((i : Int) + 1) = ((i + 1 : Nat) : Int) := by rw [w64 (by omega) (by omega)]; omega
    obtain ⟨b, hb⟩ : ∃ b, b = L[i] := ⟨_, rfl⟩
    have hg : L[i]? = some b := by rw [hb]; exact List.getElem?_eq_getElem (by omega)
    have hbl := hLb b (List.mem_of_getElem? hg)
    have cD := c_Decode b hbl
    have cR := c_DecodeR b
    rw [ref_dec] at cR
    cases hp : decP b with
    | none =>
      rw [hp] at cD cR
      have cD' : PC Tryd.prog 16 [.str b] (.tup [Prg.none.v, I64 51]) := cD
      have cR' : PC Tryd.prog 17 [.str b] (.tup [Prg.none.v, I64 51]) := cR
      have cS := c_SameR Prg.none Prg.none (by decide) (by decide) (by decide) (by decide) (by decide)
      have en : decide (Prg.none = Prg.none) = true := by simp
      rw [en] at cS
      repeat' ((first | with_reducible refine wr ?_ | ((with_reducible refine wb2 ?_ ?_) <;> (intro hb; try simp only [hb])) | ((with_reducible refine AC.call ((cD').at _ _) ?_); rintro _ _ _ ⟨rfl, rfl, rfl⟩ -) | ((with_reducible refine AC.call ((cR').at _ _) ?_); rintro _ _ _ ⟨rfl, rfl, rfl⟩ -) | ((with_reducible refine AC.call ((cS).at _ _) ?_); rintro _ _ _ ⟨rfl, rfl, rfl⟩ -) | fail) <;> try simp only [go_sem, seval, hd, hw, hg, n1, n2])
      exact ⟨i + 1, rfl, Sub.nil _, inv (by omega), by omega⟩
    | some p =>
      rw [hp] at cD cR
      obtain ⟨v0, ve⟩ := dec_iff.1 hp
      obtain ⟨l1, l2, l3, l4, l5, l6⟩ := valid_lens v0
      have cD' : PC Tryd.prog 16 [.str b] (.tup [p.v, I64 0]) := cD
      have cR' : PC Tryd.prog 17 [.str b] (.tup [p.v, I64 0]) := cR
      have cS := c_SameR p p (by omega) (by omega) (by omega) (by omega) (by omega)
      have en : decide (p = p) = true := by simp
      rw [en] at cS
      have cN := c_Encode p l1 (by omega)
      have e1 : encV p = b := by unfold encV; rw [if_pos v0]; exact ve
      rw [e1, v0] at cN
      have hbb : (b == b) = true := by simp
      repeat' ((first | with_reducible refine wr ?_ | ((with_reducible refine wb2 ?_ ?_) <;> (intro hb; try simp only [hb])) | ((with_reducible refine AC.call ((cD').at _ _) ?_); rintro _ _ _ ⟨rfl, rfl, rfl⟩ -) | ((with_reducible refine AC.call ((cR').at _ _) ?_); rintro _ _ _ ⟨rfl, rfl, rfl⟩ -) | ((with_reducible refine AC.call ((cS).at _ _) ?_); rintro _ _ _ ⟨rfl, rfl, rfl⟩ -) | ((with_reducible refine AC.call ((cN).at _ _) ?_); rintro _ _ _ ⟨rfl, rfl, rfl⟩ -) | fail) <;> try simp only [go_sem, seval, hd, hw, hg, hbb, n1, n2])
      exact ⟨i + 1, rfl, Sub.nil _, inv (by omega), by omega⟩
  · have hd : decide ((i : Int) < 5) = false := by simp; omega
    repeat' ((first | with_reducible refine wr ?_ | ((with_reducible refine wb2 ?_ ?_) <;> (intro hb; try simp only [hb])) | ((with_reducible refine AC.call ((c_sane).at _ _) ?_); rintro _ _ _ ⟨rfl, rfl, rfl⟩ -) | fail) <;> try simp only [go_sem, seval, hd])
    exact pc_ret rfl
end Go.Proofs.YtcallbfckjlagaaDoor
