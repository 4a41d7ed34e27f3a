/-
  HELPERS of the claim: part 3 of its texts.
-/
import Derived.Test.YtcallbfckjlagaaDoorBakb
set_option maxHeartbeats 4000000
set_option maxRecDepth 100000
set_option linter.unusedSimpArgs false
set_option linter.unusedVariables false
namespace Go.Proofs.YtcallbfckjlagaaDoor
open Go.Eng (IC IOper DReg IFn IsFn)
open Go.Sym Go.Pb
theorem c_limits (c : Prg) : PC Tryd.prog 53 [c.v] (.bool (limitsM c)) := by
  refine PC.of mixedU isU53 (Nat.le_of_ble_eq_true rfl) (by simp [DV.nlL, DV.nl, nlL_ints, nlL_strs, nlL_instrs, nlL_entries, nlL_stp]) (by simp [DV.nlL, DV.nl, nlL_ints, nlL_strs, nlL_instrs, nlL_entries, nlL_stp]) ?_
  show IW Tryd.prog 41 u53_1 ⟨argT _, _, _⟩ (rt [.tmp 2] _)
  repeat' ((first | (with_reducible first | refine wr ?_ | refine i_ret ?_ | refine i_skip ?_ | refine i_exit ?_) | ((with_reducible first | refine k_cb ?_ ?_ | refine k_gb ?_ ?_ | refine k_gb' ?_ ?_) <;> (intro hb; try simp only [hb])) | ((with_reducible refine AC.call ((c_within _ _ _).at _ _) ?_); rintro _ _ _ ⟨rfl, rfl, rfl⟩ -)) <;> try simp only [go_sem, Nat.reduceAdd, Nat.reduceLeDiff, Nat.reduceEqDiff, Nat.reduceMul, Nat.reduceSub, ↓reduceIte, Int.reduceLT, Int.reduceLE, Int.reduceGT, Int.reduceGE, Nat.reduceLT, Nat.reduceGT, Int.reduceToNat, reduceCtorEq, Nat.reduceBEq, Int.reduceBEq, Int.reduceBNe, Int.reduceEq, Int.reduceNe, decide_true, decide_false])
  all_goals (refine pc_ret ?_; simp_all [limitsM] <;> omega)
theorem c_p1 (s : List UInt8) (hs : s.length ≤ 140737488355328) : PC Tryd.prog 69 [.str s] (.bool (!printM s)) := by
  refine PC.of mixedU isU69 (Nat.le_of_ble_eq_true rfl) (by simp [DV.nlL, DV.nl, nlL_ints, nlL_strs, nlL_instrs, nlL_entries, nlL_stp]) (by simp [DV.nlL, DV.nl, nlL_ints, nlL_strs, nlL_instrs, nlL_entries, nlL_stp]) ?_
  show IW Tryd.prog 6 u69_1 ⟨argT _, _, _⟩ (rt [.tmp 2] _)
  repeat' ((first | (with_reducible first | refine wr ?_ | refine i_ret ?_ | refine i_skip ?_ | refine i_exit ?_) | ((with_reducible first | refine k_cb ?_ ?_ | refine k_gb ?_ ?_ | refine k_gb' ?_ ?_) <;> (intro hb; try simp only [hb])) | ((with_reducible refine AC.call ((c_isText s hs).at _ _) ?_); rintro _ _ _ ⟨rfl, rfl, rfl⟩ -)) <;> try simp only [go_sem, Nat.reduceAdd, Nat.reduceLeDiff, Nat.reduceEqDiff, Nat.reduceMul, Nat.reduceSub, ↓reduceIte, Int.reduceLT, Int.reduceLE, Int.reduceGT, Int.reduceGE, Nat.reduceLT, Nat.reduceGT, Int.reduceToNat, reduceCtorEq, Nat.reduceBEq, Int.reduceBEq, Int.reduceBNe, Int.reduceEq, Int.reduceNe, decide_true, decide_false])
  exact pc_ret rfl
theorem c_p2 (n : Int) : PC Tryd.prog 72 [I64 n] (.bool (!inM n 0 99)) := by
  refine PC.of mixedU isU72 (Nat.le_of_ble_eq_true rfl) (by simp [DV.nlL, DV.nl, nlL_ints, nlL_strs, nlL_instrs, nlL_entries, nlL_stp]) (by simp [DV.nlL, DV.nl, nlL_ints, nlL_strs, nlL_instrs, nlL_entries, nlL_stp]) ?_
  show IW Tryd.prog 6 u72_1 ⟨argT _, _, _⟩ (rt [.tmp 2] _)
  repeat' ((first | (with_reducible first | refine wr ?_ | refine i_ret ?_ | refine i_skip ?_ | refine i_exit ?_) | ((with_reducible first | refine k_cb ?_ ?_ | refine k_gb ?_ ?_ | refine k_gb' ?_ ?_) <;> (intro hb; try simp only [hb])) | ((with_reducible refine AC.call ((c_within _ _ _).at _ _) ?_); rintro _ _ _ ⟨rfl, rfl, rfl⟩ -)) <;> try simp only [go_sem, Nat.reduceAdd, Nat.reduceLeDiff, Nat.reduceEqDiff, Nat.reduceMul, Nat.reduceSub, ↓reduceIte, Int.reduceLT, Int.reduceLE, Int.reduceGT, Int.reduceGE, Nat.reduceLT, Nat.reduceGT, Int.reduceToNat, reduceCtorEq, Nat.reduceBEq, Int.reduceBEq, Int.reduceBNe, Int.reduceEq, Int.reduceNe, decide_true, decide_false])
  exact pc_ret rfl
theorem c_p3 (n : Int) : PC Tryd.prog 73 [I64 n] (.bool (!inM n (-2147483647) 2147483647)) := by
  refine PC.of mixedU isU73 (Nat.le_of_ble_eq_true rfl) (by simp [DV.nlL, DV.nl, nlL_ints, nlL_strs, nlL_instrs, nlL_entries, nlL_stp]) (by simp [DV.nlL, DV.nl, nlL_ints, nlL_strs, nlL_instrs, nlL_entries, nlL_stp]) ?_
  show IW Tryd.prog 6 u73_1 ⟨argT _, _, _⟩ (rt [.tmp 2] _)
  repeat' ((first | (with_reducible first | refine wr ?_ | refine i_ret ?_ | refine i_skip ?_ | refine i_exit ?_) | ((with_reducible first | refine k_cb ?_ ?_ | refine k_gb ?_ ?_ | refine k_gb' ?_ ?_) <;> (intro hb; try simp only [hb])) | ((with_reducible refine AC.call ((c_within _ _ _).at _ _) ?_); rintro _ _ _ ⟨rfl, rfl, rfl⟩ -)) <;> try simp only [go_sem, Nat.reduceAdd, Nat.reduceLeDiff, Nat.reduceEqDiff, Nat.reduceMul, Nat.reduceSub, ↓reduceIte, Int.reduceLT, Int.reduceLE, Int.reduceGT, Int.reduceGE, Nat.reduceLT, Nat.reduceGT, Int.reduceToNat, reduceCtorEq, Nat.reduceBEq, Int.reduceBEq, Int.reduceBNe, Int.reduceEq, Int.reduceNe, decide_true, decide_false])
  exact pc_ret rfl
theorem c_p4 (c : Prg) (hl : Lim c) (e : Ent) : PC Tryd.prog 75 [e.v, .fptr c.cs] (.bool (!entryM c e)) := by
  refine PC.of mixedU isU75 (Nat.le_of_ble_eq_true rfl) (by simp [DV.nlL, DV.nl, nlL_ints, nlL_strs, nlL_instrs, nlL_entries, nlL_stp]) (by simp [DV.nlL, DV.nl, nlL_ints, nlL_strs, nlL_instrs, nlL_entries, nlL_stp]) ?_
  show IW Tryd.prog 8 u75_1 ⟨argT _, _, _⟩ (rt [.tmp 3] _)
  repeat' ((first | (with_reducible first | refine wr ?_ | refine i_ret ?_ | refine i_skip ?_ | refine i_exit ?_) | ((with_reducible first | refine k_cb ?_ ?_ | refine k_gb ?_ ?_ | refine k_gb' ?_ ?_) <;> (intro hb; try simp only [hb])) | ((with_reducible refine AC.call ((c_goodEntry c hl e).at _ _) ?_); rintro _ _ _ ⟨rfl, rfl, rfl⟩ -)) <;> try simp only [go_sem, Nat.reduceAdd, Nat.reduceLeDiff, Nat.reduceEqDiff, Nat.reduceMul, Nat.reduceSub, ↓reduceIte, Int.reduceLT, Int.reduceLE, Int.reduceGT, Int.reduceGE, Nat.reduceLT, Nat.reduceGT, Int.reduceToNat, reduceCtorEq, Nat.reduceBEq, Int.reduceBEq, Int.reduceBNe, Int.reduceEq, Int.reduceNe, decide_true, decide_false])
  exact pc_ret rfl
theorem c_t1 (c : Prg) (hl : Lim c) (e : Ent) : PC Tryd.prog 79 [e.v, .fptr c.cs] (.bool (!jumpE c e)) := by
  obtain ⟨wp, wv, ws, wi, wt, we, li, ls, le, lp, lv⟩ := hl
  refine PC.of mixedU isU79 (Nat.le_of_ble_eq_true rfl) (by simp [DV.nlL, DV.nl, nlL_ints, nlL_strs, nlL_instrs, nlL_entries, nlL_stp]) (by simp [DV.nlL, DV.nl, nlL_ints, nlL_strs, nlL_instrs, nlL_entries, nlL_stp]) ?_
  show IW Tryd.prog 12 u79_1 ⟨argT _, _, _⟩ (rt [.tmp 3] _)
  repeat' ((first | (with_reducible first | refine wr ?_ | refine i_ret ?_ | refine i_skip ?_ | refine i_exit ?_) | ((with_reducible first | refine k_cb ?_ ?_ | refine k_gb ?_ ?_ | refine k_gb' ?_ ?_) <;> (intro hb; try simp only [hb])) | ((with_reducible refine AC.call ((c_within _ _ _).at _ _) ?_); rintro _ _ _ ⟨rfl, rfl, rfl⟩ -)) <;> try simp only [go_sem, Nat.reduceAdd, Nat.reduceLeDiff, Nat.reduceEqDiff, Nat.reduceMul, Nat.reduceSub, ↓reduceIte, Int.reduceLT, Int.reduceLE, Int.reduceGT, Int.reduceGE, Nat.reduceLT, Nat.reduceGT, Int.reduceToNat, reduceCtorEq, Nat.reduceBEq, Int.reduceBEq, Int.reduceBNe, Int.reduceEq, Int.reduceNe, decide_true, decide_false, wi])
  exact pc_ret rfl
theorem g_cap (c : Prg) (fn : Nat) (l : List DV) : GL (nil.upd 0 ⟨0, true, c.cs⟩) [.lst l, .func fn [] [.ptr 0 0]] nil [.lst l, .func fn [] [.fptr c.cs]] :=
  GL.one (b := ⟨0, true, c.cs⟩) rfl rfl (.cons _ _ _ _ (.same _) (.cons _ _ _ _ (.func _ _ _ _ _ .nil (.cons _ _ _ _ (.ptr 0 c.cs (Nat.zero_le _) rfl) .nil)) .nil))
theorem c_targets (c : Prg) (hl : Lim c) : PC Tryd.prog 55 [c.v] (.bool (jumpsM c)) := by
  have hl0 := hl
  obtain ⟨wp, wv, ws, wi, wt, we, li, ls, le, lp, lv⟩ := hl
  have cf := c_CF_ent (a := []) (cs := [.fptr c.cs]) c.entries (by omega) rfl (by simp [DV.nlL, DV.nl, nlL_ints, nlL_strs, nlL_instrs, nlL_entries]) (fun e _ => c_t1 c hl0 e)
  rw [any_not] at cf
  refine PC.of mixedU isU55 (Nat.le_of_ble_eq_true rfl) (by simp [DV.nlL, DV.nl, nlL_ints, nlL_strs, nlL_instrs, nlL_entries, nlL_stp]) (by simp [DV.nlL, DV.nl, nlL_ints, nlL_strs, nlL_instrs, nlL_entries, nlL_stp]) ?_
  show IW Tryd.prog 31 u55_1 ⟨argT _, _, _⟩ (rt [.tmp 2] _)
  repeat' ((first | (with_reducible first | refine wr ?_ | refine i_ret ?_ | refine i_skip ?_ | refine i_exit ?_) | ((with_reducible first | refine k_cb ?_ ?_ | refine k_gb ?_ ?_ | refine k_gb' ?_ ?_) <;> (intro hb; try simp only [hb]))) <;> try simp only [go_sem, Nat.reduceAdd, Nat.reduceLeDiff, Nat.reduceEqDiff, Nat.reduceMul, Nat.reduceSub, ↓reduceIte, Int.reduceLT, Int.reduceLE, Int.reduceGT, Int.reduceGE, Nat.reduceLT, Nat.reduceGT, Int.reduceToNat, reduceCtorEq, Nat.reduceBEq, Int.reduceBEq, Int.reduceBNe, Int.reduceEq, Int.reduceNe, decide_true, decide_false])
  refine i_loop (fun k : Nat => [(1, .ptr 0 0), (6, inssV c.instrs), (7, I64 c.instrs.length), (8, I64 k)]) (fun _ => nil.upd 0 ⟨0, true, c.cs⟩) (fun k cc => 1 ≤ cc ∧ k ≤ c.instrs.length ∧ (c.instrs.take k).all (jumpI c) = true) (fun k => c.instrs.length - k) 0 (by simp [tmLe, tm, Tm.upd]) (Sub.refl _) (by simp) ?_
  rintro k cc ⟨h1c, hk, he⟩
  have ne0 : ¬ 0 = cc := by omega
  have ne1 : ¬ cc = 0 := by omega
  by_cases hlt : k < c.instrs.length
  · have hd : decide ((k : Int) < c.instrs.length) = true := by simpa using hlt
    have hg := List.getElem?_eq_getElem hlt
    have hw := w64 (n := (k : Int) + 1) (by omega) (by omega)
    repeat' ((first | (with_reducible first | refine wr ?_ | refine i_ret ?_ | refine i_skip ?_ | refine i_exit ?_) | ((with_reducible first | refine k_cb ?_ ?_ | refine k_gb ?_ ?_ | refine k_gb' ?_ ?_) <;> (intro hb; try simp only [hb])) | ((with_reducible refine AC.call ((c_isJ _).at _ _) ?_); rintro _ _ _ ⟨rfl, rfl, rfl⟩ -) | ((with_reducible refine AC.call ((c_within _ _ _).at _ _) ?_); rintro _ _ _ ⟨rfl, rfl, rfl⟩ -)) <;> try simp only [go_sem, Nat.reduceAdd, Nat.reduceLeDiff, Nat.reduceEqDiff, Nat.reduceMul, Nat.reduceSub, ↓reduceIte, Int.reduceLT, Int.reduceLE, Int.reduceGT, Int.reduceGE, Nat.reduceLT, Nat.reduceGT, Int.reduceToNat, reduceCtorEq, Nat.reduceBEq, Int.reduceBEq, Int.reduceBNe, Int.reduceEq, Int.reduceNe, decide_true, decide_false, hd, hg, hw, wi, ne0, ne1])
    · refine pc_ret ?_
      have hf := all_fail (jumpI c) c.instrs k _ hg (by rw [jumpI, ← isJ_kind]; simp_all)
      simp [jumpsM, hf]
    all_goals exact ⟨k + 1, rfl, by (intro j b hj; simp only [Hp.upd, Hp.del, Sym.nil, baseH, optH] at hj ⊢; (repeat' split at hj) <;> (repeat' split) <;> first | exact hj | (exfalso; omega) | cases hj), inv ⟨by omega, by omega, by rw [all_take (jumpI c) _ k _ hg he, jumpI, ← isJ_kind]; simp_all⟩, by omega⟩
  · have hd : decide ((k : Int) < c.instrs.length) = false := by simpa using hlt
    have hall := all_done (jumpI c) c.instrs k (by omega) he
    repeat' ((first | (with_reducible first | refine wr ?_ | refine i_ret ?_ | refine i_skip ?_ | refine i_exit ?_) | ((with_reducible first | refine k_cb ?_ ?_ | refine k_gb ?_ ?_ | refine k_gb' ?_ ?_) <;> (intro hb; try simp only [hb])) | ((with_reducible refine AC.call (PC.lend cf rfl (g_cap c _ _)) ?_); rintro _ _ _ ⟨rfl, rfl, rfl⟩ -)) <;> try simp only [go_sem, Nat.reduceAdd, Nat.reduceLeDiff, Nat.reduceEqDiff, Nat.reduceMul, Nat.reduceSub, ↓reduceIte, Int.reduceLT, Int.reduceLE, Int.reduceGT, Int.reduceGE, Nat.reduceLT, Nat.reduceGT, Int.reduceToNat, reduceCtorEq, Nat.reduceBEq, Int.reduceBEq, Int.reduceBNe, Int.reduceEq, Int.reduceNe, decide_true, decide_false, hd])
    refine pc_ret ?_
    simp [jumpsM, hall]
theorem c_bparts (c : Prg) (hl : Lim c) (hs : ∀ s ∈ c.strings, s.length ≤ 140737488355328) : PC Tryd.prog 54 [c.v] (.bool (partsM c)) := by
  have hl0 := hl
  obtain ⟨wp, wv, ws, wi, wt, we, li, ls, le, lp, lv⟩ := hl
  have cf1 := c_CF_str (g := fun s => !printM s) (a := []) (cs := []) c.strings (by omega) rfl rfl (fun s h => c_p1 s (hs s h))
  have cf2 := c_CF_int (g := fun n => !inM n 0 99) (a := []) (cs := []) c.prios (by omega) rfl rfl (fun n _ => c_p2 n)
  have cf3 := c_CF_int (g := fun n => !inM n (-2147483647) 2147483647) (a := []) (cs := []) c.vars (by omega) rfl rfl (fun n _ => c_p3 n)
  have cf4 := c_CF_ent (g := fun e => !entryM c e) (a := []) (cs := [.fptr c.cs]) c.entries (by omega) rfl (by simp [DV.nlL, DV.nl, nlL_ints, nlL_strs, nlL_instrs, nlL_entries]) (fun e _ => c_p4 c hl0 e)
  rw [any_not] at cf1 cf2 cf3 cf4
  have main : ∀ (b : Bool) (cc : Nat), 1 ≤ cc → b = !(c.strings.all printM && c.prios.all (fun n => inM n 0 99) && c.vars.all (fun n => inM n (-2147483647) 2147483647) && c.entries.all (entryM c)) →
      IW Tryd.prog 59 (.loop u54_6) ⟨tm [(1, .ptr 0 0), (3, .bool b), (28, inssV c.instrs), (29, I64 c.instrs.length), (30, I64 0)], nil.upd 0 ⟨0, true, c.cs⟩, cc⟩ (bk 0 (sq Tryd.prog 59 u54_13 (rt [.tmp 2] fun v H' x => ∃ H2, GL H' [v] H2 [.bool (partsM c)]))) := by
    intro b cc h1c hbG
    refine i_loop (fun k : Nat => [(1, .ptr 0 0), (3, .bool (b || !(c.instrs.take k).all (numberM c))), (28, inssV c.instrs), (29, I64 c.instrs.length), (30, I64 k)]) (fun _ => nil.upd 0 ⟨0, true, c.cs⟩) (fun k cc => 1 ≤ cc ∧ k ≤ c.instrs.length) (fun k => c.instrs.length - k) 0 (by simp [tmLe, tm, Tm.upd]) (Sub.refl _) (by simp; omega) ?_
    rintro k cc ⟨h1c, hk⟩
    have ne0 : ¬ 0 = cc := by omega
    have ne1 : ¬ cc = 0 := by omega
    by_cases hlt : k < c.instrs.length
    · have hd : decide ((k : Int) < c.instrs.length) = true := by simpa using hlt
      have hg := List.getElem?_eq_getElem hlt
      have hw := w64 (n := (k : Int) + 1) (by omega) (by omega)
      have hta := all_take' (numberM c) c.instrs k _ hg
      rw [number_span] at hta
      clear hbG
      generalize hB : (b || !(c.instrs.take k).all (numberM c)) = B
      repeat' ((first | (with_reducible first | refine wr ?_ | refine i_ret ?_ | refine i_skip ?_ | refine i_exit ?_) | ((with_reducible first | refine k_cb ?_ ?_ | refine k_gb ?_ ?_ | refine k_gb' ?_ ?_) <;> (intro hb; try simp only [hb])) | ((with_reducible refine AC.call ((c_isJ _).at _ _) ?_); rintro _ _ _ ⟨rfl, rfl, rfl⟩ -) | ((with_reducible refine AC.call ((c_within _ _ _).at _ _) ?_); rintro _ _ _ ⟨rfl, rfl, rfl⟩ -) | ((with_reducible refine AC.call ((c_span c hl0 _).at _ _) ?_); rintro _ _ _ ⟨rfl, rfl, rfl⟩ -)) <;> try simp only [go_sem, Nat.reduceAdd, Nat.reduceLeDiff, Nat.reduceEqDiff, Nat.reduceMul, Nat.reduceSub, ↓reduceIte, Int.reduceLT, Int.reduceLE, Int.reduceGT, Int.reduceGE, Nat.reduceLT, Nat.reduceGT, Int.reduceToNat, reduceCtorEq, Nat.reduceBEq, Int.reduceBEq, Int.reduceBNe, Int.reduceEq, Int.reduceNe, decide_true, decide_false, hd, hg, hw, ne0, ne1])
      all_goals exact ⟨k + 1, by rw [hta, step_bad, hB]; simp_all, by (intro j b hj; simp only [Hp.upd, Hp.del, Sym.nil, baseH, optH] at hj ⊢; (repeat' split at hj) <;> (repeat' split) <;> first | exact hj | (exfalso; omega) | cases hj), inv ⟨by omega, hlt⟩, by omega⟩
    · have hd : decide ((k : Int) < c.instrs.length) = false := by simpa using hlt
      repeat' ((first | (with_reducible first | refine wr ?_ | refine i_ret ?_ | refine i_skip ?_ | refine i_exit ?_) | ((with_reducible first | refine k_cb ?_ ?_ | refine k_gb ?_ ?_ | refine k_gb' ?_ ?_) <;> (intro hb; try simp only [hb]))) <;> try simp only [go_sem, Nat.reduceAdd, Nat.reduceLeDiff, Nat.reduceEqDiff, Nat.reduceMul, Nat.reduceSub, ↓reduceIte, Int.reduceLT, Int.reduceLE, Int.reduceGT, Int.reduceGE, Nat.reduceLT, Nat.reduceGT, Int.reduceToNat, reduceCtorEq, Nat.reduceBEq, Int.reduceBEq, Int.reduceBNe, Int.reduceEq, Int.reduceNe, decide_true, decide_false, hd])
      refine pc_ret ?_
      rw [List.take_of_length_le (by omega)]
      simp only [partsM, hbG]
      simp only [Bool.not_or, Bool.not_not]
  refine PC.of mixedU isU54 (Nat.le_of_ble_eq_true rfl) (by simp [DV.nlL, DV.nl, nlL_ints, nlL_strs, nlL_instrs, nlL_entries, nlL_stp]) (by simp [DV.nlL, DV.nl, nlL_ints, nlL_strs, nlL_instrs, nlL_entries, nlL_stp]) ?_
  show IW Tryd.prog 59 u54_1 ⟨argT _, _, _⟩ (rt [.tmp 2] _)
  repeat' ((first | (with_reducible first | refine wr ?_ | refine i_ret ?_ | refine i_skip ?_ | refine i_exit ?_) | ((with_reducible first | refine k_cb ?_ ?_ | refine k_gb ?_ ?_ | refine k_gb' ?_ ?_) <;> (intro hb; try simp only [hb])) | ((with_reducible refine AC.call ((cf1).at _ _) ?_); rintro _ _ _ ⟨rfl, rfl, rfl⟩ -) | ((with_reducible refine AC.call ((cf2).at _ _) ?_); rintro _ _ _ ⟨rfl, rfl, rfl⟩ -) | ((with_reducible refine AC.call ((cf3).at _ _) ?_); rintro _ _ _ ⟨rfl, rfl, rfl⟩ -) | ((with_reducible refine AC.call (PC.lend cf4 rfl (g_cap c _ _)) ?_); rintro _ _ _ ⟨rfl, rfl, rfl⟩ -)) <;> try simp only [go_sem, Nat.reduceAdd, Nat.reduceLeDiff, Nat.reduceEqDiff, Nat.reduceMul, Nat.reduceSub, ↓reduceIte, Int.reduceLT, Int.reduceLE, Int.reduceGT, Int.reduceGE, Nat.reduceLT, Nat.reduceGT, Int.reduceToNat, reduceCtorEq, Nat.reduceBEq, Int.reduceBEq, Int.reduceBNe, Int.reduceEq, Int.reduceNe, decide_true, decide_false])
  all_goals (refine main _ _ (by omega) ?_; simp only [Bool.not_eq_true', Bool.not_eq_false'] at *; simp only [*, Bool.and_true, Bool.true_and, Bool.false_and, Bool.and_false, Bool.not_true, Bool.not_false])
end Go.Proofs.YtcallbfckjlagaaDoor
set_option maxHeartbeats 4000000
set_option maxRecDepth 100000
set_option linter.unusedSimpArgs false
set_option linter.unusedVariables false
namespace Go.Proofs.YtcallbfckjlagaaDoor
open Go.Eng (IC IOper DReg IFn IsFn)
open Go.Sym Go.Pb
theorem c_reach (c : Prg) (h : List Int) (wk : List Nat) (o : Option Nat) (junk : List DV) (H : Hp) (cc : Nat) (p : Nat) (x : Int) (hS : WkS c h wk o junk H cc) (hw : wk.length ≤ 100000) :
    AC Tryd.prog 80 [I64 (p : Int), I64 x, .ptr 2 0, .ptr 3 0] H cc (fun v H' c' => match reachM h wk p x with
      | none => v = .bool false
      | some (h', wk') => v = .bool true ∧ ∃ o' junk', WkS c h' wk' o' junk' H' c' ∧ ∀ j, 4 ≤ j → j < cc → o ≠ some j → H' j = H j) := by
  obtain ⟨h0, h1, h2, h3, hn, hs, hc⟩ := hS
  refine AC.body mixedU isU80 (Nat.le_of_ble_eq_true rfl) fun hfr => ?_
  show IW Tryd.prog 43 u80_1 ⟨argT _, _, _⟩ (rt [.tmp 6] _)
  by_cases hp : h.length ≤ p
  · have hd : decide ((p : Int) ≥ h.length) = true := by simp; omega
    have hr : reachM h wk p x = none := by rw [reachM, if_pos (.inl hp)]
    repeat' ((first | (with_reducible first | refine wr ?_ | refine i_ret ?_ | refine i_skip ?_ | refine i_exit ?_) | ((with_reducible first | refine k_cb ?_ ?_ | refine k_gb ?_ ?_ | refine k_gb' ?_ ?_) <;> (intro hb; try simp only [hb]))) <;> try simp only [go_sem, Nat.reduceAdd, Nat.reduceLeDiff, Nat.reduceEqDiff, Nat.reduceMul, Nat.reduceSub, ↓reduceIte, Int.reduceLT, Int.reduceLE, Int.reduceGT, Int.reduceGE, Nat.reduceLT, Nat.reduceGT, Int.reduceToNat, reduceCtorEq, Nat.reduceBEq, Int.reduceBEq, Int.reduceBNe, Int.reduceEq, Int.reduceNe, decide_true, decide_false, h1, h2, h3, hd])
    exact ⟨_, _, GL.refl _ _, by rw [hr]⟩
  have hp' : p < h.length := by omega
  have hd : decide ((p : Int) ≥ h.length) = false := by simp; omega
  have hg := List.getElem?_eq_getElem hp'
  have hgd : h.getD p 0 = h[p] := by simp [List.getD, hg]
  have hput := put_map (f := I64) (l := h) (n := p) (a := x) hp'
  have hle : p + 1 ≤ h.length := hp'
  rcases o with _ | id
  · obtain rfl := hn rfl
    have ne0 : ¬ 0 = cc := by omega
    have ne1 : ¬ 0 = cc + 1 := by omega
    have ne2 : ¬ 1 = cc := by omega
    have ne3 : ¬ 1 = cc + 1 := by omega
    have ne4 : ¬ 2 = cc := by omega
    have ne5 : ¬ 2 = cc + 1 := by omega
    have ne6 : ¬ 3 = cc := by omega
    have ne7 : ¬ 3 = cc + 1 := by omega
    have ne8 : ¬ cc = 0 := by omega
    have ne9 : ¬ cc = 1 := by omega
    have ne10 : ¬ cc = 2 := by omega
    have ne11 : ¬ cc = 3 := by omega
    have ne12 : ¬ cc = cc + 1 := by omega
    have ne13 : ¬ cc + 1 = 0 := by omega
    have ne14 : ¬ cc + 1 = 1 := by omega
    have ne15 : ¬ cc + 1 = 2 := by omega
    have ne16 : ¬ cc + 1 = 3 := by omega
    have ne17 : ¬ cc + 1 = cc := by omega
    repeat' ((first | (with_reducible first | refine wr ?_ | refine i_ret ?_ | refine i_skip ?_ | refine i_exit ?_) | ((with_reducible first | refine k_cb ?_ ?_ | refine k_gb ?_ ?_ | refine k_gb' ?_ ?_) <;> (intro hb; try simp only [hb])) | ((with_reducible refine k_eval (r_appn' (by decide) (by decide) (by decide)) ?_))) <;> try simp only [go_sem, Nat.reduceAdd, Nat.reduceLeDiff, Nat.reduceEqDiff, Nat.reduceMul, Nat.reduceSub, ↓reduceIte, Int.reduceLT, Int.reduceLE, Int.reduceGT, Int.reduceGE, Nat.reduceLT, Nat.reduceGT, Int.reduceToNat, reduceCtorEq, Nat.reduceBEq, Int.reduceBEq, Int.reduceBNe, Int.reduceEq, Int.reduceNe, decide_true, decide_false, h1, h2, h3, hd, hp', hg, hput, hle, List.length_nil, ne0, ne1, ne2, ne3, ne4, ne5, ne6, ne7, ne8, ne9, ne10, ne11, ne12, ne13, ne14, ne15, ne16, ne17])
    · have hr : reachM h [] p x = none := by simp_all [reachM]
      exact ⟨_, _, GL.refl _ _, by rw [hr]⟩
    · have hr : reachM h [] p x = none := by simp_all [reachM]
      exact ⟨_, _, GL.refl _ _, by rw [hr]⟩
    · exfalso; simp at *; omega
    · have hr : reachM h [] p x = some (h, []) := by simp_all [reachM] <;> omega
      refine ⟨_, _, GL.refl _ _, ?_⟩
      rw [hr]
      exact ⟨rfl, none, junk, ⟨h0, h1, h2, h3, hn, hs, hc⟩, fun _ _ _ _ => rfl⟩
    · have hr : reachM h [] p x = some (h.set p x, p :: []) := by simp_all [reachM] <;> omega
      refine ⟨_, _, GL.refl _ _, ?_⟩
      rw [hr]
      refine ⟨rfl, some (cc + 1), [], ⟨?_, ?_, ?_, ?_, by simp, fun i hi => ?_, by omega⟩, fun j hj1 hj2 hj3 => ?_⟩
      · simp only [go_sem, Nat.reduceAdd, Nat.reduceLeDiff, Nat.reduceEqDiff, Nat.reduceMul, Nat.reduceSub, ↓reduceIte, Int.reduceLT, Int.reduceLE, Int.reduceGT, Int.reduceGE, Nat.reduceLT, Nat.reduceGT, Int.reduceToNat, reduceCtorEq, Nat.reduceBEq, Int.reduceBEq, Int.reduceBNe, Int.reduceEq, Int.reduceNe, decide_true, decide_false, ne0, ne1, ne2, ne3, ne4, ne5, ne6, ne7, ne8, ne9, ne10, ne11, ne12, ne13, ne14, ne15, ne16, ne17, h0]
      · simp only [go_sem, Nat.reduceAdd, Nat.reduceLeDiff, Nat.reduceEqDiff, Nat.reduceMul, Nat.reduceSub, ↓reduceIte, Int.reduceLT, Int.reduceLE, Int.reduceGT, Int.reduceGE, Nat.reduceLT, Nat.reduceGT, Int.reduceToNat, reduceCtorEq, Nat.reduceBEq, Int.reduceBEq, Int.reduceBNe, Int.reduceEq, Int.reduceNe, decide_true, decide_false, ne0, ne1, ne2, ne3, ne4, ne5, ne6, ne7, ne8, ne9, ne10, ne11, ne12, ne13, ne14, ne15, ne16, ne17]
      · simp only [go_sem, Nat.reduceAdd, Nat.reduceLeDiff, Nat.reduceEqDiff, Nat.reduceMul, Nat.reduceSub, ↓reduceIte, Int.reduceLT, Int.reduceLE, Int.reduceGT, Int.reduceGE, Nat.reduceLT, Nat.reduceGT, Int.reduceToNat, reduceCtorEq, Nat.reduceBEq, Int.reduceBEq, Int.reduceBNe, Int.reduceEq, Int.reduceNe, decide_true, decide_false, ne0, ne1, ne2, ne3, ne4, ne5, ne6, ne7, ne8, ne9, ne10, ne11, ne12, ne13, ne14, ne15, ne16, ne17, h2, List.length_set]
      · simp only [go_sem, Nat.reduceAdd, Nat.reduceLeDiff, Nat.reduceEqDiff, Nat.reduceMul, Nat.reduceSub, ↓reduceIte, Int.reduceLT, Int.reduceLE, Int.reduceGT, Int.reduceGE, Nat.reduceLT, Nat.reduceGT, Int.reduceToNat, reduceCtorEq, Nat.reduceBEq, Int.reduceBEq, Int.reduceBNe, Int.reduceEq, Int.reduceNe, decide_true, decide_false, ne0, ne1, ne2, ne3, ne4, ne5, ne6, ne7, ne8, ne9, ne10, ne11, ne12, ne13, ne14, ne15, ne16, ne17]
      · cases hi
        refine ⟨by omega, by omega, ?_⟩
        simp only [go_sem, Nat.reduceAdd, Nat.reduceLeDiff, Nat.reduceEqDiff, Nat.reduceMul, Nat.reduceSub, ↓reduceIte, Int.reduceLT, Int.reduceLE, Int.reduceGT, Int.reduceGE, Nat.reduceLT, Nat.reduceGT, Int.reduceToNat, reduceCtorEq, Nat.reduceBEq, Int.reduceBEq, Int.reduceBNe, Int.reduceEq, Int.reduceNe, decide_true, decide_false, ne0, ne1, ne2, ne3, ne4, ne5, ne6, ne7, ne8, ne9, ne10, ne11, ne12, ne13, ne14, ne15, ne16, ne17, wkC_cons]
        try rfl
      · have k1 : ¬ j = 1 := by omega
        have k2 : ¬ j = 3 := by omega
        have k3 : ¬ j = cc := by omega
        have k4 : ¬ j = cc + 1 := by omega
        simp only [go_sem, Nat.reduceAdd, Nat.reduceLeDiff, Nat.reduceEqDiff, Nat.reduceMul, Nat.reduceSub, ↓reduceIte, Int.reduceLT, Int.reduceLE, Int.reduceGT, Int.reduceGE, Nat.reduceLT, Nat.reduceGT, Int.reduceToNat, reduceCtorEq, Nat.reduceBEq, Int.reduceBEq, Int.reduceBNe, Int.reduceEq, Int.reduceNe, decide_true, decide_false, k1, k2, k3, k4]
    · exfalso; simp at *; omega
  · obtain ⟨i2, i3, hi4⟩ := hs id rfl
    have ne0 : ¬ 0 = id := by omega
    have ne1 : ¬ 0 = cc := by omega
    have ne2 : ¬ 0 = cc + 1 := by omega
    have ne3 : ¬ 1 = id := by omega
    have ne4 : ¬ 1 = cc := by omega
    have ne5 : ¬ 1 = cc + 1 := by omega
    have ne6 : ¬ 2 = id := by omega
    have ne7 : ¬ 2 = cc := by omega
    have ne8 : ¬ 2 = cc + 1 := by omega
    have ne9 : ¬ 3 = id := by omega
    have ne10 : ¬ 3 = cc := by omega
    have ne11 : ¬ 3 = cc + 1 := by omega
    have ne12 : ¬ id = 0 := by omega
    have ne13 : ¬ id = 1 := by omega
    have ne14 : ¬ id = 2 := by omega
    have ne15 : ¬ id = 3 := by omega
    have ne16 : ¬ id = cc := by omega
    have ne17 : ¬ id = cc + 1 := by omega
    have ne18 : ¬ cc = 0 := by omega
    have ne19 : ¬ cc = 1 := by omega
    have ne20 : ¬ cc = 2 := by omega
    have ne21 : ¬ cc = 3 := by omega
    have ne22 : ¬ cc = id := by omega
    have ne23 : ¬ cc = cc + 1 := by omega
    have ne24 : ¬ cc + 1 = 0 := by omega
    have ne25 : ¬ cc + 1 = 1 := by omega
    have ne26 : ¬ cc + 1 = 2 := by omega
    have ne27 : ¬ cc + 1 = 3 := by omega
    have ne28 : ¬ cc + 1 = id := by omega
    have ne29 : ¬ cc + 1 = cc := by omega
    have hmx : wk.length + 1 ≤ maxLen := by simp only [maxLen]; omega
    have hcl : wk.length * 1 ≤ (wkC wk ++ junk).length := by simp [wkC_len]
    have htake : (wkC wk ++ junk).take (wk.length) = wkC wk := List.take_left' (wkC_len wk)
    repeat' ((first | (with_reducible first | refine wr ?_ | refine i_ret ?_ | refine i_skip ?_ | refine i_exit ?_) | ((with_reducible first | refine k_cb ?_ ?_ | refine k_gb ?_ ?_ | refine k_gb' ?_ ?_) <;> (intro hb; try simp only [hb])) | ((with_reducible refine k_eval (b_app hcl (by omega) hmx) ?_))) <;> try simp only [go_sem, Nat.reduceAdd, Nat.reduceLeDiff, Nat.reduceEqDiff, Nat.reduceMul, Nat.reduceSub, ↓reduceIte, Int.reduceLT, Int.reduceLE, Int.reduceGT, Int.reduceGE, Nat.reduceLT, Nat.reduceGT, Int.reduceToNat, reduceCtorEq, Nat.reduceBEq, Int.reduceBEq, Int.reduceBNe, Int.reduceEq, Int.reduceNe, decide_true, decide_false, h1, h2, h3, hi4, hd, hp', hg, hput, hle, htake, ne0, ne1, ne2, ne3, ne4, ne5, ne6, ne7, ne8, ne9, ne10, ne11, ne12, ne13, ne14, ne15, ne16, ne17, ne18, ne19, ne20, ne21, ne22, ne23, ne24, ne25, ne26, ne27, ne28, ne29])
    · have hr : reachM h wk p x = none := by simp_all [reachM]
      exact ⟨_, _, GL.refl _ _, by rw [hr]⟩
    · have hr : reachM h wk p x = none := by simp_all [reachM]
      exact ⟨_, _, GL.refl _ _, by rw [hr]⟩
    · exfalso; simp at *; omega
    · have hr : reachM h wk p x = some (h, wk) := by simp_all [reachM] <;> omega
      refine ⟨_, _, GL.refl _ _, ?_⟩
      rw [hr]
      exact ⟨rfl, some id, junk, ⟨h0, h1, h2, h3, hn, hs, hc⟩, fun _ _ _ _ => rfl⟩
    · have hr : reachM h wk p x = some (h.set p x, p :: wk) := by simp_all [reachM] <;> omega
      refine ⟨_, _, GL.refl _ _, ?_⟩
      rw [hr]
      refine ⟨rfl, some (cc + 1), [], ⟨?_, ?_, ?_, ?_, by simp, fun i hi => ?_, by omega⟩, fun j hj1 hj2 hj3 => ?_⟩
      · simp only [go_sem, Nat.reduceAdd, Nat.reduceLeDiff, Nat.reduceEqDiff, Nat.reduceMul, Nat.reduceSub, ↓reduceIte, Int.reduceLT, Int.reduceLE, Int.reduceGT, Int.reduceGE, Nat.reduceLT, Nat.reduceGT, Int.reduceToNat, reduceCtorEq, Nat.reduceBEq, Int.reduceBEq, Int.reduceBNe, Int.reduceEq, Int.reduceNe, decide_true, decide_false, ne0, ne1, ne2, ne3, ne4, ne5, ne6, ne7, ne8, ne9, ne10, ne11, ne12, ne13, ne14, ne15, ne16, ne17, ne18, ne19, ne20, ne21, ne22, ne23, ne24, ne25, ne26, ne27, ne28, ne29, h0]
      · simp only [go_sem, Nat.reduceAdd, Nat.reduceLeDiff, Nat.reduceEqDiff, Nat.reduceMul, Nat.reduceSub, ↓reduceIte, Int.reduceLT, Int.reduceLE, Int.reduceGT, Int.reduceGE, Nat.reduceLT, Nat.reduceGT, Int.reduceToNat, reduceCtorEq, Nat.reduceBEq, Int.reduceBEq, Int.reduceBNe, Int.reduceEq, Int.reduceNe, decide_true, decide_false, ne0, ne1, ne2, ne3, ne4, ne5, ne6, ne7, ne8, ne9, ne10, ne11, ne12, ne13, ne14, ne15, ne16, ne17, ne18, ne19, ne20, ne21, ne22, ne23, ne24, ne25, ne26, ne27, ne28, ne29]
      · simp only [go_sem, Nat.reduceAdd, Nat.reduceLeDiff, Nat.reduceEqDiff, Nat.reduceMul, Nat.reduceSub, ↓reduceIte, Int.reduceLT, Int.reduceLE, Int.reduceGT, Int.reduceGE, Nat.reduceLT, Nat.reduceGT, Int.reduceToNat, reduceCtorEq, Nat.reduceBEq, Int.reduceBEq, Int.reduceBNe, Int.reduceEq, Int.reduceNe, decide_true, decide_false, ne0, ne1, ne2, ne3, ne4, ne5, ne6, ne7, ne8, ne9, ne10, ne11, ne12, ne13, ne14, ne15, ne16, ne17, ne18, ne19, ne20, ne21, ne22, ne23, ne24, ne25, ne26, ne27, ne28, ne29, h2, List.length_set]
      · simp only [go_sem, Nat.reduceAdd, Nat.reduceLeDiff, Nat.reduceEqDiff, Nat.reduceMul, Nat.reduceSub, ↓reduceIte, Int.reduceLT, Int.reduceLE, Int.reduceGT, Int.reduceGE, Nat.reduceLT, Nat.reduceGT, Int.reduceToNat, reduceCtorEq, Nat.reduceBEq, Int.reduceBEq, Int.reduceBNe, Int.reduceEq, Int.reduceNe, decide_true, decide_false, ne0, ne1, ne2, ne3, ne4, ne5, ne6, ne7, ne8, ne9, ne10, ne11, ne12, ne13, ne14, ne15, ne16, ne17, ne18, ne19, ne20, ne21, ne22, ne23, ne24, ne25, ne26, ne27, ne28, ne29]
      · cases hi
        refine ⟨by omega, by omega, ?_⟩
        simp only [go_sem, Nat.reduceAdd, Nat.reduceLeDiff, Nat.reduceEqDiff, Nat.reduceMul, Nat.reduceSub, ↓reduceIte, Int.reduceLT, Int.reduceLE, Int.reduceGT, Int.reduceGE, Nat.reduceLT, Nat.reduceGT, Int.reduceToNat, reduceCtorEq, Nat.reduceBEq, Int.reduceBEq, Int.reduceBNe, Int.reduceEq, Int.reduceNe, decide_true, decide_false, ne0, ne1, ne2, ne3, ne4, ne5, ne6, ne7, ne8, ne9, ne10, ne11, ne12, ne13, ne14, ne15, ne16, ne17, ne18, ne19, ne20, ne21, ne22, ne23, ne24, ne25, ne26, ne27, ne28, ne29, wkC_cons]
        try rfl
      · have hj4 : ¬ j = id := fun e => hj3 (by rw [e])
        have k1 : ¬ j = 1 := by omega
        have k2 : ¬ j = 3 := by omega
        have k3 : ¬ j = cc := by omega
        have k4 : ¬ j = cc + 1 := by omega
        simp only [go_sem, Nat.reduceAdd, Nat.reduceLeDiff, Nat.reduceEqDiff, Nat.reduceMul, Nat.reduceSub, ↓reduceIte, Int.reduceLT, Int.reduceLE, Int.reduceGT, Int.reduceGE, Nat.reduceLT, Nat.reduceGT, Int.reduceToNat, reduceCtorEq, Nat.reduceBEq, Int.reduceBEq, Int.reduceBNe, Int.reduceEq, Int.reduceNe, decide_true, decide_false, hj4, k1, k2, k3, k4]
    · exfalso; simp at *; omega
theorem c_reach' (c : Prg) (h : List Int) (wk : List Nat) (o : Option Nat) (junk : List DV) (H : Hp) (cc : Nat) (p : Int) (x : Int) (hp : 0 ≤ p) (hS : WkS c h wk o junk H cc) (hw : wk.length ≤ 100000) :
    AC Tryd.prog 80 [I64 p, I64 x, .ptr 2 0, .ptr 3 0] H cc (fun v H' c' => (reachM h wk p.toNat x = none ∧ v = .bool false) ∨
      ∃ h' wk' o' junk', reachM h wk p.toNat x = some (h', wk') ∧ v = .bool true ∧ WkS c h' wk' o' junk' H' c' ∧ ∀ j, 4 ≤ j → j < cc → o ≠ some j → H' j = H j) := by
  have hpp : (p.toNat : Int) = p := by omega
  have key := c_reach c h wk o junk H cc p.toNat x hS hw
  rw [hpp] at key
  refine key.mono fun v H' c' hq => ?_
  cases hr : reachM h wk p.toNat x with
  | none => rw [hr] at hq; exact .inl ⟨rfl, hq⟩
  | some q =>
    obtain ⟨h', wk'⟩ := q
    rw [hr] at hq
    obtain ⟨e, o', junk', s1, s2⟩ := hq
    exact .inr ⟨h', wk', o', junk', rfl, e, s1, s2⟩
end Go.Proofs.YtcallbfckjlagaaDoor
set_option maxHeartbeats 4000000
set_option maxRecDepth 100000
set_option linter.unusedSimpArgs false
set_option linter.unusedVariables false
namespace Go.Proofs.YtcallbfckjlagaaDoor
open Go.Eng (IC IOper DReg IFn IsFn)
open Go.Sym Go.Pb
abbrev clo : DV := .func 80 [] [.ptr 2 0, .ptr 3 0]
theorem l_heightsP (c : Prg) (hl : Lim c) (hj : jumpsM c = true) (r : Option (List Int)) (n : Nat) (h : List Int) (wk : List Nat) (o : Option Nat) (junk : List DV) (cc : Nat) (hc4 : 4 ≤ cc) (hn : o = none → wk = []) (hs : ∀ i, o = some i → 4 ≤ i ∧ i < cc)
    (hI : WkI c.instrs.length h wk) (hb : wk.length + 2 * n ≤ 60000) (hr : hgtP c n h wk = some r) :
    IW Tryd.prog 150 (.loop u57_26) ⟨tm [(1, .ptr 0 0), (4, .ptr 2 0), (6, .ptr 3 0), (7, clo)], WH c h wk o junk, cc⟩ (bk 4 (sq Tryd.prog 150 u57_55 (rt [.tmp 2, .tmp 3] fun v H' x => ∃ H2, GL H' [v] H2 [hgtV r]))) := by
  have hjI : ∀ i ∈ c.instrs, i.op = 12 ∨ i.op = 13 ∨ i.op = 14 → 0 ≤ i.A ∧ i.A ≤ (c.instrs.length : Int) - 1 := by
    intro i hi hop
    simp only [jumpsM, Bool.and_eq_true, List.all_eq_true] at hj
    have := hj.1 i hi
    have hk : (effM i.op).2.2 = 7 := by rcases hop with e | e | e <;> rw [e] <;> decide
    simpa [jumpI, hk, inM] using this
  obtain ⟨wp, wv, ws, wi, wt, we, li, ls, le, lp, lv⟩ := hl
  refine i_loop (fun q : Nat × List Int × List Nat × Option Nat × List DV => [(1, .ptr 0 0), (4, .ptr 2 0), (6, .ptr 3 0), (7, clo)])
    (fun q => WH c q.2.1 q.2.2.1 q.2.2.2.1 q.2.2.2.2)
    (fun q cc => 4 ≤ cc ∧ (q.2.2.2.1 = none → q.2.2.1 = []) ∧ (∀ i, q.2.2.2.1 = some i → 4 ≤ i ∧ i < cc) ∧ WkI c.instrs.length q.2.1 q.2.2.1 ∧ q.2.2.1.length + 2 * q.1 ≤ 60000 ∧ hgtP c q.1 q.2.1 q.2.2.1 = some r)
    (fun q => q.1) (n, h, wk, o, junk) ⟨rfl, rfl, rfl, rfl, trivial⟩ (Sub.refl _) ⟨hc4, hn, hs, hI, hb, hr⟩ ?_
  clear hc4 hn hs hI hb hr
  rintro ⟨n, h, wk, o, junk⟩ cc ⟨hc4, hn, hs, hI, hb, hr⟩
  simp only at hn hs hI hb hr
  obtain ⟨m, rfl⟩ : ∃ m, n = m + 1 := by
    cases n with
    | zero => cases hr
    | succ m => exact ⟨m, rfl⟩
  have hS := WkS.mk' (c := c) (h := h) (junk := junk) hn hs hc4
  rcases wk with _ | ⟨p, wk⟩
  · simp only [hgtP, Option.some.injEq] at hr
    subst hr
    have hlen : lenR (todoV o 0) = some (I64 0) := by cases o <;> rfl
    repeat' ((first | (with_reducible first | refine wr ?_ | refine i_ret ?_ | refine i_skip ?_ | refine i_exit ?_) | ((with_reducible first | refine k_cb ?_ ?_ | refine k_gb ?_ ?_ | refine k_gb' ?_ ?_) <;> (intro hb; try simp only [hb]))) <;> try simp only [go_sem, Nat.reduceAdd, Nat.reduceLeDiff, Nat.reduceEqDiff, Nat.reduceMul, Nat.reduceSub, ↓reduceIte, Int.reduceLT, Int.reduceLE, Int.reduceGT, Int.reduceGE, Nat.reduceLT, Nat.reduceGT, Int.reduceToNat, reduceCtorEq, Nat.reduceBEq, Int.reduceBEq, Int.reduceBNe, Int.reduceEq, Int.reduceNe, decide_true, decide_false, hS.h0, hS.h1, hS.h2, hS.h3, hlen, List.length_nil])
    exact pc_slc2 (u := 1) hS.h1 rfl (by simp) (ints_unit h) ⟨[], by rw [cells_ints, List.append_nil]⟩
  rcases o with _ | id
  · exact absurd (hn rfl) (by simp)
  obtain ⟨i2, i3⟩ := hs id rfl
  have hbl := (hS.hs id rfl).2.2
  rw [List.length_cons] at hb
  have hpos : decide (((wk.length + 1 : Nat) : Int) > 0) = true := by simp
  have hw := w64 (n := (((wk.length + 1 : Nat) : Int) - 1)) (by omega) (by omega)
  have hw1 : (((wk.length + 1 : Nat) : Int) - 1) = (wk.length : Int) := by omega
  rw [hw1] at hw
  obtain ⟨s1, s2, s3⟩ := hI.mem p List.mem_cons_self
  have hIt : WkI c.instrs.length h wk := ⟨hI.hl, fun q hq => hI.mem q (List.mem_cons_of_mem _ hq)⟩
  have hlen := hI.hl
  have hp' : p < h.length := by omega
  have hgh := List.getElem?_eq_getElem hp'
  have hgi := List.getElem?_eq_getElem s1
  have eh : h.getD p 0 = h[p] := by simp [List.getD, hgh]
  have ei : c.instrs.getD p ⟨0, 0⟩ = c.instrs[p] := by simp [List.getD, hgi]
  simp only [hgtP] at hr
  rw [eh] at s2 s3
  rw [eh, ei] at hr
  obtain ⟨b1, b2, b3, b4⟩ := eff_bd c.instrs[p].op
  have w2 := w64 (n := h[p] - (effM c.instrs[p].op).1) (by omega) (by omega)
  have w3 := w64 (n := h[p] - (effM c.instrs[p].op).1 + (effM c.instrs[p].op).2.1) (by omega) (by omega)
  have hcell : (wkC (p :: wk) ++ junk)[wk.length]? = some (I64 (p : Int)) := by
    rw [wkC_cons, List.append_assoc, List.getElem?_append_right (by simp [wkC_len]), wkC_len]; simp
  have hblen : wk.length + 1 ≤ (wkC (p :: wk) ++ junk).length := by simp [wkC_len]
  have ne0 : ¬ 0 = id := by omega
  have ne1 : ¬ 0 = cc := by omega
  have ne2 : ¬ 0 = cc + 1 := by omega
  have ne3 : ¬ 1 = id := by omega
  have ne4 : ¬ 1 = cc := by omega
  have ne5 : ¬ 1 = cc + 1 := by omega
  have ne6 : ¬ 2 = id := by omega
  have ne7 : ¬ 2 = cc := by omega
  have ne8 : ¬ 2 = cc + 1 := by omega
  have ne9 : ¬ 3 = id := by omega
  have ne10 : ¬ 3 = cc := by omega
  have ne11 : ¬ 3 = cc + 1 := by omega
  have ne12 : ¬ id = 0 := by omega
  have ne13 : ¬ id = 1 := by omega
  have ne14 : ¬ id = 2 := by omega
  have ne15 : ¬ id = 3 := by omega
  have ne16 : ¬ id = cc := by omega
  have ne17 : ¬ id = cc + 1 := by omega
  have ne18 : ¬ cc = 0 := by omega
  have ne19 : ¬ cc = 1 := by omega
  have ne20 : ¬ cc = 2 := by omega
  have ne21 : ¬ cc = 3 := by omega
  have ne22 : ¬ cc = id := by omega
  have ne23 : ¬ cc = cc + 1 := by omega
  have ne24 : ¬ cc + 1 = 0 := by omega
  have ne25 : ¬ cc + 1 = 1 := by omega
  have ne26 : ¬ cc + 1 = 2 := by omega
  have ne27 : ¬ cc + 1 = 3 := by omega
  have ne28 : ¬ cc + 1 = id := by omega
  have ne29 : ¬ cc + 1 = cc := by omega
  by_cases hok : ¬ h[p] ≥ (effM c.instrs[p].op).1
  · rw [if_pos (.inl (by omega))] at hr
    cases hr
    have hok' : decide (h[p] ≥ (effM c.instrs[p].op).1) = false := by simpa using hok
    repeat' ((first | (with_reducible first | refine wr ?_ | refine i_ret ?_ | refine i_skip ?_ | refine i_exit ?_) | ((with_reducible first | refine k_cb ?_ ?_ | refine k_gb ?_ ?_ | refine k_gb' ?_ ?_) <;> (intro hb; try simp only [hb])) | ((with_reducible refine AC.call ((c_stack _).at _ _) ?_); rintro _ _ _ ⟨rfl, rfl, rfl⟩ -)) <;> try simp only [go_sem, Nat.reduceAdd, Nat.reduceLeDiff, Nat.reduceEqDiff, Nat.reduceMul, Nat.reduceSub, ↓reduceIte, Int.reduceLT, Int.reduceLE, Int.reduceGT, Int.reduceGE, Nat.reduceLT, Nat.reduceGT, Int.reduceToNat, reduceCtorEq, Nat.reduceBEq, Int.reduceBEq, Int.reduceBNe, Int.reduceEq, Int.reduceNe, decide_true, decide_false, hS.h0, hS.h1, hS.h2, hS.h3, hbl, List.length_cons, hw1, hw, hpos, hcell, hblen, hgh, hgi, s1, hp', hlen, w2, w3, hok', Nat.lt_add_one, Nat.le_add_right, ne0, ne1, ne2, ne3, ne4, ne5, ne6, ne7, ne8, ne9, ne10, ne11, ne12, ne13, ne14, ne15, ne16, ne17, ne18, ne19, ne20, ne21, ne22, ne23, ne24, ne25, ne26, ne27, ne28, ne29])
    all_goals exact pc_snil2
  have hok1 : h[p] ≥ (effM c.instrs[p].op).1 := by omega
  have hok' : decide (h[p] ≥ (effM c.instrs[p].op).1) = true := by simpa using hok1
  have hwp := w64 (n := (p : Int) + 1) (by omega) (by omega)
  have hpp : ((p : Int) + 1).toNat = p + 1 := by omega
  by_cases e31 : c.instrs[p].op = 31
  · have o31 : (c.instrs[p].op == 31) = true := by simpa using e31
    by_cases hz : h[p] = 0
    · have hz' : (h[p] == 0) = true := by simpa using hz
      rw [if_neg (by omega)] at hr
      have hA : afterM c.instrs[p] p h[p] = [] := by simp [afterM, e31]
      rw [hA] at hr
      simp only [reachL] at hr
      repeat' ((first | (with_reducible first | refine wr ?_ | refine i_ret ?_ | refine i_skip ?_ | refine i_exit ?_) | ((with_reducible first | refine k_cb ?_ ?_ | refine k_gb ?_ ?_ | refine k_gb' ?_ ?_) <;> (intro hb; try simp only [hb])) | ((with_reducible refine AC.call ((c_stack _).at _ _) ?_); rintro _ _ _ ⟨rfl, rfl, rfl⟩ -)) <;> try simp only [go_sem, Nat.reduceAdd, Nat.reduceLeDiff, Nat.reduceEqDiff, Nat.reduceMul, Nat.reduceSub, ↓reduceIte, Int.reduceLT, Int.reduceLE, Int.reduceGT, Int.reduceGE, Nat.reduceLT, Nat.reduceGT, Int.reduceToNat, reduceCtorEq, Nat.reduceBEq, Int.reduceBEq, Int.reduceBNe, Int.reduceEq, Int.reduceNe, decide_true, decide_false, hS.h0, hS.h1, hS.h2, hS.h3, hbl, List.length_cons, hw1, hw, hpos, hcell, hblen, hgh, hgi, s1, hp', hlen, w2, w3, hok', Nat.lt_add_one, Nat.le_add_right, ne0, ne1, ne2, ne3, ne4, ne5, ne6, ne7, ne8, ne9, ne10, ne11, ne12, ne13, ne14, ne15, ne16, ne17, ne18, ne19, ne20, ne21, ne22, ne23, ne24, ne25, ne26, ne27, ne28, ne29, o31, hz'])
      have hS' := (hS.pop.upd ⟨0, true, [DV.int IntKind.i64 0, DV.int IntKind.i64 0]⟩ (Nat.le_refl _) (Nat.le_refl _)).upd ⟨0, true, [I64 c.instrs[p].op, I64 c.instrs[p].A]⟩ (Nat.le_refl _) (Nat.le_succ _)
      exact ⟨(m, h, wk, some id, I64 (p : Int) :: junk), hS'.sub, inv ⟨hS'.hc, hS'.hn, fun i hi => ⟨(hS'.hs i hi).1, (hS'.hs i hi).2.1⟩, hIt, by simp only; omega, hr⟩, by simp only; omega⟩
    · have hz' : (h[p] == 0) = false := by simpa using hz
      rw [if_pos (.inr ⟨e31, hz⟩)] at hr
      cases hr
      repeat' ((first | (with_reducible first | refine wr ?_ | refine i_ret ?_ | refine i_skip ?_ | refine i_exit ?_) | ((with_reducible first | refine k_cb ?_ ?_ | refine k_gb ?_ ?_ | refine k_gb' ?_ ?_) <;> (intro hb; try simp only [hb])) | ((with_reducible refine AC.call ((c_stack _).at _ _) ?_); rintro _ _ _ ⟨rfl, rfl, rfl⟩ -)) <;> try simp only [go_sem, Nat.reduceAdd, Nat.reduceLeDiff, Nat.reduceEqDiff, Nat.reduceMul, Nat.reduceSub, ↓reduceIte, Int.reduceLT, Int.reduceLE, Int.reduceGT, Int.reduceGE, Nat.reduceLT, Nat.reduceGT, Int.reduceToNat, reduceCtorEq, Nat.reduceBEq, Int.reduceBEq, Int.reduceBNe, Int.reduceEq, Int.reduceNe, decide_true, decide_false, hS.h0, hS.h1, hS.h2, hS.h3, hbl, List.length_cons, hw1, hw, hpos, hcell, hblen, hgh, hgi, s1, hp', hlen, w2, w3, hok', Nat.lt_add_one, Nat.le_add_right, ne0, ne1, ne2, ne3, ne4, ne5, ne6, ne7, ne8, ne9, ne10, ne11, ne12, ne13, ne14, ne15, ne16, ne17, ne18, ne19, ne20, ne21, ne22, ne23, ne24, ne25, ne26, ne27, ne28, ne29, o31, hz'])
      exact pc_snil2
  have o31 : (c.instrs[p].op == 31) = false := by simpa using e31
  rw [if_neg (by omega)] at hr
  by_cases e12 : c.instrs[p].op = 12
  · have o12 : (c.instrs[p].op == 12) = true := by simpa using e12
    have p1 := (hjI _ (List.getElem_mem s1) (.inl e12)).1
    have hE : effM c.instrs[p].op = (0, 0, 7) := by rw [e12]; decide
    have hA : afterM c.instrs[p] p h[p] = [(c.instrs[p].A.toNat, h[p])] := by simp [afterM, e12]
    have hx : h[p] - (effM c.instrs[p].op).1 + (effM c.instrs[p].op).2.1 = h[p] := by rw [hE]; simp
    repeat' ((first | (with_reducible first | refine wr ?_ | refine i_ret ?_ | refine i_skip ?_ | refine i_exit ?_) | ((with_reducible first | refine k_cb ?_ ?_ | refine k_gb ?_ ?_ | refine k_gb' ?_ ?_) <;> (intro hb; try simp only [hb])) | ((with_reducible refine AC.call ((c_stack _).at _ _) ?_); rintro _ _ _ ⟨rfl, rfl, rfl⟩ -)) <;> try simp only [go_sem, Nat.reduceAdd, Nat.reduceLeDiff, Nat.reduceEqDiff, Nat.reduceMul, Nat.reduceSub, ↓reduceIte, Int.reduceLT, Int.reduceLE, Int.reduceGT, Int.reduceGE, Nat.reduceLT, Nat.reduceGT, Int.reduceToNat, reduceCtorEq, Nat.reduceBEq, Int.reduceBEq, Int.reduceBNe, Int.reduceEq, Int.reduceNe, decide_true, decide_false, hS.h0, hS.h1, hS.h2, hS.h3, hbl, List.length_cons, hw1, hw, hpos, hcell, hblen, hgh, hgi, s1, hp', hlen, w2, w3, hok', Nat.lt_add_one, Nat.le_add_right, ne0, ne1, ne2, ne3, ne4, ne5, ne6, ne7, ne8, ne9, ne10, ne11, ne12, ne13, ne14, ne15, ne16, ne17, ne18, ne19, ne20, ne21, ne22, ne23, ne24, ne25, ne26, ne27, ne28, ne29, o31, o12])
    refine AC.call (c_reach' c h wk (some id) _ _ _ (c.instrs[p].A) _ (p1) ((hS.pop.upd _ (Nat.le_refl _) (Nat.le_refl _)).upd _ (Nat.le_refl _) (Nat.le_succ _)) (by omega)) ?_
    rintro v H' c' hq hcc
    rw [hA] at hr
    rw [hx] at hq
    rcases hq with ⟨hr0, rfl⟩ | ⟨h', wk', o', junk', hr1, rfl, hS', hfr⟩
    · simp only [reachL, hr0] at hr
      cases hr
      simp only [go_sem, Nat.reduceAdd, Nat.reduceLeDiff, Nat.reduceEqDiff, Nat.reduceMul, Nat.reduceSub, ↓reduceIte, Int.reduceLT, Int.reduceLE, Int.reduceGT, Int.reduceGE, Nat.reduceLT, Nat.reduceGT, Int.reduceToNat, reduceCtorEq, Nat.reduceBEq, Int.reduceBEq, Int.reduceBNe, Int.reduceEq, Int.reduceNe, decide_true, decide_false]
      repeat' ((first | (with_reducible first | refine wr ?_ | refine i_ret ?_ | refine i_skip ?_ | refine i_exit ?_) | ((with_reducible first | refine k_cb ?_ ?_ | refine k_gb ?_ ?_ | refine k_gb' ?_ ?_) <;> (intro hb; try simp only [hb]))) <;> try simp only [go_sem, Nat.reduceAdd, Nat.reduceLeDiff, Nat.reduceEqDiff, Nat.reduceMul, Nat.reduceSub, ↓reduceIte, Int.reduceLT, Int.reduceLE, Int.reduceGT, Int.reduceGE, Nat.reduceLT, Nat.reduceGT, Int.reduceToNat, reduceCtorEq, Nat.reduceBEq, Int.reduceBEq, Int.reduceBNe, Int.reduceEq, Int.reduceNe, decide_true, decide_false])
      exact pc_snil2
    · simp only [reachL, hr1] at hr
      obtain ⟨hI', hwk'⟩ := reach_inv hIt s2 hr1
      simp only [go_sem, Nat.reduceAdd, Nat.reduceLeDiff, Nat.reduceEqDiff, Nat.reduceMul, Nat.reduceSub, ↓reduceIte, Int.reduceLT, Int.reduceLE, Int.reduceGT, Int.reduceGE, Nat.reduceLT, Nat.reduceGT, Int.reduceToNat, reduceCtorEq, Nat.reduceBEq, Int.reduceBEq, Int.reduceBNe, Int.reduceEq, Int.reduceNe, decide_true, decide_false]
      repeat' ((first | (with_reducible first | refine wr ?_ | refine i_ret ?_ | refine i_skip ?_ | refine i_exit ?_) | ((with_reducible first | refine k_cb ?_ ?_ | refine k_gb ?_ ?_ | refine k_gb' ?_ ?_) <;> (intro hb; try simp only [hb]))) <;> try simp only [go_sem, Nat.reduceAdd, Nat.reduceLeDiff, Nat.reduceEqDiff, Nat.reduceMul, Nat.reduceSub, ↓reduceIte, Int.reduceLT, Int.reduceLE, Int.reduceGT, Int.reduceGE, Nat.reduceLT, Nat.reduceGT, Int.reduceToNat, reduceCtorEq, Nat.reduceBEq, Int.reduceBEq, Int.reduceBNe, Int.reduceEq, Int.reduceNe, decide_true, decide_false])
      exact ⟨(m, h', wk', o', junk'), hS'.sub, inv ⟨hS'.hc, hS'.hn, fun i hi => ⟨(hS'.hs i hi).1, (hS'.hs i hi).2.1⟩, hI', by simp only; omega, hr⟩, by simp only; omega⟩
  have o12 : (c.instrs[p].op == 12) = false := by simpa using e12
  by_cases e13 : c.instrs[p].op = 13
  · have o13 : (c.instrs[p].op == 13) = true := by simpa using e13
    have p1 := (hjI _ (List.getElem_mem s1) (.inr (.inl e13))).1
    have hE : effM c.instrs[p].op = (1, 0, 7) := by rw [e13]; decide
    have hA : afterM c.instrs[p] p h[p] = [(p + 1, h[p] - 1), (c.instrs[p].A.toNat, h[p] - 1)] := by simp [afterM, e13]
    have hx : h[p] - (effM c.instrs[p].op).1 + (effM c.instrs[p].op).2.1 = h[p] - 1 := by rw [hE]; simp
    have hge : 0 ≤ h[p] - 1 := by rw [hE] at hok1; simp only at hok1; omega
    repeat' ((first | (with_reducible first | refine wr ?_ | refine i_ret ?_ | refine i_skip ?_ | refine i_exit ?_) | ((with_reducible first | refine k_cb ?_ ?_ | refine k_gb ?_ ?_ | refine k_gb' ?_ ?_) <;> (intro hb; try simp only [hb])) | ((with_reducible refine AC.call ((c_stack _).at _ _) ?_); rintro _ _ _ ⟨rfl, rfl, rfl⟩ -)) <;> try simp only [go_sem, Nat.reduceAdd, Nat.reduceLeDiff, Nat.reduceEqDiff, Nat.reduceMul, Nat.reduceSub, ↓reduceIte, Int.reduceLT, Int.reduceLE, Int.reduceGT, Int.reduceGE, Nat.reduceLT, Nat.reduceGT, Int.reduceToNat, reduceCtorEq, Nat.reduceBEq, Int.reduceBEq, Int.reduceBNe, Int.reduceEq, Int.reduceNe, decide_true, decide_false, hS.h0, hS.h1, hS.h2, hS.h3, hbl, List.length_cons, hw1, hw, hpos, hcell, hblen, hgh, hgi, s1, hp', hlen, w2, w3, hok', Nat.lt_add_one, Nat.le_add_right, ne0, ne1, ne2, ne3, ne4, ne5, ne6, ne7, ne8, ne9, ne10, ne11, ne12, ne13, ne14, ne15, ne16, ne17, ne18, ne19, ne20, ne21, ne22, ne23, ne24, ne25, ne26, ne27, ne28, ne29, o31, o12, o13, hwp])
    refine AC.call (c_reach' c h wk (some id) _ _ _ ((p : Int) + 1) _ (by omega) ((hS.pop.upd _ (Nat.le_refl _) (Nat.le_refl _)).upd _ (Nat.le_refl _) (Nat.le_succ _)) (by omega)) ?_
    rintro v H' c' hq hcc
    rw [hA] at hr
    rw [hx] at hq
    rw [hpp] at hq
    rcases hq with ⟨hr0, rfl⟩ | ⟨h', wk', o', junk', hr1, rfl, hS', hfr⟩
    · simp only [reachL, hr0] at hr
      cases hr
      simp only [go_sem, Nat.reduceAdd, Nat.reduceLeDiff, Nat.reduceEqDiff, Nat.reduceMul, Nat.reduceSub, ↓reduceIte, Int.reduceLT, Int.reduceLE, Int.reduceGT, Int.reduceGE, Nat.reduceLT, Nat.reduceGT, Int.reduceToNat, reduceCtorEq, Nat.reduceBEq, Int.reduceBEq, Int.reduceBNe, Int.reduceEq, Int.reduceNe, decide_true, decide_false]
      repeat' ((first | (with_reducible first | refine wr ?_ | refine i_ret ?_ | refine i_skip ?_ | refine i_exit ?_) | ((with_reducible first | refine k_cb ?_ ?_ | refine k_gb ?_ ?_ | refine k_gb' ?_ ?_) <;> (intro hb; try simp only [hb]))) <;> try simp only [go_sem, Nat.reduceAdd, Nat.reduceLeDiff, Nat.reduceEqDiff, Nat.reduceMul, Nat.reduceSub, ↓reduceIte, Int.reduceLT, Int.reduceLE, Int.reduceGT, Int.reduceGE, Nat.reduceLT, Nat.reduceGT, Int.reduceToNat, reduceCtorEq, Nat.reduceBEq, Int.reduceBEq, Int.reduceBNe, Int.reduceEq, Int.reduceNe, decide_true, decide_false])
      exact pc_snil2
    · obtain ⟨hI', hwk'⟩ := reach_inv hIt hge hr1
      simp only [reachL, hr1] at hr
      have hbox := (hfr cc hc4 (Nat.lt_succ_self _) (by simp; omega)).trans h_same
      simp only [go_sem, Nat.reduceAdd, Nat.reduceLeDiff, Nat.reduceEqDiff, Nat.reduceMul, Nat.reduceSub, ↓reduceIte, Int.reduceLT, Int.reduceLE, Int.reduceGT, Int.reduceGE, Nat.reduceLT, Nat.reduceGT, Int.reduceToNat, reduceCtorEq, Nat.reduceBEq, Int.reduceBEq, Int.reduceBNe, Int.reduceEq, Int.reduceNe, decide_true, decide_false, hbox, o31, o12, o13, hwp]
      repeat' ((first | (with_reducible first | refine wr ?_ | refine i_ret ?_ | refine i_skip ?_ | refine i_exit ?_) | ((with_reducible first | refine k_cb ?_ ?_ | refine k_gb ?_ ?_ | refine k_gb' ?_ ?_) <;> (intro hb; try simp only [hb]))) <;> try simp only [go_sem, Nat.reduceAdd, Nat.reduceLeDiff, Nat.reduceEqDiff, Nat.reduceMul, Nat.reduceSub, ↓reduceIte, Int.reduceLT, Int.reduceLE, Int.reduceGT, Int.reduceGE, Nat.reduceLT, Nat.reduceGT, Int.reduceToNat, reduceCtorEq, Nat.reduceBEq, Int.reduceBEq, Int.reduceBNe, Int.reduceEq, Int.reduceNe, decide_true, decide_false, hbox, o31, o12, o13, hwp])
      refine AC.call (c_reach' c h' wk' o' junk' _ _ c.instrs[p].A _ p1 hS' (by omega)) ?_
      rintro v H2 c2 hq hcc2
      rw [hx] at hq
      rcases hq with ⟨hr0, rfl⟩ | ⟨h2, wk2, o2, junk2, hr2, rfl, hS2, hfr2⟩
      · simp only [hr0] at hr
        cases hr
        simp only [go_sem, Nat.reduceAdd, Nat.reduceLeDiff, Nat.reduceEqDiff, Nat.reduceMul, Nat.reduceSub, ↓reduceIte, Int.reduceLT, Int.reduceLE, Int.reduceGT, Int.reduceGE, Nat.reduceLT, Nat.reduceGT, Int.reduceToNat, reduceCtorEq, Nat.reduceBEq, Int.reduceBEq, Int.reduceBNe, Int.reduceEq, Int.reduceNe, decide_true, decide_false]
        repeat' ((first | (with_reducible first | refine wr ?_ | refine i_ret ?_ | refine i_skip ?_ | refine i_exit ?_) | ((with_reducible first | refine k_cb ?_ ?_ | refine k_gb ?_ ?_ | refine k_gb' ?_ ?_) <;> (intro hb; try simp only [hb]))) <;> try simp only [go_sem, Nat.reduceAdd, Nat.reduceLeDiff, Nat.reduceEqDiff, Nat.reduceMul, Nat.reduceSub, ↓reduceIte, Int.reduceLT, Int.reduceLE, Int.reduceGT, Int.reduceGE, Nat.reduceLT, Nat.reduceGT, Int.reduceToNat, reduceCtorEq, Nat.reduceBEq, Int.reduceBEq, Int.reduceBNe, Int.reduceEq, Int.reduceNe, decide_true, decide_false])
        exact pc_snil2
      · simp only [hr2] at hr
        obtain ⟨hI2, hwk2⟩ := reach_inv hI' hge hr2
        simp only [go_sem, Nat.reduceAdd, Nat.reduceLeDiff, Nat.reduceEqDiff, Nat.reduceMul, Nat.reduceSub, ↓reduceIte, Int.reduceLT, Int.reduceLE, Int.reduceGT, Int.reduceGE, Nat.reduceLT, Nat.reduceGT, Int.reduceToNat, reduceCtorEq, Nat.reduceBEq, Int.reduceBEq, Int.reduceBNe, Int.reduceEq, Int.reduceNe, decide_true, decide_false]
        repeat' ((first | (with_reducible first | refine wr ?_ | refine i_ret ?_ | refine i_skip ?_ | refine i_exit ?_) | ((with_reducible first | refine k_cb ?_ ?_ | refine k_gb ?_ ?_ | refine k_gb' ?_ ?_) <;> (intro hb; try simp only [hb]))) <;> try simp only [go_sem, Nat.reduceAdd, Nat.reduceLeDiff, Nat.reduceEqDiff, Nat.reduceMul, Nat.reduceSub, ↓reduceIte, Int.reduceLT, Int.reduceLE, Int.reduceGT, Int.reduceGE, Nat.reduceLT, Nat.reduceGT, Int.reduceToNat, reduceCtorEq, Nat.reduceBEq, Int.reduceBEq, Int.reduceBNe, Int.reduceEq, Int.reduceNe, decide_true, decide_false])
        exact ⟨(m, h2, wk2, o2, junk2), hS2.sub, inv ⟨hS2.hc, hS2.hn, fun i hi => ⟨(hS2.hs i hi).1, (hS2.hs i hi).2.1⟩, hI2, by simp only; omega, hr⟩, by simp only; omega⟩
  have o13 : (c.instrs[p].op == 13) = false := by simpa using e13
  by_cases e14 : c.instrs[p].op = 14
  · have o14 : (c.instrs[p].op == 14) = true := by simpa using e14
    have p1 := (hjI _ (List.getElem_mem s1) (.inr (.inr e14))).1
    have hE : effM c.instrs[p].op = (1, 1, 7) := by rw [e14]; decide
    have hA : afterM c.instrs[p] p h[p] = [(p + 1, h[p]), (c.instrs[p].A.toNat, h[p] - 1)] := by simp [afterM, e14]
    have hx : h[p] - (effM c.instrs[p].op).1 + (effM c.instrs[p].op).2.1 = h[p] := by rw [hE]; simp
    have hge : 0 ≤ h[p] - 1 := by rw [hE] at hok1; simp only at hok1; omega
    have w4 := w64 (n := h[p] - (effM c.instrs[p].op).1 + (effM c.instrs[p].op).2.1 - 1) (by omega) (by omega)
    repeat' ((first | (with_reducible first | refine wr ?_ | refine i_ret ?_ | refine i_skip ?_ | refine i_exit ?_) | ((with_reducible first | refine k_cb ?_ ?_ | refine k_gb ?_ ?_ | refine k_gb' ?_ ?_) <;> (intro hb; try simp only [hb])) | ((with_reducible refine AC.call ((c_stack _).at _ _) ?_); rintro _ _ _ ⟨rfl, rfl, rfl⟩ -)) <;> try simp only [go_sem, Nat.reduceAdd, Nat.reduceLeDiff, Nat.reduceEqDiff, Nat.reduceMul, Nat.reduceSub, ↓reduceIte, Int.reduceLT, Int.reduceLE, Int.reduceGT, Int.reduceGE, Nat.reduceLT, Nat.reduceGT, Int.reduceToNat, reduceCtorEq, Nat.reduceBEq, Int.reduceBEq, Int.reduceBNe, Int.reduceEq, Int.reduceNe, decide_true, decide_false, hS.h0, hS.h1, hS.h2, hS.h3, hbl, List.length_cons, hw1, hw, hpos, hcell, hblen, hgh, hgi, s1, hp', hlen, w2, w3, hok', Nat.lt_add_one, Nat.le_add_right, ne0, ne1, ne2, ne3, ne4, ne5, ne6, ne7, ne8, ne9, ne10, ne11, ne12, ne13, ne14, ne15, ne16, ne17, ne18, ne19, ne20, ne21, ne22, ne23, ne24, ne25, ne26, ne27, ne28, ne29, o31, o12, o13, o14, hwp, w4])
    refine AC.call (c_reach' c h wk (some id) _ _ _ ((p : Int) + 1) _ (by omega) ((hS.pop.upd _ (Nat.le_refl _) (Nat.le_refl _)).upd _ (Nat.le_refl _) (Nat.le_succ _)) (by omega)) ?_
    rintro v H' c' hq hcc
    rw [hA] at hr
    rw [hx] at hq
    rw [hpp] at hq
    rcases hq with ⟨hr0, rfl⟩ | ⟨h', wk', o', junk', hr1, rfl, hS', hfr⟩
    · simp only [reachL, hr0] at hr
      cases hr
      simp only [go_sem, Nat.reduceAdd, Nat.reduceLeDiff, Nat.reduceEqDiff, Nat.reduceMul, Nat.reduceSub, ↓reduceIte, Int.reduceLT, Int.reduceLE, Int.reduceGT, Int.reduceGE, Nat.reduceLT, Nat.reduceGT, Int.reduceToNat, reduceCtorEq, Nat.reduceBEq, Int.reduceBEq, Int.reduceBNe, Int.reduceEq, Int.reduceNe, decide_true, decide_false]
      repeat' ((first | (with_reducible first | refine wr ?_ | refine i_ret ?_ | refine i_skip ?_ | refine i_exit ?_) | ((with_reducible first | refine k_cb ?_ ?_ | refine k_gb ?_ ?_ | refine k_gb' ?_ ?_) <;> (intro hb; try simp only [hb]))) <;> try simp only [go_sem, Nat.reduceAdd, Nat.reduceLeDiff, Nat.reduceEqDiff, Nat.reduceMul, Nat.reduceSub, ↓reduceIte, Int.reduceLT, Int.reduceLE, Int.reduceGT, Int.reduceGE, Nat.reduceLT, Nat.reduceGT, Int.reduceToNat, reduceCtorEq, Nat.reduceBEq, Int.reduceBEq, Int.reduceBNe, Int.reduceEq, Int.reduceNe, decide_true, decide_false])
      exact pc_snil2
    · obtain ⟨hI', hwk'⟩ := reach_inv hIt s2 hr1
      simp only [reachL, hr1] at hr
      have hbox := (hfr cc hc4 (Nat.lt_succ_self _) (by simp; omega)).trans h_same
      simp only [go_sem, Nat.reduceAdd, Nat.reduceLeDiff, Nat.reduceEqDiff, Nat.reduceMul, Nat.reduceSub, ↓reduceIte, Int.reduceLT, Int.reduceLE, Int.reduceGT, Int.reduceGE, Nat.reduceLT, Nat.reduceGT, Int.reduceToNat, reduceCtorEq, Nat.reduceBEq, Int.reduceBEq, Int.reduceBNe, Int.reduceEq, Int.reduceNe, decide_true, decide_false, hbox, o31, o12, o13, o14, hwp, w4]
      repeat' ((first | (with_reducible first | refine wr ?_ | refine i_ret ?_ | refine i_skip ?_ | refine i_exit ?_) | ((with_reducible first | refine k_cb ?_ ?_ | refine k_gb ?_ ?_ | refine k_gb' ?_ ?_) <;> (intro hb; try simp only [hb]))) <;> try simp only [go_sem, Nat.reduceAdd, Nat.reduceLeDiff, Nat.reduceEqDiff, Nat.reduceMul, Nat.reduceSub, ↓reduceIte, Int.reduceLT, Int.reduceLE, Int.reduceGT, Int.reduceGE, Nat.reduceLT, Nat.reduceGT, Int.reduceToNat, reduceCtorEq, Nat.reduceBEq, Int.reduceBEq, Int.reduceBNe, Int.reduceEq, Int.reduceNe, decide_true, decide_false, hbox, o31, o12, o13, o14, hwp, w4])
      refine AC.call (c_reach' c h' wk' o' junk' _ _ c.instrs[p].A _ p1 hS' (by omega)) ?_
      rintro v H2 c2 hq hcc2
      rw [hx] at hq
      rcases hq with ⟨hr0, rfl⟩ | ⟨h2, wk2, o2, junk2, hr2, rfl, hS2, hfr2⟩
      · simp only [hr0] at hr
        cases hr
        simp only [go_sem, Nat.reduceAdd, Nat.reduceLeDiff, Nat.reduceEqDiff, Nat.reduceMul, Nat.reduceSub, ↓reduceIte, Int.reduceLT, Int.reduceLE, Int.reduceGT, Int.reduceGE, Nat.reduceLT, Nat.reduceGT, Int.reduceToNat, reduceCtorEq, Nat.reduceBEq, Int.reduceBEq, Int.reduceBNe, Int.reduceEq, Int.reduceNe, decide_true, decide_false]
        repeat' ((first | (with_reducible first | refine wr ?_ | refine i_ret ?_ | refine i_skip ?_ | refine i_exit ?_) | ((with_reducible first | refine k_cb ?_ ?_ | refine k_gb ?_ ?_ | refine k_gb' ?_ ?_) <;> (intro hb; try simp only [hb]))) <;> try simp only [go_sem, Nat.reduceAdd, Nat.reduceLeDiff, Nat.reduceEqDiff, Nat.reduceMul, Nat.reduceSub, ↓reduceIte, Int.reduceLT, Int.reduceLE, Int.reduceGT, Int.reduceGE, Nat.reduceLT, Nat.reduceGT, Int.reduceToNat, reduceCtorEq, Nat.reduceBEq, Int.reduceBEq, Int.reduceBNe, Int.reduceEq, Int.reduceNe, decide_true, decide_false])
        exact pc_snil2
      · simp only [hr2] at hr
        obtain ⟨hI2, hwk2⟩ := reach_inv hI' hge hr2
        simp only [go_sem, Nat.reduceAdd, Nat.reduceLeDiff, Nat.reduceEqDiff, Nat.reduceMul, Nat.reduceSub, ↓reduceIte, Int.reduceLT, Int.reduceLE, Int.reduceGT, Int.reduceGE, Nat.reduceLT, Nat.reduceGT, Int.reduceToNat, reduceCtorEq, Nat.reduceBEq, Int.reduceBEq, Int.reduceBNe, Int.reduceEq, Int.reduceNe, decide_true, decide_false]
        repeat' ((first | (with_reducible first | refine wr ?_ | refine i_ret ?_ | refine i_skip ?_ | refine i_exit ?_) | ((with_reducible first | refine k_cb ?_ ?_ | refine k_gb ?_ ?_ | refine k_gb' ?_ ?_) <;> (intro hb; try simp only [hb]))) <;> try simp only [go_sem, Nat.reduceAdd, Nat.reduceLeDiff, Nat.reduceEqDiff, Nat.reduceMul, Nat.reduceSub, ↓reduceIte, Int.reduceLT, Int.reduceLE, Int.reduceGT, Int.reduceGE, Nat.reduceLT, Nat.reduceGT, Int.reduceToNat, reduceCtorEq, Nat.reduceBEq, Int.reduceBEq, Int.reduceBNe, Int.reduceEq, Int.reduceNe, decide_true, decide_false])
        exact ⟨(m, h2, wk2, o2, junk2), hS2.sub, inv ⟨hS2.hc, hS2.hn, fun i hi => ⟨(hS2.hs i hi).1, (hS2.hs i hi).2.1⟩, hI2, by simp only; omega, hr⟩, by simp only; omega⟩
  have o14 : (c.instrs[p].op == 14) = false := by simpa using e14
  have hA : afterM c.instrs[p] p h[p] = [(p + 1, h[p] - (effM c.instrs[p].op).1 + (effM c.instrs[p].op).2.1)] := by simp [afterM, e31, e12, e13, e14]
  have hge : 0 ≤ h[p] - (effM c.instrs[p].op).1 + (effM c.instrs[p].op).2.1 := by omega
  repeat' ((first | (with_reducible first | refine wr ?_ | refine i_ret ?_ | refine i_skip ?_ | refine i_exit ?_) | ((with_reducible first | refine k_cb ?_ ?_ | refine k_gb ?_ ?_ | refine k_gb' ?_ ?_) <;> (intro hb; try simp only [hb])) | ((with_reducible refine AC.call ((c_stack _).at _ _) ?_); rintro _ _ _ ⟨rfl, rfl, rfl⟩ -)) <;> try simp only [go_sem, Nat.reduceAdd, Nat.reduceLeDiff, Nat.reduceEqDiff, Nat.reduceMul, Nat.reduceSub, ↓reduceIte, Int.reduceLT, Int.reduceLE, Int.reduceGT, Int.reduceGE, Nat.reduceLT, Nat.reduceGT, Int.reduceToNat, reduceCtorEq, Nat.reduceBEq, Int.reduceBEq, Int.reduceBNe, Int.reduceEq, Int.reduceNe, decide_true, decide_false, hS.h0, hS.h1, hS.h2, hS.h3, hbl, List.length_cons, hw1, hw, hpos, hcell, hblen, hgh, hgi, s1, hp', hlen, w2, w3, hok', Nat.lt_add_one, Nat.le_add_right, ne0, ne1, ne2, ne3, ne4, ne5, ne6, ne7, ne8, ne9, ne10, ne11, ne12, ne13, ne14, ne15, ne16, ne17, ne18, ne19, ne20, ne21, ne22, ne23, ne24, ne25, ne26, ne27, ne28, ne29, o31, o12, o13, o14, hwp])
  refine AC.call (c_reach' c h wk (some id) _ _ _ ((p : Int) + 1) _ (by omega) ((hS.pop.upd _ (Nat.le_refl _) (Nat.le_refl _)).upd _ (Nat.le_refl _) (Nat.le_succ _)) (by omega)) ?_
  rintro v H' c' hq hcc
  rw [hA] at hr
  rw [hpp] at hq
  rcases hq with ⟨hr0, rfl⟩ | ⟨h', wk', o', junk', hr1, rfl, hS', hfr⟩
  · simp only [reachL, hr0] at hr
    cases hr
    simp only [go_sem, Nat.reduceAdd, Nat.reduceLeDiff, Nat.reduceEqDiff, Nat.reduceMul, Nat.reduceSub, ↓reduceIte, Int.reduceLT, Int.reduceLE, Int.reduceGT, Int.reduceGE, Nat.reduceLT, Nat.reduceGT, Int.reduceToNat, reduceCtorEq, Nat.reduceBEq, Int.reduceBEq, Int.reduceBNe, Int.reduceEq, Int.reduceNe, decide_true, decide_false]
    repeat' ((first | (with_reducible first | refine wr ?_ | refine i_ret ?_ | refine i_skip ?_ | refine i_exit ?_) | ((with_reducible first | refine k_cb ?_ ?_ | refine k_gb ?_ ?_ | refine k_gb' ?_ ?_) <;> (intro hb; try simp only [hb]))) <;> try simp only [go_sem, Nat.reduceAdd, Nat.reduceLeDiff, Nat.reduceEqDiff, Nat.reduceMul, Nat.reduceSub, ↓reduceIte, Int.reduceLT, Int.reduceLE, Int.reduceGT, Int.reduceGE, Nat.reduceLT, Nat.reduceGT, Int.reduceToNat, reduceCtorEq, Nat.reduceBEq, Int.reduceBEq, Int.reduceBNe, Int.reduceEq, Int.reduceNe, decide_true, decide_false])
    exact pc_snil2
  · simp only [reachL, hr1] at hr
    obtain ⟨hI', hwk'⟩ := reach_inv hIt hge hr1
    simp only [go_sem, Nat.reduceAdd, Nat.reduceLeDiff, Nat.reduceEqDiff, Nat.reduceMul, Nat.reduceSub, ↓reduceIte, Int.reduceLT, Int.reduceLE, Int.reduceGT, Int.reduceGE, Nat.reduceLT, Nat.reduceGT, Int.reduceToNat, reduceCtorEq, Nat.reduceBEq, Int.reduceBEq, Int.reduceBNe, Int.reduceEq, Int.reduceNe, decide_true, decide_false]
    repeat' ((first | (with_reducible first | refine wr ?_ | refine i_ret ?_ | refine i_skip ?_ | refine i_exit ?_) | ((with_reducible first | refine k_cb ?_ ?_ | refine k_gb ?_ ?_ | refine k_gb' ?_ ?_) <;> (intro hb; try simp only [hb]))) <;> try simp only [go_sem, Nat.reduceAdd, Nat.reduceLeDiff, Nat.reduceEqDiff, Nat.reduceMul, Nat.reduceSub, ↓reduceIte, Int.reduceLT, Int.reduceLE, Int.reduceGT, Int.reduceGE, Nat.reduceLT, Nat.reduceGT, Int.reduceToNat, reduceCtorEq, Nat.reduceBEq, Int.reduceBEq, Int.reduceBNe, Int.reduceEq, Int.reduceNe, decide_true, decide_false])
    exact ⟨(m, h', wk', o', junk'), hS'.sub, inv ⟨hS'.hc, hS'.hn, fun i hi => ⟨(hS'.hs i hi).1, (hS'.hs i hi).2.1⟩, hI', by simp only; omega, hr⟩, by simp only; omega⟩
theorem c_heightsP (c : Prg) (hl : Lim c) (hj : jumpsM c = true) (n : Nat) (hn0 : n ≤ 20000) (r : Option (List Int)) (hr : hgtP0 c n = some r) : PC Tryd.prog 57 [c.v] (hgtV r) := by
  have hl0 := hl
  obtain ⟨wp, wv, ws, wi, wt, we, li, ls, le, lp, lv⟩ := hl
  have hms := r_msl (sz := 1) (bytes := 8) (z := [I64 0]) (k := .i64) (k' := .i64) (n := c.instrs.length) (by omega) (by omega) rfl rfl
  refine PC.of mixedU isU57 (Nat.le_of_ble_eq_true rfl) (by simp [DV.nlL, DV.nl, nlL_ints, nlL_strs, nlL_instrs, nlL_entries]) (by cases r <;> simp [hgtV, DV.nlL, DV.nl, nlL_ints]) ?_
  show IW Tryd.prog 150 u57_1 ⟨argT _, _, _⟩ (rt [.tmp 2, .tmp 3] _)
  repeat' ((first | (with_reducible first | refine wr ?_ | refine i_ret ?_ | refine i_skip ?_ | refine i_exit ?_) | ((with_reducible first | refine k_cb ?_ ?_ | refine k_gb ?_ ?_ | refine k_gb' ?_ ?_) <;> (intro hb; try simp only [hb]))) <;> try simp only [go_sem, Nat.reduceAdd, Nat.reduceLeDiff, Nat.reduceEqDiff, Nat.reduceMul, Nat.reduceSub, ↓reduceIte, Int.reduceLT, Int.reduceLE, Int.reduceGT, Int.reduceGE, Nat.reduceLT, Nat.reduceGT, Int.reduceToNat, reduceCtorEq, Nat.reduceBEq, Int.reduceBEq, Int.reduceBNe, Int.reduceEq, Int.reduceNe, decide_true, decide_false, hms, madeL_one])
  -- every height is -1
  refine i_loop (fun k : Nat => [(1, .ptr 0 0), (4, .ptr 2 0), (21, I64 c.instrs.length), (22, I64 k)]) (fun k => ((nil.upd 0 ⟨0, true, c.cs⟩).upd 1 ⟨1, true, (fillM c.instrs.length k).map I64⟩).upd 2 ⟨0, true, [.slc 1 0 c.instrs.length]⟩) (fun k cc => cc = 3 ∧ k ≤ c.instrs.length) (fun k => c.instrs.length - k) 0
    (by simp [tmLe, tm, Tm.upd]) (by rw [h_upd2]; simpa [fillM] using Sub.refl _) (by simp) ?_
  rintro k cc ⟨rfl, hk⟩
  by_cases hlt : k < c.instrs.length
  · have hd : decide ((k : Int) < c.instrs.length) = true := by simpa using hlt
    have hw := w64 (n := (k : Int) + 1) (by omega) (by omega)
    have hlen : (fillM c.instrs.length k).length = c.instrs.length := by simp [fillM]; omega
    have hle : k + 1 ≤ c.instrs.length := hlt
    have hput := put_map (f := I64) (l := fillM c.instrs.length k) (n := k) (a := -1) (by rw [hlen]; exact hlt)
    repeat' ((first | (with_reducible first | refine wr ?_ | refine i_ret ?_ | refine i_skip ?_ | refine i_exit ?_) | ((with_reducible first | refine k_cb ?_ ?_ | refine k_gb ?_ ?_ | refine k_gb' ?_ ?_) <;> (intro hb; try simp only [hb]))) <;> try simp only [go_sem, Nat.reduceAdd, Nat.reduceLeDiff, Nat.reduceEqDiff, Nat.reduceMul, Nat.reduceSub, ↓reduceIte, Int.reduceLT, Int.reduceLE, Int.reduceGT, Int.reduceGE, Nat.reduceLT, Nat.reduceGT, Int.reduceToNat, reduceCtorEq, Nat.reduceBEq, Int.reduceBEq, Int.reduceBNe, Int.reduceEq, Int.reduceNe, decide_true, decide_false, hd, hw, hlen, hle, hlt, hput])
    exact ⟨k + 1, rfl, by rw [fillM_succ hlt]; (intro j b hj; simp only [Hp.upd, Hp.del, Sym.nil, baseH, optH] at hj ⊢; (repeat' split at hj) <;> (repeat' split) <;> first | exact hj | (exfalso; omega) | cases hj), inv ⟨rfl, hlt⟩, by omega⟩
  have hd : decide ((k : Int) < c.instrs.length) = false := by simpa using hlt
  have hfull : fillM c.instrs.length k = List.replicate c.instrs.length (-1) := by
    have : c.instrs.length - k = 0 := by omega
    have hk2 : k = c.instrs.length := by omega
    simp [fillM, this, hk2]
  repeat' ((first | (with_reducible first | refine wr ?_ | refine i_ret ?_ | refine i_skip ?_ | refine i_exit ?_) | ((with_reducible first | refine k_cb ?_ ?_ | refine k_gb ?_ ?_ | refine k_gb' ?_ ?_) <;> (intro hb; try simp only [hb]))) <;> try simp only [go_sem, Nat.reduceAdd, Nat.reduceLeDiff, Nat.reduceEqDiff, Nat.reduceMul, Nat.reduceSub, ↓reduceIte, Int.reduceLT, Int.reduceLE, Int.reduceGT, Int.reduceGE, Nat.reduceLT, Nat.reduceGT, Int.reduceToNat, reduceCtorEq, Nat.reduceBEq, Int.reduceBEq, Int.reduceBNe, Int.reduceEq, Int.reduceNe, decide_true, decide_false, hd, hfull])
  clear hd hfull hlt hk
  -- the entries
  have hjE : ∀ e ∈ c.entries, 0 ≤ e.pos ∧ e.pos ≤ (c.instrs.length : Int) - 1 := by
    intro e he
    simp only [jumpsM, Bool.and_eq_true, List.all_eq_true] at hj
    have := hj.2 e he
    simpa [jumpE, inM] using this
  refine i_loop (fun q : Nat × List Int × List Nat × Option Nat × List DV => [(1, .ptr 0 0), (4, .ptr 2 0), (6, .ptr 3 0), (7, clo), (31, entsV c.entries), (32, I64 c.entries.length), (33, I64 q.1)])
    (fun q => WH c q.2.1 q.2.2.1 q.2.2.2.1 q.2.2.2.2)
    (fun q cc => 4 ≤ cc ∧ q.1 ≤ c.entries.length ∧ (q.2.2.2.1 = none → q.2.2.1 = []) ∧ (∀ i, q.2.2.2.1 = some i → 4 ≤ i ∧ i < cc) ∧ WkI c.instrs.length q.2.1 q.2.2.1 ∧ q.2.2.1.length ≤ q.1 ∧ reachL q.2.1 q.2.2.1 ((c.entries.drop q.1).map entP) = reachL (List.replicate c.instrs.length (-1)) [] (c.entries.map entP))
    (fun q => c.entries.length - q.1) (0, List.replicate c.instrs.length (-1), [], none, [])
    (by simp [tmLe, tm, Tm.upd, todoV]) (by simpa [WH, optH, todoV] using Sub.refl _) ⟨by omega, by omega, fun _ => rfl, by simp, ⟨by simp, by simp⟩, by simp, by simp⟩ ?_
  rintro ⟨k, h, wk, o, junk⟩ cc ⟨hc4, hk, hn, hs, hI, hwk, hrL⟩
  simp only at hk hn hs hI hwk hrL
  have hS := WkS.mk' (c := c) (h := h) (junk := junk) hn hs hc4
  by_cases hlt : k < c.entries.length
  · have hd : decide ((k : Int) < c.entries.length) = true := by simpa using hlt
    have hw := w64 (n := (k : Int) + 1) (by omega) (by omega)
    have hg := List.getElem?_eq_getElem hlt
    obtain ⟨p1, p2⟩ := hjE _ (List.getElem_mem hlt)
    have hpos : c.entries[k].pos = ((c.entries[k].pos.toNat : Nat) : Int) := by omega
    have ne0 : ¬ 0 = cc := by omega
    have ne1 : ¬ 0 = cc + 1 := by omega
    have ne2 : ¬ 1 = cc := by omega
    have ne3 : ¬ 1 = cc + 1 := by omega
    have ne4 : ¬ 2 = cc := by omega
    have ne5 : ¬ 2 = cc + 1 := by omega
    have ne6 : ¬ 3 = cc := by omega
    have ne7 : ¬ 3 = cc + 1 := by omega
    have ne8 : ¬ cc = 0 := by omega
    have ne9 : ¬ cc = 1 := by omega
    have ne10 : ¬ cc = 2 := by omega
    have ne11 : ¬ cc = 3 := by omega
    have ne12 : ¬ cc = cc + 1 := by omega
    have ne13 : ¬ cc + 1 = 0 := by omega
    have ne14 : ¬ cc + 1 = 1 := by omega
    have ne15 : ¬ cc + 1 = 2 := by omega
    have ne16 : ¬ cc + 1 = 3 := by omega
    have ne17 : ¬ cc + 1 = cc := by omega
    repeat' ((first | (with_reducible first | refine wr ?_ | refine i_ret ?_ | refine i_skip ?_ | refine i_exit ?_) | ((with_reducible first | refine k_cb ?_ ?_ | refine k_gb ?_ ?_ | refine k_gb' ?_ ?_) <;> (intro hb; try simp only [hb]))) <;> try simp only [go_sem, Nat.reduceAdd, Nat.reduceLeDiff, Nat.reduceEqDiff, Nat.reduceMul, Nat.reduceSub, ↓reduceIte, Int.reduceLT, Int.reduceLE, Int.reduceGT, Int.reduceGE, Nat.reduceLT, Nat.reduceGT, Int.reduceToNat, reduceCtorEq, Nat.reduceBEq, Int.reduceBEq, Int.reduceBNe, Int.reduceEq, Int.reduceNe, decide_true, decide_false, hd, hw, hg, hS.h0, hS.h1, hS.h2, hS.h3, ne0, ne1, ne2, ne3, ne4, ne5, ne6, ne7, ne8, ne9, ne10, ne11, ne12, ne13, ne14, ne15, ne16, ne17])
    rw [h_upd2]
    refine AC.call (c_reach' c h wk o junk _ _ c.entries[k].pos 0 p1 (hS.upd _ (Nat.le_refl _) (Nat.le_succ _)) (by omega)) ?_
    rintro v H' c' hq hcc
    rw [List.drop_eq_getElem_cons hlt, List.map_cons] at hrL
    rcases hq with ⟨hr0, rfl⟩ | ⟨h', wk', o', junk', hr1, rfl, hS', hfr⟩
    · have hr2 : r = none := by
        rw [hgtP0, ← hrL] at hr
        simp only [reachL, entP, hr0] at hr
        simpa using hr.symm
      subst hr2
      simp only [go_sem, Nat.reduceAdd, Nat.reduceLeDiff, Nat.reduceEqDiff, Nat.reduceMul, Nat.reduceSub, ↓reduceIte, Int.reduceLT, Int.reduceLE, Int.reduceGT, Int.reduceGE, Nat.reduceLT, Nat.reduceGT, Int.reduceToNat, reduceCtorEq, Nat.reduceBEq, Int.reduceBEq, Int.reduceBNe, Int.reduceEq, Int.reduceNe, decide_true, decide_false]
      repeat' ((first | (with_reducible first | refine wr ?_ | refine i_ret ?_ | refine i_skip ?_ | refine i_exit ?_) | ((with_reducible first | refine k_cb ?_ ?_ | refine k_gb ?_ ?_ | refine k_gb' ?_ ?_) <;> (intro hb; try simp only [hb]))) <;> try simp only [go_sem, Nat.reduceAdd, Nat.reduceLeDiff, Nat.reduceEqDiff, Nat.reduceMul, Nat.reduceSub, ↓reduceIte, Int.reduceLT, Int.reduceLE, Int.reduceGT, Int.reduceGE, Nat.reduceLT, Nat.reduceGT, Int.reduceToNat, reduceCtorEq, Nat.reduceBEq, Int.reduceBEq, Int.reduceBNe, Int.reduceEq, Int.reduceNe, decide_true, decide_false])
      exact pc_snil2
    · simp only [reachL, entP, hr1] at hrL
      obtain ⟨hI', hwk'⟩ := reach_inv hI (Int.le_refl 0) hr1
      simp only [go_sem, Nat.reduceAdd, Nat.reduceLeDiff, Nat.reduceEqDiff, Nat.reduceMul, Nat.reduceSub, ↓reduceIte, Int.reduceLT, Int.reduceLE, Int.reduceGT, Int.reduceGE, Nat.reduceLT, Nat.reduceGT, Int.reduceToNat, reduceCtorEq, Nat.reduceBEq, Int.reduceBEq, Int.reduceBNe, Int.reduceEq, Int.reduceNe, decide_true, decide_false]
      repeat' ((first | (with_reducible first | refine wr ?_ | refine i_ret ?_ | refine i_skip ?_ | refine i_exit ?_) | ((with_reducible first | refine k_cb ?_ ?_ | refine k_gb ?_ ?_ | refine k_gb' ?_ ?_) <;> (intro hb; try simp only [hb]))) <;> try simp only [go_sem, Nat.reduceAdd, Nat.reduceLeDiff, Nat.reduceEqDiff, Nat.reduceMul, Nat.reduceSub, ↓reduceIte, Int.reduceLT, Int.reduceLE, Int.reduceGT, Int.reduceGE, Nat.reduceLT, Nat.reduceGT, Int.reduceToNat, reduceCtorEq, Nat.reduceBEq, Int.reduceBEq, Int.reduceBNe, Int.reduceEq, Int.reduceNe, decide_true, decide_false, hw])
      exact ⟨(k + 1, h', wk', o', junk'), rfl, hS'.sub, inv ⟨hS'.hc, hlt, hS'.hn, fun i hi => ⟨(hS'.hs i hi).1, (hS'.hs i hi).2.1⟩, hI', by simp only; omega, hrL⟩, by simp only; omega⟩
  have hd : decide ((k : Int) < c.entries.length) = false := by simpa using hlt
  obtain rfl : k = c.entries.length := by omega
  rw [List.drop_eq_nil_of_le (Nat.le_refl _)] at hrL
  rw [hgtP0, ← hrL] at hr
  simp only [List.map_nil, reachL] at hr
  repeat' ((first | (with_reducible first | refine wr ?_ | refine i_ret ?_ | refine i_skip ?_ | refine i_exit ?_) | ((with_reducible first | refine k_cb ?_ ?_ | refine k_gb ?_ ?_ | refine k_gb' ?_ ?_) <;> (intro hb; try simp only [hb]))) <;> try simp only [go_sem, Nat.reduceAdd, Nat.reduceLeDiff, Nat.reduceEqDiff, Nat.reduceMul, Nat.reduceSub, ↓reduceIte, Int.reduceLT, Int.reduceLE, Int.reduceGT, Int.reduceGE, Nat.reduceLT, Nat.reduceGT, Int.reduceToNat, reduceCtorEq, Nat.reduceBEq, Int.reduceBEq, Int.reduceBNe, Int.reduceEq, Int.reduceNe, decide_true, decide_false, hd])
  exact l_heightsP c hl0 hj r n h wk o junk cc hc4 hn hs hI (by omega) hr
end Go.Proofs.YtcallbfckjlagaaDoor
set_option maxHeartbeats 4000000
set_option maxRecDepth 100000
set_option linter.unusedSimpArgs false
set_option linter.unusedVariables false
namespace Go.Proofs.YtcallbfckjlagaaDoor
open Go.Eng (IC IOper DReg IFn IsFn)
open Go.Sym Go.Pb
noncomputable section
def u20_2r : List IOper := [⟨some 4, .pur (.ld 7 true (.t 1)), none⟩, ⟨some 5, .call 30 [.t 4], none⟩, ⟨some 6, .pur (.ext (.t 5) 0), none⟩, ⟨some 7, .pur (.ext (.t 5) 1), none⟩, ⟨some 2, .pur (.mv (.t 6)), none⟩, ⟨some 3, .pur (.mv (.t 7)), none⟩]
def u20_2 : IC := .seq (.reg u20_2r) .ret
def u20_1r : List IOper := [⟨some 1, .new (.box (.t 0)), none⟩, ⟨some 2, .pur (.mv (.k (.slice none 0 0))), none⟩, ⟨some 3, .pur (.mv (.k (.int .i64 0))), none⟩]
def u20_1 : IC := .seq (.reg u20_1r) u20_2
def u20 : IFn := ⟨8, u20_1, [.tmp 2, .tmp 3]⟩
end
theorem isU20 : IsFn Tryd.prog 20 u20 := by unfold IsFn; kernel_rfl
instance i20_2 : WR Tryd.prog 8 u20_2 (rS u20_2r .ret [1]) := ⟨mkS⟩
instance i20_1 : WR Tryd.prog 8 u20_1 (rS u20_1r u20_2 [0]) := ⟨mkS⟩
attribute [go_sem] u20_2r u20_1r
theorem c_heightsP' (c : Prg) (hl : Lim c) (hj : jumpsM c = true) : PC Tryd.prog 57 [c.v] (hgtV (hR c)) :=
  c_heightsP c hl hj 4001 (by omega) _ (hgtP_eq hl.li hj)
theorem c_verify (c : Prg) (hs : ∀ s ∈ c.strings, s.length ≤ 140737488355328) (n1 : c.instrs.length ≤ 9223372036854775807) : PC Tryd.prog 30 [c.v] (.tup [ints (vHts c), I64 (validM c)]) := by
  by_cases hL : limitsM c = true
  · have hl := Lim.of hL
    have hl0 := hl
    obtain ⟨wp, wv, ws, wi, wt, we, li, ls, le, lp, lv⟩ := hl
    by_cases hp : partsM c = true
    · by_cases hj : jumpsM c = true
      · refine PC.of mixedU isU30 (Nat.le_of_ble_eq_true rfl) (by simp [DV.nlL, DV.nl, nlL_ints, nlL_strs, nlL_instrs, nlL_entries, nlL_stp]) (by simp [DV.nlL, DV.nl, nlL_ints, nlL_strs, nlL_instrs, nlL_entries, nlL_stp]) ?_
        show IW Tryd.prog 47 u30_1 ⟨argT _, _, _⟩ (rt [.tmp 2, .tmp 3] _)
        repeat' ((first | (with_reducible first | refine wr ?_ | refine i_ret ?_ | refine i_skip ?_ | refine i_exit ?_) | ((with_reducible first | refine k_cb ?_ ?_ | refine k_gb ?_ ?_ | refine k_gb' ?_ ?_) <;> (intro hb; try simp only [hb])) | ((with_reducible refine AC.call ((c_limits c).at _ _) ?_); rintro _ _ _ ⟨rfl, rfl, rfl⟩ -) | ((with_reducible refine AC.call ((c_bparts c hl0 hs).at _ _) ?_); rintro _ _ _ ⟨rfl, rfl, rfl⟩ -) | ((with_reducible refine AC.call ((c_targets c hl0).at _ _) ?_); rintro _ _ _ ⟨rfl, rfl, rfl⟩ -)) <;> try simp only [go_sem, Nat.reduceAdd, Nat.reduceLeDiff, Nat.reduceEqDiff, Nat.reduceMul, Nat.reduceSub, ↓reduceIte, Int.reduceLT, Int.reduceLE, Int.reduceGT, Int.reduceGE, Nat.reduceLT, Nat.reduceGT, Int.reduceToNat, reduceCtorEq, Nat.reduceBEq, Int.reduceBEq, Int.reduceBNe, Int.reduceEq, Int.reduceNe, decide_true, decide_false, hL, hp, hj])
        refine i_loop (fun k : Nat => [(1, .ptr 0 0), (4, I64 k)]) (fun _ => nil.upd 0 ⟨0, true, c.cs⟩) (fun k cc => 1 ≤ cc ∧ 1 ≤ k ∧ (k ≤ c.entries.length ∨ k = 1) ∧ chainM (c.entries.take k) = true) (fun k => c.entries.length - k) 1 (by simp [tmLe, tm, Tm.upd]) (Sub.refl _) ⟨by omega, by omega, by omega, by cases c.entries <;> rfl⟩ ?_
        rintro k cc ⟨h1c, h1k, hk, he⟩
        by_cases hlt : k < c.entries.length
        · have hd : decide ((k : Int) < c.entries.length) = true := by simpa using hlt
          have hg := List.getElem?_eq_getElem hlt
          have hlt' : k - 1 < c.entries.length := by omega
          have hg' := List.getElem?_eq_getElem hlt'
          have hw := w64 (n := (k : Int) + 1) (by omega) (by omega)
          have hw1 := w64 (n := (k : Int) - 1) (by omega) (by omega)
          have hw2 : (k : Int) - 1 = ((k - 1 : Nat) : Int) := by omega
          rw [hw2] at hw1
          repeat' ((first | (with_reducible first | refine wr ?_ | refine i_ret ?_ | refine i_skip ?_ | refine i_exit ?_) | ((with_reducible first | refine k_cb ?_ ?_ | refine k_gb ?_ ?_ | refine k_gb' ?_ ?_) <;> (intro hb; try simp only [hb])) | ((with_reducible refine AC.call ((c_bless _ _).at _ _) ?_); rintro _ _ _ ⟨rfl, rfl, rfl⟩ -)) <;> try simp only [go_sem, Nat.reduceAdd, Nat.reduceLeDiff, Nat.reduceEqDiff, Nat.reduceMul, Nat.reduceSub, ↓reduceIte, Int.reduceLT, Int.reduceLE, Int.reduceGT, Int.reduceGE, Nat.reduceLT, Nat.reduceGT, Int.reduceToNat, reduceCtorEq, Nat.reduceBEq, Int.reduceBEq, Int.reduceBNe, Int.reduceEq, Int.reduceNe, decide_true, decide_false, hd, hg, hg', hw, hw2, hw1])
          · have hf := chain_fail h1k hg' hg (by simpa using hb)
            have e : validM c = 66 := by simp [validM, hL, hp, hj, hf]
            simp only [vHts, e]
            exact pc_snil2
          · exact ⟨k + 1, rfl, Sub.refl _, inv ⟨by omega, by omega, by omega, by rw [chain_take h1k hg' hg he]; simpa using hb⟩, by omega⟩
        · have hd : decide ((k : Int) < c.entries.length) = false := by simp; omega
          have hch : chainM c.entries = true := by
            rw [List.take_of_length_le (by omega)] at he; exact he
          cases hh : hR c with
          | none =>
            have key := c_heightsP' c hl0 hj
            rw [hh, hgtV_none] at key
            repeat' ((first | (with_reducible first | refine wr ?_ | refine i_ret ?_ | refine i_skip ?_ | refine i_exit ?_) | ((with_reducible first | refine k_cb ?_ ?_ | refine k_gb ?_ ?_ | refine k_gb' ?_ ?_) <;> (intro hb; try simp only [hb])) | ((with_reducible refine AC.call ((key).at _ _) ?_); rintro _ _ _ ⟨rfl, rfl, rfl⟩ -)) <;> try simp only [go_sem, Nat.reduceAdd, Nat.reduceLeDiff, Nat.reduceEqDiff, Nat.reduceMul, Nat.reduceSub, ↓reduceIte, Int.reduceLT, Int.reduceLE, Int.reduceGT, Int.reduceGE, Nat.reduceLT, Nat.reduceGT, Int.reduceToNat, reduceCtorEq, Nat.reduceBEq, Int.reduceBEq, Int.reduceBNe, Int.reduceEq, Int.reduceNe, decide_true, decide_false, hd])
            have e : validM c = 53 := by simp [validM, hL, hp, hj, hch, hh]
            simp only [vHts, e]
            exact pc_snil2
          | some h =>
            have key := c_heightsP' c hl0 hj
            rw [hh, hgtV_some] at key
            repeat' ((first | (with_reducible first | refine wr ?_ | refine i_ret ?_ | refine i_skip ?_ | refine i_exit ?_) | ((with_reducible first | refine k_cb ?_ ?_ | refine k_gb ?_ ?_ | refine k_gb' ?_ ?_) <;> (intro hb; try simp only [hb])) | ((with_reducible refine AC.call ((key).at _ _) ?_); rintro _ _ _ ⟨rfl, rfl, rfl⟩ -)) <;> try simp only [go_sem, Nat.reduceAdd, Nat.reduceLeDiff, Nat.reduceEqDiff, Nat.reduceMul, Nat.reduceSub, ↓reduceIte, Int.reduceLT, Int.reduceLE, Int.reduceGT, Int.reduceGE, Nat.reduceLT, Nat.reduceGT, Int.reduceToNat, reduceCtorEq, Nat.reduceBEq, Int.reduceBEq, Int.reduceBNe, Int.reduceEq, Int.reduceNe, decide_true, decide_false, hd])
            have e : validM c = 0 := by simp [validM, hL, hp, hj, hch, hh]
            simp only [vHts, e, hh]
            exact pc_ret rfl
      · have hj' : jumpsM c = false := by simpa using hj
        refine PC.of mixedU isU30 (Nat.le_of_ble_eq_true rfl) (by simp [DV.nlL, DV.nl, nlL_ints, nlL_strs, nlL_instrs, nlL_entries, nlL_stp]) (by simp [DV.nlL, DV.nl, nlL_ints, nlL_strs, nlL_instrs, nlL_entries, nlL_stp]) ?_
        show IW Tryd.prog 47 u30_1 ⟨argT _, _, _⟩ (rt [.tmp 2, .tmp 3] _)
        repeat' ((first | (with_reducible first | refine wr ?_ | refine i_ret ?_ | refine i_skip ?_ | refine i_exit ?_) | ((with_reducible first | refine k_cb ?_ ?_ | refine k_gb ?_ ?_ | refine k_gb' ?_ ?_) <;> (intro hb; try simp only [hb])) | ((with_reducible refine AC.call ((c_limits c).at _ _) ?_); rintro _ _ _ ⟨rfl, rfl, rfl⟩ -) | ((with_reducible refine AC.call ((c_bparts c hl0 hs).at _ _) ?_); rintro _ _ _ ⟨rfl, rfl, rfl⟩ -) | ((with_reducible refine AC.call ((c_targets c hl0).at _ _) ?_); rintro _ _ _ ⟨rfl, rfl, rfl⟩ -)) <;> try simp only [go_sem, Nat.reduceAdd, Nat.reduceLeDiff, Nat.reduceEqDiff, Nat.reduceMul, Nat.reduceSub, ↓reduceIte, Int.reduceLT, Int.reduceLE, Int.reduceGT, Int.reduceGE, Nat.reduceLT, Nat.reduceGT, Int.reduceToNat, reduceCtorEq, Nat.reduceBEq, Int.reduceBEq, Int.reduceBNe, Int.reduceEq, Int.reduceNe, decide_true, decide_false, hL, hp, hj'])
        have e : validM c = 54 := by simp [validM, hL, hp, hj']
        simp only [vHts, e]
        exact pc_snil2
    · have hp' : partsM c = false := by simpa using hp
      refine PC.of mixedU isU30 (Nat.le_of_ble_eq_true rfl) (by simp [DV.nlL, DV.nl, nlL_ints, nlL_strs, nlL_instrs, nlL_entries, nlL_stp]) (by simp [DV.nlL, DV.nl, nlL_ints, nlL_strs, nlL_instrs, nlL_entries, nlL_stp]) ?_
      show IW Tryd.prog 47 u30_1 ⟨argT _, _, _⟩ (rt [.tmp 2, .tmp 3] _)
      repeat' ((first | (with_reducible first | refine wr ?_ | refine i_ret ?_ | refine i_skip ?_ | refine i_exit ?_) | ((with_reducible first | refine k_cb ?_ ?_ | refine k_gb ?_ ?_ | refine k_gb' ?_ ?_) <;> (intro hb; try simp only [hb])) | ((with_reducible refine AC.call ((c_limits c).at _ _) ?_); rintro _ _ _ ⟨rfl, rfl, rfl⟩ -) | ((with_reducible refine AC.call ((c_bparts c hl0 hs).at _ _) ?_); rintro _ _ _ ⟨rfl, rfl, rfl⟩ -)) <;> try simp only [go_sem, Nat.reduceAdd, Nat.reduceLeDiff, Nat.reduceEqDiff, Nat.reduceMul, Nat.reduceSub, ↓reduceIte, Int.reduceLT, Int.reduceLE, Int.reduceGT, Int.reduceGE, Nat.reduceLT, Nat.reduceGT, Int.reduceToNat, reduceCtorEq, Nat.reduceBEq, Int.reduceBEq, Int.reduceBNe, Int.reduceEq, Int.reduceNe, decide_true, decide_false, hL, hp'])
      have e : validM c = 51 := by simp [validM, hL, hp']
      simp only [vHts, e]
      exact pc_snil2
  · have hL' : limitsM c = false := by simpa using hL
    refine PC.of mixedU isU30 (Nat.le_of_ble_eq_true rfl) (by simp [DV.nlL, DV.nl, nlL_ints, nlL_strs, nlL_instrs, nlL_entries, nlL_stp]) (by simp [DV.nlL, DV.nl, nlL_ints, nlL_strs, nlL_instrs, nlL_entries, nlL_stp]) ?_
    show IW Tryd.prog 47 u30_1 ⟨argT _, _, _⟩ (rt [.tmp 2, .tmp 3] _)
    repeat' ((first | (with_reducible first | refine wr ?_ | refine i_ret ?_ | refine i_skip ?_ | refine i_exit ?_) | ((with_reducible first | refine k_cb ?_ ?_ | refine k_gb ?_ ?_ | refine k_gb' ?_ ?_) <;> (intro hb; try simp only [hb])) | ((with_reducible refine AC.call ((c_limits c).at _ _) ?_); rintro _ _ _ ⟨rfl, rfl, rfl⟩ -)) <;> try simp only [go_sem, Nat.reduceAdd, Nat.reduceLeDiff, Nat.reduceEqDiff, Nat.reduceMul, Nat.reduceSub, ↓reduceIte, Int.reduceLT, Int.reduceLE, Int.reduceGT, Int.reduceGE, Nat.reduceLT, Nat.reduceGT, Int.reduceToNat, reduceCtorEq, Nat.reduceBEq, Int.reduceBEq, Int.reduceBNe, Int.reduceEq, Int.reduceNe, decide_true, decide_false, hL'])
    have e : validM c = 9 := by simp [validM, hL']
    simp only [vHts, e]
    exact pc_snil2
theorem c_valid (c : Prg) (hs : ∀ s ∈ c.strings, s.length ≤ 140737488355328) (n1 : c.instrs.length ≤ 9223372036854775807) : PC Tryd.prog 14 [c.v] (I64 (validM c)) := by
  refine PC.of mixedU isU14 (Nat.le_of_ble_eq_true rfl) (by simp [DV.nlL, DV.nl, nlL_ints, nlL_strs, nlL_instrs, nlL_entries, nlL_stp]) (by simp [DV.nlL, DV.nl, nlL_ints, nlL_strs, nlL_instrs, nlL_entries, nlL_stp]) ?_
  show IW Tryd.prog 11 u14_1 ⟨argT _, _, _⟩ (rt [.tmp 2] _)
  repeat' ((first | (with_reducible first | refine wr ?_ | refine i_ret ?_ | refine i_skip ?_ | refine i_exit ?_) | ((with_reducible first | refine k_cb ?_ ?_ | refine k_gb ?_ ?_ | refine k_gb' ?_ ?_) <;> (intro hb; try simp only [hb])) | ((with_reducible refine AC.call ((c_verify c hs n1).at _ _) ?_); rintro _ _ _ ⟨rfl, rfl, rfl⟩ -)) <;> try simp only [go_sem, Nat.reduceAdd, Nat.reduceLeDiff, Nat.reduceEqDiff, Nat.reduceMul, Nat.reduceSub, ↓reduceIte, Int.reduceLT, Int.reduceLE, Int.reduceGT, Int.reduceGE, Nat.reduceLT, Nat.reduceGT, Int.reduceToNat, reduceCtorEq, Nat.reduceBEq, Int.reduceBEq, Int.reduceBNe, Int.reduceEq, Int.reduceNe, decide_true, decide_false])
  exact pc_ret rfl
theorem c_Heights (c : Prg) (hs : ∀ s ∈ c.strings, s.length ≤ 140737488355328) (n1 : c.instrs.length ≤ 9223372036854775807) : PC Tryd.prog 20 [c.v] (.tup [ints (vHts c), I64 (validM c)]) := by
  refine PC.of mixedU isU20 (Nat.le_of_ble_eq_true rfl) (by simp [DV.nlL, DV.nl, nlL_ints, nlL_strs, nlL_instrs, nlL_entries, nlL_stp]) (by simp [DV.nlL, DV.nl, nlL_ints, nlL_strs, nlL_instrs, nlL_entries, nlL_stp]) ?_
  show IW Tryd.prog 8 u20_1 ⟨argT _, _, _⟩ (rt [.tmp 2, .tmp 3] _)
  repeat' ((first | (with_reducible first | refine wr ?_ | refine i_ret ?_ | refine i_skip ?_ | refine i_exit ?_) | ((with_reducible first | refine k_cb ?_ ?_ | refine k_gb ?_ ?_ | refine k_gb' ?_ ?_) <;> (intro hb; try simp only [hb])) | ((with_reducible refine AC.call ((c_verify c hs n1).at _ _) ?_); rintro _ _ _ ⟨rfl, rfl, rfl⟩ -)) <;> try simp only [go_sem, Nat.reduceAdd, Nat.reduceLeDiff, Nat.reduceEqDiff, Nat.reduceMul, Nat.reduceSub, ↓reduceIte, Int.reduceLT, Int.reduceLE, Int.reduceGT, Int.reduceGE, Nat.reduceLT, Nat.reduceGT, Int.reduceToNat, reduceCtorEq, Nat.reduceBEq, Int.reduceBEq, Int.reduceBNe, Int.reduceEq, Int.reduceNe, decide_true, decide_false])
  exact pc_ret rfl
end Go.Proofs.YtcallbfckjlagaaDoor
set_option maxHeartbeats 4000000
set_option maxRecDepth 100000
set_option linter.unusedSimpArgs false
set_option linter.unusedVariables false
namespace Go.Proofs.YtcallbfckjlagaaDoor
open Go.Eng (IC IOper DReg IFn IsFn)
open Go.Sym Go.Pb
noncomputable section
def u18_5r : List IOper := [⟨some 4, .pur (.mv (.k (.bool false))), none⟩]
def u18_5 : IC := .seq (.reg u18_5r) .ret
def u18_4 : IC := .cond (.t 46) u18_5 .skip
def u18_3r : List IOper := [⟨some 8, .pur (.fad 0 (.t 2)), none⟩, ⟨some 9, .pur (.ld 1 false (.t 8)), none⟩, ⟨some 10, .pur (.len (.t 9)), none⟩, ⟨some 11, .pur (.fad 0 (.t 3)), none⟩, ⟨some 12, .pur (.ld 1 false (.t 11)), none⟩, ⟨some 13, .pur (.len (.t 12)), none⟩, ⟨some 14, .pur (.bin .neq (.t 10) (.t 13)), none⟩, ⟨some 15, .pur (.mv (.t 14)), none⟩, ⟨some 16, .pur (.fad 1 (.t 2)), some (15, false)⟩, ⟨some 17, .pur (.ld 1 false (.t 16)), some (15, false)⟩, ⟨some 18, .pur (.len (.t 17)), some (15, false)⟩, ⟨some 19, .pur (.fad 1 (.t 3)), some (15, false)⟩, ⟨some 20, .pur (.ld 1 false (.t 19)), some (15, false)⟩, ⟨some 21, .pur (.len (.t 20)), some (15, false)⟩, ⟨some 22, .pur (.bin .neq (.t 18) (.t 21)), some (15, false)⟩, ⟨some 23, .pur (.pick (.t 15) (.k (.bool true)) (.t 22)), none⟩, ⟨some 24, .pur (.mv (.t 23)), none⟩, ⟨some 25, .pur (.fad 2 (.t 2)), some (24, false)⟩, ⟨some 26, .pur (.ld 1 false (.t 25)), some (24, false)⟩, ⟨some 27, .pur (.len (.t 26)), some (24, false)⟩, ⟨some 28, .pur (.fad 2 (.t 3)), some (24, false)⟩, ⟨some 29, .pur (.ld 1 false (.t 28)), some (24, false)⟩, ⟨some 30, .pur (.len (.t 29)), some (24, false)⟩, ⟨some 31, .pur (.bin .neq (.t 27) (.t 30)), some (24, false)⟩, ⟨some 32, .pur (.pick (.t 24) (.k (.bool true)) (.t 31)), none⟩, ⟨some 33, .pur (.mv (.t 32)), none⟩, ⟨some 34, .pur (.fad 5 (.t 2)), some (33, false)⟩, ⟨some 35, .pur (.ld 1 false (.t 34)), some (33, false)⟩, ⟨some 36, .pur (.fad 5 (.t 3)), some (33, false)⟩, ⟨some 37, .pur (.ld 1 false (.t 36)), some (33, false)⟩, ⟨some 38, .pur (.bin .neq (.t 35) (.t 37)), some (33, false)⟩, ⟨some 39, .pur (.pick (.t 33) (.k (.bool true)) (.t 38)), none⟩, ⟨some 40, .pur (.mv (.t 39)), none⟩, ⟨some 41, .pur (.fad 6 (.t 2)), some (40, false)⟩, ⟨some 42, .pur (.ld 1 false (.t 41)), some (40, false)⟩, ⟨some 43, .pur (.fad 6 (.t 3)), some (40, false)⟩, ⟨some 44, .pur (.ld 1 false (.t 43)), some (40, false)⟩, ⟨some 45, .pur (.bin .neq (.t 42) (.t 44)), some (40, false)⟩, ⟨some 46, .pur (.pick (.t 40) (.k (.bool true)) (.t 45)), none⟩]
def u18_3 : IC := .seq (.reg u18_3r) u18_4
def u18_11 : IC := .cond (.t 51) .skip (.exit 0)
def u18_10r : List IOper := [⟨some 47, .pur (.mv (.t 5)), none⟩, ⟨some 48, .pur (.fad 0 (.t 2)), none⟩, ⟨some 49, .pur (.ld 1 false (.t 48)), none⟩, ⟨some 50, .pur (.len (.t 49)), none⟩, ⟨some 51, .pur (.bin .lss (.t 47) (.t 50)), none⟩]
def u18_10 : IC := .seq (.reg u18_10r) u18_11
def u18_15r : List IOper := [⟨some 4, .pur (.mv (.k (.bool false))), none⟩]
def u18_15 : IC := .seq (.reg u18_15r) .ret
def u18_14 : IC := .cond (.t 64) u18_15 .skip
def u18_13r : DReg := ⟨[⟨some 54, .pur (.fad 0 (.t 2)), none⟩, ⟨some 55, .pur (.ld 1 false (.t 54)), none⟩, ⟨some 56, .pur (.mv (.t 5)), none⟩, ⟨some 57, .pur (.iad 2 (.t 55) (.t 56)), none⟩, ⟨some 58, .pur (.ld 2 true (.t 57)), none⟩, ⟨some 59, .pur (.fad 0 (.t 3)), none⟩, ⟨some 60, .pur (.ld 1 false (.t 59)), none⟩, ⟨some 61, .pur (.mv (.t 5)), none⟩, ⟨some 62, .pur (.iad 2 (.t 60) (.t 61)), none⟩, ⟨some 63, .pur (.ld 2 true (.t 62)), none⟩, ⟨some 64, .pur (.eqa true [0, 0] (.t 58) (.t 63)), none⟩], [[], [0], [], [1, 2, 0], [3, 1, 2, 0], [], [5], [], [6, 7, 5], [8, 6, 7, 5], [4, 9, 3, 1, 2, 0, 8, 6, 7, 5]], [(0, none), (1, none), (2, none), (3, none), (4, none), (5, none), (6, none), (7, none), (8, none), (9, none), (10, none)]⟩
def u18_13 : IC := .seq (.drw 11 u18_13r) u18_14
def u18_16r : List IOper := [⟨some 52, .pur (.mv (.t 5)), none⟩, ⟨some 53, .pur (.bin .add (.t 52) (.k (.int .i64 1))), none⟩, ⟨some 5, .pur (.mv (.t 53)), none⟩]
def u18_16 : IC := .reg u18_16r
def u18_12 : IC := .seq (.blk 1 u18_13) u18_16
def u18_9 : IC := .seq u18_10 u18_12
def u18_8 : IC := .blk 0 (.loop u18_9)
def u18_7r : List IOper := [⟨some 5, .pur (.mv (.k (.int .i64 0))), none⟩]
def u18_7 : IC := .seq (.reg u18_7r) u18_8
def u18_22 : IC := .cond (.t 69) .skip (.exit 2)
def u18_21r : List IOper := [⟨some 65, .pur (.mv (.t 6)), none⟩, ⟨some 66, .pur (.fad 1 (.t 2)), none⟩, ⟨some 67, .pur (.ld 1 false (.t 66)), none⟩, ⟨some 68, .pur (.len (.t 67)), none⟩, ⟨some 69, .pur (.bin .lss (.t 65) (.t 68)), none⟩]
def u18_21 : IC := .seq (.reg u18_21r) u18_22
def u18_26r : List IOper := [⟨some 4, .pur (.mv (.k (.bool false))), none⟩]
def u18_26 : IC := .seq (.reg u18_26r) .ret
def u18_25 : IC := .cond (.t 82) u18_26 .skip
def u18_24r : DReg := ⟨[⟨some 72, .pur (.fad 1 (.t 2)), none⟩, ⟨some 73, .pur (.ld 1 false (.t 72)), none⟩, ⟨some 74, .pur (.mv (.t 6)), none⟩, ⟨some 75, .pur (.iad 1 (.t 73) (.t 74)), none⟩, ⟨some 76, .pur (.ld 1 false (.t 75)), none⟩, ⟨some 77, .pur (.fad 1 (.t 3)), none⟩, ⟨some 78, .pur (.ld 1 false (.t 77)), none⟩, ⟨some 79, .pur (.mv (.t 6)), none⟩, ⟨some 80, .pur (.iad 1 (.t 78) (.t 79)), none⟩, ⟨some 81, .pur (.ld 1 false (.t 80)), none⟩, ⟨some 82, .pur (.bin .neq (.t 76) (.t 81)), none⟩], [[], [0], [], [1, 2, 0], [3, 1, 2, 0], [], [5], [], [6, 7, 5], [8, 6, 7, 5], [4, 9, 3, 1, 2, 0, 8, 6, 7, 5]], [(0, none), (1, none), (2, none), (3, none), (4, none), (5, none), (6, none), (7, none), (8, none), (9, none), (10, none)]⟩
def u18_24 : IC := .seq (.drw 11 u18_24r) u18_25
def u18_27r : List IOper := [⟨some 70, .pur (.mv (.t 6)), none⟩, ⟨some 71, .pur (.bin .add (.t 70) (.k (.int .i64 1))), none⟩, ⟨some 6, .pur (.mv (.t 71)), none⟩]
def u18_27 : IC := .reg u18_27r
def u18_23 : IC := .seq (.blk 3 u18_24) u18_27
def u18_20 : IC := .seq u18_21 u18_23
def u18_19 : IC := .blk 2 (.loop u18_20)
def u18_18r : List IOper := [⟨some 6, .pur (.mv (.k (.int .i64 0))), none⟩]
def u18_18 : IC := .seq (.reg u18_18r) u18_19
def u18_33 : IC := .cond (.t 87) .skip (.exit 4)
def u18_32r : List IOper := [⟨some 83, .pur (.mv (.t 7)), none⟩, ⟨some 84, .pur (.fad 2 (.t 2)), none⟩, ⟨some 85, .pur (.ld 1 false (.t 84)), none⟩, ⟨some 86, .pur (.len (.t 85)), none⟩, ⟨some 87, .pur (.bin .lss (.t 83) (.t 86)), none⟩]
def u18_32 : IC := .seq (.reg u18_32r) u18_33
def u18_37r : List IOper := [⟨some 4, .pur (.mv (.k (.bool false))), none⟩]
def u18_37 : IC := .seq (.reg u18_37r) .ret
def u18_36 : IC := .cond (.t 100) u18_37 .skip
def u18_35r : DReg := ⟨[⟨some 90, .pur (.fad 2 (.t 2)), none⟩, ⟨some 91, .pur (.ld 1 false (.t 90)), none⟩, ⟨some 92, .pur (.mv (.t 7)), none⟩, ⟨some 93, .pur (.iad 4 (.t 91) (.t 92)), none⟩, ⟨some 94, .pur (.ld 4 true (.t 93)), none⟩, ⟨some 95, .pur (.fad 2 (.t 3)), none⟩, ⟨some 96, .pur (.ld 1 false (.t 95)), none⟩, ⟨some 97, .pur (.mv (.t 7)), none⟩, ⟨some 98, .pur (.iad 4 (.t 96) (.t 97)), none⟩, ⟨some 99, .pur (.ld 4 true (.t 98)), none⟩, ⟨some 100, .pur (.eqa true [0, 0, 0, 0] (.t 94) (.t 99)), none⟩], [[], [0], [], [1, 2, 0], [3, 1, 2, 0], [], [5], [], [6, 7, 5], [8, 6, 7, 5], [4, 9, 3, 1, 2, 0, 8, 6, 7, 5]], [(0, none), (1, none), (2, none), (3, none), (4, none), (5, none), (6, none), (7, none), (8, none), (9, none), (10, none)]⟩
def u18_35 : IC := .seq (.drw 11 u18_35r) u18_36
def u18_38r : List IOper := [⟨some 88, .pur (.mv (.t 7)), none⟩, ⟨some 89, .pur (.bin .add (.t 88) (.k (.int .i64 1))), none⟩, ⟨some 7, .pur (.mv (.t 89)), none⟩]
def u18_38 : IC := .reg u18_38r
def u18_34 : IC := .seq (.blk 5 u18_35) u18_38
def u18_31 : IC := .seq u18_32 u18_34
def u18_30 : IC := .blk 4 (.loop u18_31)
def u18_29r : List IOper := [⟨some 7, .pur (.mv (.k (.int .i64 0))), none⟩]
def u18_29 : IC := .seq (.reg u18_29r) u18_30
def u18_39r : List IOper := [⟨some 101, .pur (.fad 3 (.t 2)), none⟩, ⟨some 102, .pur (.ld 1 false (.t 101)), none⟩, ⟨some 103, .pur (.fad 3 (.t 3)), none⟩, ⟨some 104, .pur (.ld 1 false (.t 103)), none⟩, ⟨some 105, .call 24 [.t 102, .t 104], none⟩, ⟨some 106, .pur (.mv (.t 105)), none⟩, ⟨some 107, .pur (.fad 4 (.t 2)), some (106, true)⟩, ⟨some 108, .pur (.ld 1 false (.t 107)), some (106, true)⟩, ⟨some 109, .pur (.fad 4 (.t 3)), some (106, true)⟩, ⟨some 110, .pur (.ld 1 false (.t 109)), some (106, true)⟩, ⟨some 111, .call 24 [.t 108, .t 110], some (106, true)⟩, ⟨some 112, .pur (.pick (.t 106) (.t 111) (.k (.bool false))), none⟩, ⟨some 4, .pur (.mv (.t 112)), none⟩]
def u18_39 : IC := .seq (.reg u18_39r) .ret
def u18_28 : IC := .seq u18_29 u18_39
def u18_17 : IC := .seq u18_18 u18_28
def u18_6 : IC := .seq u18_7 u18_17
def u18_2 : IC := .seq u18_3 u18_6
def u18_1r : List IOper := [⟨some 2, .new (.box (.t 0)), none⟩, ⟨some 3, .new (.box (.t 1)), none⟩, ⟨some 4, .pur (.mv (.k (.bool false))), none⟩]
def u18_1 : IC := .seq (.reg u18_1r) u18_2
def u18 : IFn := ⟨113, u18_1, [.tmp 4]⟩
end
theorem isU18 : IsFn Tryd.prog 18 u18 := by unfold IsFn; kernel_rfl
instance i18_5 : WR Tryd.prog 113 u18_5 (rS u18_5r .ret []) := ⟨mkS⟩
instance i18_4 : WR Tryd.prog 113 u18_4 (rCE (.t 46) u18_5 .skip [2, 3, 46]) := ⟨mkCE⟩
instance i18_3 : WR Tryd.prog 113 u18_3 (rS u18_3r u18_4 [2, 3]) := ⟨mkS⟩
instance i18_11 : WR Tryd.prog 113 u18_11 (rCE (.t 51) .skip (.exit 0) [2, 3, 5, 51]) := ⟨mkCE⟩
instance i18_10 : WR Tryd.prog 113 u18_10 (rS u18_10r u18_11 [2, 3, 5]) := ⟨mkS⟩
instance i18_15 : WR Tryd.prog 113 u18_15 (rS u18_15r .ret []) := ⟨mkS⟩
instance i18_14 : WR Tryd.prog 113 u18_14 (rCE (.t 64) u18_15 .skip [2, 3, 5, 64]) := ⟨mkCE⟩
instance i18_13 : WR Tryd.prog 113 u18_13 (rP 11 u18_13r u18_14 [2, 3, 5]) := ⟨mkP rfl⟩
instance i18_16 : WR Tryd.prog 113 u18_16 (rE u18_16r [2, 3, 5]) := ⟨mkE⟩
instance i18_12 : WR Tryd.prog 113 u18_12 (rB 1 u18_13 u18_16 [2, 3, 5]) := ⟨mkB⟩
instance i18_9 : WR Tryd.prog 113 u18_9 (rQ u18_10 u18_12 [2, 3, 5]) := ⟨mkQ⟩
instance i18_8 : WR Tryd.prog 113 u18_8 (rBE 0 (.loop u18_9) [2, 3, 5]) := ⟨mkBE⟩
instance i18_7 : WR Tryd.prog 113 u18_7 (rS u18_7r u18_8 [2, 3]) := ⟨mkS⟩
instance i18_22 : WR Tryd.prog 113 u18_22 (rCE (.t 69) .skip (.exit 2) [2, 3, 6, 69]) := ⟨mkCE⟩
instance i18_21 : WR Tryd.prog 113 u18_21 (rS u18_21r u18_22 [2, 3, 6]) := ⟨mkS⟩
instance i18_26 : WR Tryd.prog 113 u18_26 (rS u18_26r .ret []) := ⟨mkS⟩
instance i18_25 : WR Tryd.prog 113 u18_25 (rCE (.t 82) u18_26 .skip [2, 3, 6, 82]) := ⟨mkCE⟩
instance i18_24 : WR Tryd.prog 113 u18_24 (rP 11 u18_24r u18_25 [2, 3, 6]) := ⟨mkP rfl⟩
instance i18_27 : WR Tryd.prog 113 u18_27 (rE u18_27r [2, 3, 6]) := ⟨mkE⟩
instance i18_23 : WR Tryd.prog 113 u18_23 (rB 3 u18_24 u18_27 [2, 3, 6]) := ⟨mkB⟩
instance i18_20 : WR Tryd.prog 113 u18_20 (rQ u18_21 u18_23 [2, 3, 6]) := ⟨mkQ⟩
instance i18_19 : WR Tryd.prog 113 u18_19 (rBE 2 (.loop u18_20) [2, 3, 6]) := ⟨mkBE⟩
instance i18_18 : WR Tryd.prog 113 u18_18 (rS u18_18r u18_19 [2, 3]) := ⟨mkS⟩
instance i18_33 : WR Tryd.prog 113 u18_33 (rCE (.t 87) .skip (.exit 4) [2, 3, 7, 87]) := ⟨mkCE⟩
instance i18_32 : WR Tryd.prog 113 u18_32 (rS u18_32r u18_33 [2, 3, 7]) := ⟨mkS⟩
instance i18_37 : WR Tryd.prog 113 u18_37 (rS u18_37r .ret []) := ⟨mkS⟩
instance i18_36 : WR Tryd.prog 113 u18_36 (rCE (.t 100) u18_37 .skip [2, 3, 7, 100]) := ⟨mkCE⟩
instance i18_35 : WR Tryd.prog 113 u18_35 (rP 11 u18_35r u18_36 [2, 3, 7]) := ⟨mkP rfl⟩
instance i18_38 : WR Tryd.prog 113 u18_38 (rE u18_38r [2, 3, 7]) := ⟨mkE⟩
instance i18_34 : WR Tryd.prog 113 u18_34 (rB 5 u18_35 u18_38 [2, 3, 7]) := ⟨mkB⟩
instance i18_31 : WR Tryd.prog 113 u18_31 (rQ u18_32 u18_34 [2, 3, 7]) := ⟨mkQ⟩
instance i18_30 : WR Tryd.prog 113 u18_30 (rBE 4 (.loop u18_31) [2, 3, 7]) := ⟨mkBE⟩
instance i18_29 : WR Tryd.prog 113 u18_29 (rS u18_29r u18_30 [2, 3]) := ⟨mkS⟩
instance i18_39 : WR Tryd.prog 113 u18_39 (rS u18_39r .ret [2, 3]) := ⟨mkS⟩
instance i18_28 : WR Tryd.prog 113 u18_28 (rQ u18_29 u18_39 [2, 3]) := ⟨mkQ⟩
instance i18_17 : WR Tryd.prog 113 u18_17 (rQ u18_18 u18_28 [2, 3]) := ⟨mkQ⟩
instance i18_6 : WR Tryd.prog 113 u18_6 (rQ u18_7 u18_17 [2, 3]) := ⟨mkQ⟩
instance i18_2 : WR Tryd.prog 113 u18_2 (rQ u18_3 u18_6 [2, 3]) := ⟨mkQ⟩
instance i18_1 : WR Tryd.prog 113 u18_1 (rS u18_1r u18_2 [0, 1]) := ⟨mkS⟩
attribute [go_sem] u18_5r u18_3r u18_10r u18_15r u18_13r u18_16r u18_7r u18_21r u18_26r u18_24r u18_27r u18_18r u18_32r u18_37r u18_35r u18_38r u18_29r u18_39r u18_1r
noncomputable section
def u29_11r : List IOper := [⟨some 35, .pur (.fad 3 (.t 11)), none⟩, ⟨some 36, .pur (.ld 1 false (.t 35)), none⟩, ⟨some 8, .pur (.mv (.t 36)), none⟩, ⟨some 9, .pur (.mv (.k (.bool true))), none⟩]
def u29_11 : IC := .seq (.reg u29_11r) .ret
def u29_10 : IC := .cond (.t 34) u29_11 .skip
def u29_9r : List IOper := [⟨some 19, .pur (.fad 0 (.t 11)), none⟩, ⟨some 20, .pur (.ld 1 false (.t 19)), none⟩, ⟨some 21, .pur (.mv (.t 1)), none⟩, ⟨some 22, .pur (.bin .eql (.t 20) (.t 21)), none⟩, ⟨some 23, .pur (.mv (.t 22)), none⟩, ⟨some 24, .pur (.fad 1 (.t 11)), some (23, true)⟩, ⟨some 25, .pur (.ld 1 false (.t 24)), some (23, true)⟩, ⟨some 26, .pur (.mv (.t 2)), some (23, true)⟩, ⟨some 27, .pur (.bin .eql (.t 25) (.t 26)), some (23, true)⟩, ⟨some 28, .pur (.pick (.t 23) (.t 27) (.k (.bool false))), none⟩, ⟨some 29, .pur (.mv (.t 28)), none⟩, ⟨some 30, .pur (.fad 2 (.t 11)), some (29, true)⟩, ⟨some 31, .pur (.ld 1 false (.t 30)), some (29, true)⟩, ⟨some 32, .pur (.mv (.t 3)), some (29, true)⟩, ⟨some 33, .pur (.bin .eql (.t 31) (.t 32)), some (29, true)⟩, ⟨some 34, .pur (.pick (.t 29) (.t 33) (.k (.bool false))), none⟩]
def u29_9 : IC := .seq (.reg u29_9r) u29_10
def u29_8r : List IOper := [⟨some 17, .pur (.iad 4 (.t 13) (.t 15)), none⟩, ⟨some 18, .pur (.ld 4 true (.t 17)), none⟩, ⟨some 11, .new (.box (.k (.agg #[.int .i64 0, .int .i64 0, .int .i64 0, .int .i64 0]))), none⟩, ⟨none, .eff (.st 4 (.t 11) (.t 18)), none⟩]
def u29_8 : IC := .seq (.reg u29_8r) u29_9
def u29_12r : List IOper := [⟨some 37, .pur (.bin .add (.t 15) (.k (.int .i64 1))), none⟩, ⟨some 15, .pur (.mv (.t 37)), none⟩]
def u29_12 : IC := .reg u29_12r
def u29_7 : IC := .seq (.blk 1 u29_8) u29_12
def u29_6 : IC := .seq (.cond (.t 16) .skip (.exit 0)) u29_7
def u29_5r : List IOper := [⟨some 16, .pur (.bin .lss (.t 15) (.t 14)), none⟩]
def u29_5 : IC := .seq (.reg u29_5r) u29_6
def u29_4 : IC := .blk 0 (.loop u29_5)
def u29_3r : List IOper := [⟨some 12, .pur (.fad 2 (.t 4)), none⟩, ⟨some 13, .pur (.ld 1 false (.t 12)), none⟩, ⟨some 14, .pur (.len (.t 13)), none⟩, ⟨some 15, .pur (.mv (.k (.int .i64 0))), none⟩]
def u29_3 : IC := .seq (.reg u29_3r) u29_4
def u29_13r : List IOper := [⟨some 8, .pur (.mv (.k (.int .i64 0))), none⟩, ⟨some 9, .pur (.mv (.k (.bool false))), none⟩]
def u29_13 : IC := .seq (.reg u29_13r) .ret
def u29_2 : IC := .seq u29_3 u29_13
def u29_1r : List IOper := [⟨some 4, .new (.box (.t 0)), none⟩, ⟨some 8, .pur (.mv (.k (.int .i64 0))), none⟩, ⟨some 9, .pur (.mv (.k (.bool false))), none⟩]
def u29_1 : IC := .seq (.reg u29_1r) u29_2
def u29 : IFn := ⟨38, u29_1, [.tmp 8, .tmp 9]⟩
end
theorem isU29 : IsFn Tryd.prog 29 u29 := by unfold IsFn; kernel_rfl
instance i29_11 : WR Tryd.prog 38 u29_11 (rS u29_11r .ret [11]) := ⟨mkS⟩
instance i29_10 : WR Tryd.prog 38 u29_10 (rCE (.t 34) u29_11 .skip [1, 2, 3, 11, 13, 14, 15, 34]) := ⟨mkCE⟩
instance i29_9 : WR Tryd.prog 38 u29_9 (rS u29_9r u29_10 [1, 2, 3, 11, 13, 14, 15]) := ⟨mkS⟩
instance i29_8 : WR Tryd.prog 38 u29_8 (rS u29_8r u29_9 [1, 2, 3, 13, 14, 15]) := ⟨mkS⟩
instance i29_12 : WR Tryd.prog 38 u29_12 (rE u29_12r [1, 2, 3, 13, 14, 15]) := ⟨mkE⟩
instance i29_7 : WR Tryd.prog 38 u29_7 (rB 1 u29_8 u29_12 [1, 2, 3, 13, 14, 15]) := ⟨mkB⟩
instance i29_6 : WR Tryd.prog 38 u29_6 (rC (.t 16) .skip (.exit 0) u29_7 [1, 2, 3, 13, 14, 15, 16]) := ⟨mkC⟩
instance i29_5 : WR Tryd.prog 38 u29_5 (rS u29_5r u29_6 [1, 2, 3, 13, 14, 15]) := ⟨mkS⟩
instance i29_4 : WR Tryd.prog 38 u29_4 (rBE 0 (.loop u29_5) [1, 2, 3, 13, 14, 15]) := ⟨mkBE⟩
instance i29_3 : WR Tryd.prog 38 u29_3 (rS u29_3r u29_4 [1, 2, 3, 4]) := ⟨mkS⟩
instance i29_13 : WR Tryd.prog 38 u29_13 (rS u29_13r .ret []) := ⟨mkS⟩
instance i29_2 : WR Tryd.prog 38 u29_2 (rQ u29_3 u29_13 [1, 2, 3, 4]) := ⟨mkQ⟩
instance i29_1 : WR Tryd.prog 38 u29_1 (rS u29_1r u29_2 [0, 1, 2, 3]) := ⟨mkS⟩
attribute [go_sem] u29_11r u29_9r u29_8r u29_12r u29_5r u29_3r u29_13r u29_1r
noncomputable section
def u21_2r : List IOper := [⟨some 5, .pur (.fad 0 (.t 2)), none⟩, ⟨some 6, .pur (.ld 1 false (.t 5)), none⟩, ⟨some 7, .pur (.fad 0 (.t 3)), none⟩, ⟨some 8, .pur (.ld 1 false (.t 7)), none⟩, ⟨some 9, .call 40 [.t 6, .t 8], none⟩, ⟨some 10, .pur (.mv (.t 9)), none⟩, ⟨some 11, .pur (.fad 1 (.t 2)), some (10, true)⟩, ⟨some 12, .pur (.ld 1 false (.t 11)), some (10, true)⟩, ⟨some 13, .pur (.fad 1 (.t 3)), some (10, true)⟩, ⟨some 14, .pur (.ld 1 false (.t 13)), some (10, true)⟩, ⟨some 15, .call 41 [.t 12, .t 14], some (10, true)⟩, ⟨some 16, .pur (.pick (.t 10) (.t 15) (.k (.bool false))), none⟩, ⟨some 17, .pur (.mv (.t 16)), none⟩, ⟨some 18, .pur (.fad 2 (.t 2)), some (17, true)⟩, ⟨some 19, .pur (.ld 1 false (.t 18)), some (17, true)⟩, ⟨some 20, .pur (.fad 2 (.t 3)), some (17, true)⟩, ⟨some 21, .pur (.ld 1 false (.t 20)), some (17, true)⟩, ⟨some 22, .call 42 [.t 19, .t 21], some (17, true)⟩, ⟨some 23, .pur (.pick (.t 17) (.t 22) (.k (.bool false))), none⟩, ⟨some 24, .pur (.mv (.t 23)), none⟩, ⟨some 25, .pur (.fad 3 (.t 2)), some (24, true)⟩, ⟨some 26, .pur (.ld 1 false (.t 25)), some (24, true)⟩, ⟨some 27, .pur (.fad 3 (.t 3)), some (24, true)⟩, ⟨some 28, .pur (.ld 1 false (.t 27)), some (24, true)⟩, ⟨some 29, .call 43 [.t 26, .t 28], some (24, true)⟩, ⟨some 30, .pur (.pick (.t 24) (.t 29) (.k (.bool false))), none⟩, ⟨some 31, .pur (.mv (.t 30)), none⟩, ⟨some 32, .pur (.fad 4 (.t 2)), some (31, true)⟩, ⟨some 33, .pur (.ld 1 false (.t 32)), some (31, true)⟩, ⟨some 34, .pur (.fad 4 (.t 3)), some (31, true)⟩, ⟨some 35, .pur (.ld 1 false (.t 34)), some (31, true)⟩, ⟨some 36, .call 43 [.t 33, .t 35], some (31, true)⟩, ⟨some 37, .pur (.pick (.t 31) (.t 36) (.k (.bool false))), none⟩, ⟨some 38, .pur (.mv (.t 37)), none⟩, ⟨some 39, .pur (.fad 5 (.t 2)), some (38, true)⟩, ⟨some 40, .pur (.ld 1 false (.t 39)), some (38, true)⟩, ⟨some 41, .pur (.fad 5 (.t 3)), some (38, true)⟩, ⟨some 42, .pur (.ld 1 false (.t 41)), some (38, true)⟩, ⟨some 43, .pur (.bin .eql (.t 40) (.t 42)), some (38, true)⟩, ⟨some 44, .pur (.pick (.t 38) (.t 43) (.k (.bool false))), none⟩, ⟨some 45, .pur (.mv (.t 44)), none⟩, ⟨some 46, .pur (.fad 6 (.t 2)), some (45, true)⟩, ⟨some 47, .pur (.ld 1 false (.t 46)), some (45, true)⟩, ⟨some 48, .pur (.fad 6 (.t 3)), some (45, true)⟩, ⟨some 49, .pur (.ld 1 false (.t 48)), some (45, true)⟩, ⟨some 50, .pur (.bin .eql (.t 47) (.t 49)), some (45, true)⟩, ⟨some 51, .pur (.pick (.t 45) (.t 50) (.k (.bool false))), none⟩, ⟨some 4, .pur (.mv (.t 51)), none⟩]
def u21_2 : IC := .seq (.reg u21_2r) .ret
def u21_1r : List IOper := [⟨some 2, .new (.box (.t 0)), none⟩, ⟨some 3, .new (.box (.t 1)), none⟩, ⟨some 4, .pur (.mv (.k (.bool false))), none⟩]
def u21_1 : IC := .seq (.reg u21_1r) u21_2
def u21 : IFn := ⟨52, u21_1, [.tmp 4]⟩
end
theorem isU21 : IsFn Tryd.prog 21 u21 := by unfold IsFn; kernel_rfl
instance i21_2 : WR Tryd.prog 52 u21_2 (rS u21_2r .ret [2, 3]) := ⟨mkS⟩
instance i21_1 : WR Tryd.prog 52 u21_1 (rS u21_1r u21_2 [0, 1]) := ⟨mkS⟩
attribute [go_sem] u21_2r u21_1r
noncomputable section
def u40_5r : List IOper := [⟨some 4, .pur (.mv (.k (.bool false))), none⟩]
def u40_5 : IC := .seq (.reg u40_5r) .ret
def u40_4 : IC := .cond (.t 10) u40_5 .skip
def u40_3r : List IOper := [⟨some 6, .pur (.mv (.t 0)), none⟩, ⟨some 7, .pur (.len (.t 6)), none⟩, ⟨some 8, .pur (.mv (.t 1)), none⟩, ⟨some 9, .pur (.len (.t 8)), none⟩, ⟨some 10, .pur (.bin .neq (.t 7) (.t 9)), none⟩]
def u40_3 : IC := .seq (.reg u40_3r) u40_4
def u40_15r : List IOper := [⟨some 4, .pur (.mv (.k (.bool false))), none⟩]
def u40_15 : IC := .seq (.reg u40_15r) .ret
def u40_14 : IC := .cond (.t 24) u40_15 .skip
def u40_13r : DReg := ⟨[⟨some 16, .pur (.mv (.t 0)), none⟩, ⟨some 17, .pur (.mv (.t 5)), none⟩, ⟨some 18, .pur (.iad 2 (.t 16) (.t 17)), none⟩, ⟨some 19, .pur (.ld 2 true (.t 18)), none⟩, ⟨some 20, .pur (.mv (.t 1)), none⟩, ⟨some 21, .pur (.mv (.t 5)), none⟩, ⟨some 22, .pur (.iad 2 (.t 20) (.t 21)), none⟩, ⟨some 23, .pur (.ld 2 true (.t 22)), none⟩, ⟨some 24, .pur (.eqa true [0, 0] (.t 19) (.t 23)), none⟩], [[], [], [0, 1], [2, 0, 1], [], [], [4, 5], [6, 4, 5], [3, 7, 2, 0, 1, 6, 4, 5]], [(0, none), (1, none), (2, none), (3, none), (4, none), (5, none), (6, none), (7, none), (8, none)]⟩
def u40_13 : IC := .seq (.drw 9 u40_13r) u40_14
def u40_12r : List IOper := [⟨some 15, .pur (.mv (.t 13)), none⟩, ⟨some 5, .pur (.mv (.t 15)), none⟩]
def u40_12 : IC := .seq (.reg u40_12r) u40_13
def u40_16r : List IOper := [⟨some 25, .pur (.bin .add (.t 13) (.k (.int .i64 1))), none⟩, ⟨some 13, .pur (.mv (.t 25)), none⟩]
def u40_16 : IC := .reg u40_16r
def u40_11 : IC := .seq (.blk 1 u40_12) u40_16
def u40_10 : IC := .seq (.cond (.t 14) .skip (.exit 0)) u40_11
def u40_9r : List IOper := [⟨some 14, .pur (.bin .lss (.t 13) (.t 12)), none⟩]
def u40_9 : IC := .seq (.reg u40_9r) u40_10
def u40_8 : IC := .blk 0 (.loop u40_9)
def u40_7r : List IOper := [⟨some 11, .pur (.mv (.t 0)), none⟩, ⟨some 12, .pur (.len (.t 11)), none⟩, ⟨some 13, .pur (.mv (.k (.int .i64 0))), none⟩]
def u40_7 : IC := .seq (.reg u40_7r) u40_8
def u40_17r : List IOper := [⟨some 4, .pur (.mv (.k (.bool true))), none⟩]
def u40_17 : IC := .seq (.reg u40_17r) .ret
def u40_6 : IC := .seq u40_7 u40_17
def u40_2 : IC := .seq u40_3 u40_6
def u40_1r : List IOper := [⟨some 4, .pur (.mv (.k (.bool false))), none⟩]
def u40_1 : IC := .seq (.reg u40_1r) u40_2
def u40 : IFn := ⟨26, u40_1, [.tmp 4]⟩
end
theorem isU40 : IsFn Tryd.prog 40 u40 := by unfold IsFn; kernel_rfl
instance i40_5 : WR Tryd.prog 26 u40_5 (rS u40_5r .ret []) := ⟨mkS⟩
instance i40_4 : WR Tryd.prog 26 u40_4 (rCE (.t 10) u40_5 .skip [0, 1, 10]) := ⟨mkCE⟩
instance i40_3 : WR Tryd.prog 26 u40_3 (rS u40_3r u40_4 [0, 1]) := ⟨mkS⟩
instance i40_15 : WR Tryd.prog 26 u40_15 (rS u40_15r .ret []) := ⟨mkS⟩
instance i40_14 : WR Tryd.prog 26 u40_14 (rCE (.t 24) u40_15 .skip [0, 1, 12, 13, 24]) := ⟨mkCE⟩
instance i40_13 : WR Tryd.prog 26 u40_13 (rP 9 u40_13r u40_14 [0, 1, 5, 12, 13]) := ⟨mkP rfl⟩
instance i40_12 : WR Tryd.prog 26 u40_12 (rS u40_12r u40_13 [0, 1, 12, 13]) := ⟨mkS⟩
instance i40_16 : WR Tryd.prog 26 u40_16 (rE u40_16r [0, 1, 12, 13]) := ⟨mkE⟩
instance i40_11 : WR Tryd.prog 26 u40_11 (rB 1 u40_12 u40_16 [0, 1, 12, 13]) := ⟨mkB⟩
instance i40_10 : WR Tryd.prog 26 u40_10 (rC (.t 14) .skip (.exit 0) u40_11 [0, 1, 12, 13, 14]) := ⟨mkC⟩
instance i40_9 : WR Tryd.prog 26 u40_9 (rS u40_9r u40_10 [0, 1, 12, 13]) := ⟨mkS⟩
instance i40_8 : WR Tryd.prog 26 u40_8 (rBE 0 (.loop u40_9) [0, 1, 12, 13]) := ⟨mkBE⟩
instance i40_7 : WR Tryd.prog 26 u40_7 (rS u40_7r u40_8 [0, 1]) := ⟨mkS⟩
instance i40_17 : WR Tryd.prog 26 u40_17 (rS u40_17r .ret []) := ⟨mkS⟩
instance i40_6 : WR Tryd.prog 26 u40_6 (rQ u40_7 u40_17 [0, 1]) := ⟨mkQ⟩
instance i40_2 : WR Tryd.prog 26 u40_2 (rQ u40_3 u40_6 [0, 1]) := ⟨mkQ⟩
instance i40_1 : WR Tryd.prog 26 u40_1 (rS u40_1r u40_2 [0, 1]) := ⟨mkS⟩
attribute [go_sem] u40_5r u40_3r u40_15r u40_13r u40_12r u40_16r u40_9r u40_7r u40_17r u40_1r
noncomputable section
def u41_5r : List IOper := [⟨some 4, .pur (.mv (.k (.bool false))), none⟩]
def u41_5 : IC := .seq (.reg u41_5r) .ret
def u41_4 : IC := .cond (.t 10) u41_5 .skip
def u41_3r : List IOper := [⟨some 6, .pur (.mv (.t 0)), none⟩, ⟨some 7, .pur (.len (.t 6)), none⟩, ⟨some 8, .pur (.mv (.t 1)), none⟩, ⟨some 9, .pur (.len (.t 8)), none⟩, ⟨some 10, .pur (.bin .neq (.t 7) (.t 9)), none⟩]
def u41_3 : IC := .seq (.reg u41_3r) u41_4
def u41_15r : List IOper := [⟨some 4, .pur (.mv (.k (.bool false))), none⟩]
def u41_15 : IC := .seq (.reg u41_15r) .ret
def u41_14 : IC := .cond (.t 24) u41_15 .skip
def u41_13r : DReg := ⟨[⟨some 16, .pur (.mv (.t 0)), none⟩, ⟨some 17, .pur (.mv (.t 5)), none⟩, ⟨some 18, .pur (.iad 1 (.t 16) (.t 17)), none⟩, ⟨some 19, .pur (.ld 1 false (.t 18)), none⟩, ⟨some 20, .pur (.mv (.t 1)), none⟩, ⟨some 21, .pur (.mv (.t 5)), none⟩, ⟨some 22, .pur (.iad 1 (.t 20) (.t 21)), none⟩, ⟨some 23, .pur (.ld 1 false (.t 22)), none⟩, ⟨some 24, .pur (.bin .neq (.t 19) (.t 23)), none⟩], [[], [], [0, 1], [2, 0, 1], [], [], [4, 5], [6, 4, 5], [3, 7, 2, 0, 1, 6, 4, 5]], [(0, none), (1, none), (2, none), (3, none), (4, none), (5, none), (6, none), (7, none), (8, none)]⟩
def u41_13 : IC := .seq (.drw 9 u41_13r) u41_14
def u41_12r : List IOper := [⟨some 15, .pur (.mv (.t 13)), none⟩, ⟨some 5, .pur (.mv (.t 15)), none⟩]
def u41_12 : IC := .seq (.reg u41_12r) u41_13
def u41_16r : List IOper := [⟨some 25, .pur (.bin .add (.t 13) (.k (.int .i64 1))), none⟩, ⟨some 13, .pur (.mv (.t 25)), none⟩]
def u41_16 : IC := .reg u41_16r
def u41_11 : IC := .seq (.blk 1 u41_12) u41_16
def u41_10 : IC := .seq (.cond (.t 14) .skip (.exit 0)) u41_11
def u41_9r : List IOper := [⟨some 14, .pur (.bin .lss (.t 13) (.t 12)), none⟩]
def u41_9 : IC := .seq (.reg u41_9r) u41_10
def u41_8 : IC := .blk 0 (.loop u41_9)
def u41_7r : List IOper := [⟨some 11, .pur (.mv (.t 0)), none⟩, ⟨some 12, .pur (.len (.t 11)), none⟩, ⟨some 13, .pur (.mv (.k (.int .i64 0))), none⟩]
def u41_7 : IC := .seq (.reg u41_7r) u41_8
def u41_17r : List IOper := [⟨some 4, .pur (.mv (.k (.bool true))), none⟩]
def u41_17 : IC := .seq (.reg u41_17r) .ret
def u41_6 : IC := .seq u41_7 u41_17
def u41_2 : IC := .seq u41_3 u41_6
def u41_1r : List IOper := [⟨some 4, .pur (.mv (.k (.bool false))), none⟩]
def u41_1 : IC := .seq (.reg u41_1r) u41_2
def u41 : IFn := ⟨26, u41_1, [.tmp 4]⟩
end
theorem isU41 : IsFn Tryd.prog 41 u41 := by unfold IsFn; kernel_rfl
instance i41_5 : WR Tryd.prog 26 u41_5 (rS u41_5r .ret []) := ⟨mkS⟩
instance i41_4 : WR Tryd.prog 26 u41_4 (rCE (.t 10) u41_5 .skip [0, 1, 10]) := ⟨mkCE⟩
instance i41_3 : WR Tryd.prog 26 u41_3 (rS u41_3r u41_4 [0, 1]) := ⟨mkS⟩
instance i41_15 : WR Tryd.prog 26 u41_15 (rS u41_15r .ret []) := ⟨mkS⟩
instance i41_14 : WR Tryd.prog 26 u41_14 (rCE (.t 24) u41_15 .skip [0, 1, 12, 13, 24]) := ⟨mkCE⟩
instance i41_13 : WR Tryd.prog 26 u41_13 (rP 9 u41_13r u41_14 [0, 1, 5, 12, 13]) := ⟨mkP rfl⟩
instance i41_12 : WR Tryd.prog 26 u41_12 (rS u41_12r u41_13 [0, 1, 12, 13]) := ⟨mkS⟩
instance i41_16 : WR Tryd.prog 26 u41_16 (rE u41_16r [0, 1, 12, 13]) := ⟨mkE⟩
instance i41_11 : WR Tryd.prog 26 u41_11 (rB 1 u41_12 u41_16 [0, 1, 12, 13]) := ⟨mkB⟩
instance i41_10 : WR Tryd.prog 26 u41_10 (rC (.t 14) .skip (.exit 0) u41_11 [0, 1, 12, 13, 14]) := ⟨mkC⟩
instance i41_9 : WR Tryd.prog 26 u41_9 (rS u41_9r u41_10 [0, 1, 12, 13]) := ⟨mkS⟩
instance i41_8 : WR Tryd.prog 26 u41_8 (rBE 0 (.loop u41_9) [0, 1, 12, 13]) := ⟨mkBE⟩
instance i41_7 : WR Tryd.prog 26 u41_7 (rS u41_7r u41_8 [0, 1]) := ⟨mkS⟩
instance i41_17 : WR Tryd.prog 26 u41_17 (rS u41_17r .ret []) := ⟨mkS⟩
instance i41_6 : WR Tryd.prog 26 u41_6 (rQ u41_7 u41_17 [0, 1]) := ⟨mkQ⟩
instance i41_2 : WR Tryd.prog 26 u41_2 (rQ u41_3 u41_6 [0, 1]) := ⟨mkQ⟩
instance i41_1 : WR Tryd.prog 26 u41_1 (rS u41_1r u41_2 [0, 1]) := ⟨mkS⟩
attribute [go_sem] u41_5r u41_3r u41_15r u41_13r u41_12r u41_16r u41_9r u41_7r u41_17r u41_1r
noncomputable section
def u42_5r : List IOper := [⟨some 4, .pur (.mv (.k (.bool false))), none⟩]
def u42_5 : IC := .seq (.reg u42_5r) .ret
def u42_4 : IC := .cond (.t 10) u42_5 .skip
def u42_3r : List IOper := [⟨some 6, .pur (.mv (.t 0)), none⟩, ⟨some 7, .pur (.len (.t 6)), none⟩, ⟨some 8, .pur (.mv (.t 1)), none⟩, ⟨some 9, .pur (.len (.t 8)), none⟩, ⟨some 10, .pur (.bin .neq (.t 7) (.t 9)), none⟩]
def u42_3 : IC := .seq (.reg u42_3r) u42_4
def u42_15r : List IOper := [⟨some 4, .pur (.mv (.k (.bool false))), none⟩]
def u42_15 : IC := .seq (.reg u42_15r) .ret
def u42_14 : IC := .cond (.t 24) u42_15 .skip
def u42_13r : DReg := ⟨[⟨some 16, .pur (.mv (.t 0)), none⟩, ⟨some 17, .pur (.mv (.t 5)), none⟩, ⟨some 18, .pur (.iad 4 (.t 16) (.t 17)), none⟩, ⟨some 19, .pur (.ld 4 true (.t 18)), none⟩, ⟨some 20, .pur (.mv (.t 1)), none⟩, ⟨some 21, .pur (.mv (.t 5)), none⟩, ⟨some 22, .pur (.iad 4 (.t 20) (.t 21)), none⟩, ⟨some 23, .pur (.ld 4 true (.t 22)), none⟩, ⟨some 24, .pur (.eqa true [0, 0, 0, 0] (.t 19) (.t 23)), none⟩], [[], [], [0, 1], [2, 0, 1], [], [], [4, 5], [6, 4, 5], [3, 7, 2, 0, 1, 6, 4, 5]], [(0, none), (1, none), (2, none), (3, none), (4, none), (5, none), (6, none), (7, none), (8, none)]⟩
def u42_13 : IC := .seq (.drw 9 u42_13r) u42_14
def u42_12r : List IOper := [⟨some 15, .pur (.mv (.t 13)), none⟩, ⟨some 5, .pur (.mv (.t 15)), none⟩]
def u42_12 : IC := .seq (.reg u42_12r) u42_13
def u42_16r : List IOper := [⟨some 25, .pur (.bin .add (.t 13) (.k (.int .i64 1))), none⟩, ⟨some 13, .pur (.mv (.t 25)), none⟩]
def u42_16 : IC := .reg u42_16r
def u42_11 : IC := .seq (.blk 1 u42_12) u42_16
def u42_10 : IC := .seq (.cond (.t 14) .skip (.exit 0)) u42_11
def u42_9r : List IOper := [⟨some 14, .pur (.bin .lss (.t 13) (.t 12)), none⟩]
def u42_9 : IC := .seq (.reg u42_9r) u42_10
def u42_8 : IC := .blk 0 (.loop u42_9)
def u42_7r : List IOper := [⟨some 11, .pur (.mv (.t 0)), none⟩, ⟨some 12, .pur (.len (.t 11)), none⟩, ⟨some 13, .pur (.mv (.k (.int .i64 0))), none⟩]
def u42_7 : IC := .seq (.reg u42_7r) u42_8
def u42_17r : List IOper := [⟨some 4, .pur (.mv (.k (.bool true))), none⟩]
def u42_17 : IC := .seq (.reg u42_17r) .ret
def u42_6 : IC := .seq u42_7 u42_17
def u42_2 : IC := .seq u42_3 u42_6
def u42_1r : List IOper := [⟨some 4, .pur (.mv (.k (.bool false))), none⟩]
def u42_1 : IC := .seq (.reg u42_1r) u42_2
def u42 : IFn := ⟨26, u42_1, [.tmp 4]⟩
end
theorem isU42 : IsFn Tryd.prog 42 u42 := by unfold IsFn; kernel_rfl
instance i42_5 : WR Tryd.prog 26 u42_5 (rS u42_5r .ret []) := ⟨mkS⟩
instance i42_4 : WR Tryd.prog 26 u42_4 (rCE (.t 10) u42_5 .skip [0, 1, 10]) := ⟨mkCE⟩
instance i42_3 : WR Tryd.prog 26 u42_3 (rS u42_3r u42_4 [0, 1]) := ⟨mkS⟩
instance i42_15 : WR Tryd.prog 26 u42_15 (rS u42_15r .ret []) := ⟨mkS⟩
instance i42_14 : WR Tryd.prog 26 u42_14 (rCE (.t 24) u42_15 .skip [0, 1, 12, 13, 24]) := ⟨mkCE⟩
instance i42_13 : WR Tryd.prog 26 u42_13 (rP 9 u42_13r u42_14 [0, 1, 5, 12, 13]) := ⟨mkP rfl⟩
instance i42_12 : WR Tryd.prog 26 u42_12 (rS u42_12r u42_13 [0, 1, 12, 13]) := ⟨mkS⟩
instance i42_16 : WR Tryd.prog 26 u42_16 (rE u42_16r [0, 1, 12, 13]) := ⟨mkE⟩
instance i42_11 : WR Tryd.prog 26 u42_11 (rB 1 u42_12 u42_16 [0, 1, 12, 13]) := ⟨mkB⟩
instance i42_10 : WR Tryd.prog 26 u42_10 (rC (.t 14) .skip (.exit 0) u42_11 [0, 1, 12, 13, 14]) := ⟨mkC⟩
instance i42_9 : WR Tryd.prog 26 u42_9 (rS u42_9r u42_10 [0, 1, 12, 13]) := ⟨mkS⟩
instance i42_8 : WR Tryd.prog 26 u42_8 (rBE 0 (.loop u42_9) [0, 1, 12, 13]) := ⟨mkBE⟩
instance i42_7 : WR Tryd.prog 26 u42_7 (rS u42_7r u42_8 [0, 1]) := ⟨mkS⟩
instance i42_17 : WR Tryd.prog 26 u42_17 (rS u42_17r .ret []) := ⟨mkS⟩
instance i42_6 : WR Tryd.prog 26 u42_6 (rQ u42_7 u42_17 [0, 1]) := ⟨mkQ⟩
instance i42_2 : WR Tryd.prog 26 u42_2 (rQ u42_3 u42_6 [0, 1]) := ⟨mkQ⟩
instance i42_1 : WR Tryd.prog 26 u42_1 (rS u42_1r u42_2 [0, 1]) := ⟨mkS⟩
attribute [go_sem] u42_5r u42_3r u42_15r u42_13r u42_12r u42_16r u42_9r u42_7r u42_17r u42_1r
noncomputable section
def u43_5r : List IOper := [⟨some 4, .pur (.mv (.k (.bool false))), none⟩]
def u43_5 : IC := .seq (.reg u43_5r) .ret
def u43_4 : IC := .cond (.t 10) u43_5 .skip
def u43_3r : List IOper := [⟨some 6, .pur (.mv (.t 0)), none⟩, ⟨some 7, .pur (.len (.t 6)), none⟩, ⟨some 8, .pur (.mv (.t 1)), none⟩, ⟨some 9, .pur (.len (.t 8)), none⟩, ⟨some 10, .pur (.bin .neq (.t 7) (.t 9)), none⟩]
def u43_3 : IC := .seq (.reg u43_3r) u43_4
def u43_15r : List IOper := [⟨some 4, .pur (.mv (.k (.bool false))), none⟩]
def u43_15 : IC := .seq (.reg u43_15r) .ret
def u43_14 : IC := .cond (.t 24) u43_15 .skip
def u43_13r : DReg := ⟨[⟨some 16, .pur (.mv (.t 0)), none⟩, ⟨some 17, .pur (.mv (.t 5)), none⟩, ⟨some 18, .pur (.iad 1 (.t 16) (.t 17)), none⟩, ⟨some 19, .pur (.ld 1 false (.t 18)), none⟩, ⟨some 20, .pur (.mv (.t 1)), none⟩, ⟨some 21, .pur (.mv (.t 5)), none⟩, ⟨some 22, .pur (.iad 1 (.t 20) (.t 21)), none⟩, ⟨some 23, .pur (.ld 1 false (.t 22)), none⟩, ⟨some 24, .pur (.bin .neq (.t 19) (.t 23)), none⟩], [[], [], [0, 1], [2, 0, 1], [], [], [4, 5], [6, 4, 5], [3, 7, 2, 0, 1, 6, 4, 5]], [(0, none), (1, none), (2, none), (3, none), (4, none), (5, none), (6, none), (7, none), (8, none)]⟩
def u43_13 : IC := .seq (.drw 9 u43_13r) u43_14
def u43_12r : List IOper := [⟨some 15, .pur (.mv (.t 13)), none⟩, ⟨some 5, .pur (.mv (.t 15)), none⟩]
def u43_12 : IC := .seq (.reg u43_12r) u43_13
def u43_16r : List IOper := [⟨some 25, .pur (.bin .add (.t 13) (.k (.int .i64 1))), none⟩, ⟨some 13, .pur (.mv (.t 25)), none⟩]
def u43_16 : IC := .reg u43_16r
def u43_11 : IC := .seq (.blk 1 u43_12) u43_16
def u43_10 : IC := .seq (.cond (.t 14) .skip (.exit 0)) u43_11
def u43_9r : List IOper := [⟨some 14, .pur (.bin .lss (.t 13) (.t 12)), none⟩]
def u43_9 : IC := .seq (.reg u43_9r) u43_10
def u43_8 : IC := .blk 0 (.loop u43_9)
def u43_7r : List IOper := [⟨some 11, .pur (.mv (.t 0)), none⟩, ⟨some 12, .pur (.len (.t 11)), none⟩, ⟨some 13, .pur (.mv (.k (.int .i64 0))), none⟩]
def u43_7 : IC := .seq (.reg u43_7r) u43_8
def u43_17r : List IOper := [⟨some 4, .pur (.mv (.k (.bool true))), none⟩]
def u43_17 : IC := .seq (.reg u43_17r) .ret
def u43_6 : IC := .seq u43_7 u43_17
def u43_2 : IC := .seq u43_3 u43_6
def u43_1r : List IOper := [⟨some 4, .pur (.mv (.k (.bool false))), none⟩]
def u43_1 : IC := .seq (.reg u43_1r) u43_2
def u43 : IFn := ⟨26, u43_1, [.tmp 4]⟩
end
theorem isU43 : IsFn Tryd.prog 43 u43 := by unfold IsFn; kernel_rfl
instance i43_5 : WR Tryd.prog 26 u43_5 (rS u43_5r .ret []) := ⟨mkS⟩
instance i43_4 : WR Tryd.prog 26 u43_4 (rCE (.t 10) u43_5 .skip [0, 1, 10]) := ⟨mkCE⟩
instance i43_3 : WR Tryd.prog 26 u43_3 (rS u43_3r u43_4 [0, 1]) := ⟨mkS⟩
instance i43_15 : WR Tryd.prog 26 u43_15 (rS u43_15r .ret []) := ⟨mkS⟩
instance i43_14 : WR Tryd.prog 26 u43_14 (rCE (.t 24) u43_15 .skip [0, 1, 12, 13, 24]) := ⟨mkCE⟩
instance i43_13 : WR Tryd.prog 26 u43_13 (rP 9 u43_13r u43_14 [0, 1, 5, 12, 13]) := ⟨mkP rfl⟩
instance i43_12 : WR Tryd.prog 26 u43_12 (rS u43_12r u43_13 [0, 1, 12, 13]) := ⟨mkS⟩
instance i43_16 : WR Tryd.prog 26 u43_16 (rE u43_16r [0, 1, 12, 13]) := ⟨mkE⟩
instance i43_11 : WR Tryd.prog 26 u43_11 (rB 1 u43_12 u43_16 [0, 1, 12, 13]) := ⟨mkB⟩
instance i43_10 : WR Tryd.prog 26 u43_10 (rC (.t 14) .skip (.exit 0) u43_11 [0, 1, 12, 13, 14]) := ⟨mkC⟩
instance i43_9 : WR Tryd.prog 26 u43_9 (rS u43_9r u43_10 [0, 1, 12, 13]) := ⟨mkS⟩
instance i43_8 : WR Tryd.prog 26 u43_8 (rBE 0 (.loop u43_9) [0, 1, 12, 13]) := ⟨mkBE⟩
instance i43_7 : WR Tryd.prog 26 u43_7 (rS u43_7r u43_8 [0, 1]) := ⟨mkS⟩
instance i43_17 : WR Tryd.prog 26 u43_17 (rS u43_17r .ret []) := ⟨mkS⟩
instance i43_6 : WR Tryd.prog 26 u43_6 (rQ u43_7 u43_17 [0, 1]) := ⟨mkQ⟩
instance i43_2 : WR Tryd.prog 26 u43_2 (rQ u43_3 u43_6 [0, 1]) := ⟨mkQ⟩
instance i43_1 : WR Tryd.prog 26 u43_1 (rS u43_1r u43_2 [0, 1]) := ⟨mkS⟩
attribute [go_sem] u43_5r u43_3r u43_15r u43_13r u43_12r u43_16r u43_9r u43_7r u43_17r u43_1r
theorem c_Find (c : Prg) (n1 : c.entries.length ≤ 9223372036854775807) (m t i : Int) : PC Tryd.prog 29 [c.v, I64 m, I64 t, I64 i] (findV (findM m t i c.entries)) := by
  refine PC.of mixedU isU29 (Nat.le_of_ble_eq_true rfl) (by simp [DV.nlL, DV.nl, nlL_ints, nlL_strs, nlL_instrs, nlL_entries]) (by cases findM m t i c.entries <;> rfl) ?_
  show IW Tryd.prog 38 u29_1 ⟨argT _, _, _⟩ (rt [.tmp 8, .tmp 9] _)
  repeat' ((first | (with_reducible first | refine wr ?_ | refine i_ret ?_ | refine i_skip ?_ | refine i_exit ?_) | ((with_reducible first | refine k_cb ?_ ?_ | refine k_gb ?_ ?_ | refine k_gb' ?_ ?_) <;> (intro hb; try simp only [hb]))) <;> try simp only [go_sem, Nat.reduceAdd, Nat.reduceLeDiff, Nat.reduceEqDiff, Nat.reduceMul, Nat.reduceSub, ↓reduceIte, Int.reduceLT, Int.reduceLE, Int.reduceGT, Int.reduceGE, Nat.reduceLT, Nat.reduceGT, Int.reduceToNat, reduceCtorEq, Nat.reduceBEq, Int.reduceBEq, Int.reduceBNe, Int.reduceEq, Int.reduceNe, decide_true, decide_false])
  refine i_loop (fun k : Nat => [(1, I64 m), (2, I64 t), (3, I64 i), (13, entsV c.entries), (14, I64 c.entries.length), (15, I64 k)]) (fun _ => nil) (fun k cc => k ≤ c.entries.length ∧ findM m t i (c.entries.drop k) = findM m t i c.entries) (fun k => c.entries.length - k) 0 (by simp [tmLe, tm, Tm.upd]) (Sub.nil _) (by simp) ?_
  rintro k cc ⟨hk, he⟩
  by_cases hlt : k < c.entries.length
  · have hd : decide ((k : Int) < c.entries.length) = true := by simpa using hlt
    have hg := List.getElem?_eq_getElem hlt
    have hw := w64 (n := (k : Int) + 1) (by omega) (by omega)
    rw [findM_step hg] at he
    repeat' ((first | (with_reducible first | refine wr ?_ | refine i_ret ?_ | refine i_skip ?_ | refine i_exit ?_) | ((with_reducible first | refine k_cb ?_ ?_ | refine k_gb ?_ ?_ | refine k_gb' ?_ ?_) <;> (intro hb; try simp only [hb]))) <;> try simp only [go_sem, Nat.reduceAdd, Nat.reduceLeDiff, Nat.reduceEqDiff, Nat.reduceMul, Nat.reduceSub, ↓reduceIte, Int.reduceLT, Int.reduceLE, Int.reduceGT, Int.reduceGE, Nat.reduceLT, Nat.reduceGT, Int.reduceToNat, reduceCtorEq, Nat.reduceBEq, Int.reduceBEq, Int.reduceBNe, Int.reduceEq, Int.reduceNe, decide_true, decide_false, hd, hg, hw])
    all_goals first
      | exact ⟨k + 1, rfl, Sub.nil _, inv ⟨hlt, by rw [← he, if_neg]; simp_all⟩, by omega⟩
      | (rw [← he, if_pos (by simp_all)]; exact pc_ret rfl)
  have hd : decide ((k : Int) < c.entries.length) = false := by simpa using hlt
  rw [List.drop_eq_nil_of_le (by omega)] at he
  repeat' ((first | (with_reducible first | refine wr ?_ | refine i_ret ?_ | refine i_skip ?_ | refine i_exit ?_) | ((with_reducible first | refine k_cb ?_ ?_ | refine k_gb ?_ ?_ | refine k_gb' ?_ ?_) <;> (intro hb; try simp only [hb]))) <;> try simp only [go_sem, Nat.reduceAdd, Nat.reduceLeDiff, Nat.reduceEqDiff, Nat.reduceMul, Nat.reduceSub, ↓reduceIte, Int.reduceLT, Int.reduceLE, Int.reduceGT, Int.reduceGE, Nat.reduceLT, Nat.reduceGT, Int.reduceToNat, reduceCtorEq, Nat.reduceBEq, Int.reduceBEq, Int.reduceBNe, Int.reduceEq, Int.reduceNe, decide_true, decide_false, hd])
  rw [← he]; exact pc_ret rfl
theorem c_SameInts (a b : List Int) (n1 : a.length ≤ 9223372036854775807) : PC Tryd.prog 24 [.lst (a.map I64), .lst (b.map I64)] (.bool (decide (a = b))) := by
  refine PC.of mixedU isU24 (Nat.le_of_ble_eq_true rfl) (by simp [DV.nlL, DV.nl, nlL_ints]) rfl ?_
  show IW Tryd.prog 26 u24_1 ⟨argT _, _, _⟩ (rt [.tmp 4] _)
  by_cases hl : a.length = b.length
  case neg =>
    have hne : ((a.length : Int) != (b.length : Int)) = true := by simp; omega
    repeat' ((first | (with_reducible first | refine wr ?_ | refine i_ret ?_ | refine i_skip ?_ | refine i_exit ?_) | ((with_reducible first | refine k_cb ?_ ?_ | refine k_gb ?_ ?_ | refine k_gb' ?_ ?_) <;> (intro hb; try simp only [hb]))) <;> try simp only [go_sem, Nat.reduceAdd, Nat.reduceLeDiff, Nat.reduceEqDiff, Nat.reduceMul, Nat.reduceSub, ↓reduceIte, Int.reduceLT, Int.reduceLE, Int.reduceGT, Int.reduceGE, Nat.reduceLT, Nat.reduceGT, Int.reduceToNat, reduceCtorEq, Nat.reduceBEq, Int.reduceBEq, Int.reduceBNe, Int.reduceEq, Int.reduceNe, decide_true, decide_false, List.length_map, hne])
    rw [decide_eq_false (fun e => hl (by rw [e]))]; exact pc_ret rfl
  have hne : ((a.length : Int) != (b.length : Int)) = false := by simp; omega
  repeat' ((first | (with_reducible first | refine wr ?_ | refine i_ret ?_ | refine i_skip ?_ | refine i_exit ?_) | ((with_reducible first | refine k_cb ?_ ?_ | refine k_gb ?_ ?_ | refine k_gb' ?_ ?_) <;> (intro hb; try simp only [hb]))) <;> try simp only [go_sem, Nat.reduceAdd, Nat.reduceLeDiff, Nat.reduceEqDiff, Nat.reduceMul, Nat.reduceSub, ↓reduceIte, Int.reduceLT, Int.reduceLE, Int.reduceGT, Int.reduceGE, Nat.reduceLT, Nat.reduceGT, Int.reduceToNat, reduceCtorEq, Nat.reduceBEq, Int.reduceBEq, Int.reduceBNe, Int.reduceEq, Int.reduceNe, decide_true, decide_false, List.length_map, hne])
  refine i_loop (fun k : Nat => [(0, .lst (a.map I64)), (1, .lst (b.map I64)), (5, I64 k)]) (fun _ => nil) (fun k cc => k ≤ a.length ∧ a.take k = b.take k) (fun k => a.length - k) 0 (by simp [tmLe, tm, Tm.upd]) (Sub.nil _) (by simp) ?_
  rintro k cc ⟨hk, he⟩
  by_cases hlt : k < a.length
  · have hd : decide ((k : Int) < a.length) = true := by simpa using hlt
    have hlt2 : k < b.length := by omega
    have hg := List.getElem?_eq_getElem hlt
    have hg2 := List.getElem?_eq_getElem hlt2
    have hw := w64 (n := (k : Int) + 1) (by omega) (by omega)
    repeat' ((first | (with_reducible first | refine wr ?_ | refine i_ret ?_ | refine i_skip ?_ | refine i_exit ?_) | ((with_reducible first | refine k_cb ?_ ?_ | refine k_gb ?_ ?_ | refine k_gb' ?_ ?_) <;> (intro hb; try simp only [hb]))) <;> try simp only [go_sem, Nat.reduceAdd, Nat.reduceLeDiff, Nat.reduceEqDiff, Nat.reduceMul, Nat.reduceSub, ↓reduceIte, Int.reduceLT, Int.reduceLE, Int.reduceGT, Int.reduceGE, Nat.reduceLT, Nat.reduceGT, Int.reduceToNat, reduceCtorEq, Nat.reduceBEq, Int.reduceBEq, Int.reduceBNe, Int.reduceEq, Int.reduceNe, decide_true, decide_false, List.length_map, hd, hg, hg2, hw])
    all_goals first
      | (refine ⟨k + 1, rfl, Sub.nil _, inv ⟨hlt, (eqTo_step hg hg2 he).2 ?_⟩, by omega⟩; simpa using hb)
      | (rw [decide_eq_false (eq_fail hg hg2 ?_)]; exact pc_ret rfl; simpa using hb)
  have hd : decide ((k : Int) < a.length) = false := by simpa using hlt
  repeat' ((first | (with_reducible first | refine wr ?_ | refine i_ret ?_ | refine i_skip ?_ | refine i_exit ?_) | ((with_reducible first | refine k_cb ?_ ?_ | refine k_gb ?_ ?_ | refine k_gb' ?_ ?_) <;> (intro hb; try simp only [hb]))) <;> try simp only [go_sem, Nat.reduceAdd, Nat.reduceLeDiff, Nat.reduceEqDiff, Nat.reduceMul, Nat.reduceSub, ↓reduceIte, Int.reduceLT, Int.reduceLE, Int.reduceGT, Int.reduceGE, Nat.reduceLT, Nat.reduceGT, Int.reduceToNat, reduceCtorEq, Nat.reduceBEq, Int.reduceBEq, Int.reduceBNe, Int.reduceEq, Int.reduceNe, decide_true, decide_false, List.length_map, hd])
  rw [decide_eq_true (eq_done hl (by omega) he)]; exact pc_ret rfl
theorem c_eqI (a b : List Ins) (n1 : a.length ≤ 9223372036854775807) : PC Tryd.prog 40 [.lst (a.map Ins.v), .lst (b.map Ins.v)] (.bool (decide (a = b))) := by
  refine PC.of mixedU isU40 (Nat.le_of_ble_eq_true rfl) (by simp [DV.nlL, DV.nl, nlL_instrs]) rfl ?_
  show IW Tryd.prog 26 u40_1 ⟨argT _, _, _⟩ (rt [.tmp 4] _)
  by_cases hl : a.length = b.length
  case neg =>
    have hne : ((a.length : Int) != (b.length : Int)) = true := by simp; omega
    repeat' ((first | (with_reducible first | refine wr ?_ | refine i_ret ?_ | refine i_skip ?_ | refine i_exit ?_) | ((with_reducible first | refine k_cb ?_ ?_ | refine k_gb ?_ ?_ | refine k_gb' ?_ ?_) <;> (intro hb; try simp only [hb]))) <;> try simp only [go_sem, Nat.reduceAdd, Nat.reduceLeDiff, Nat.reduceEqDiff, Nat.reduceMul, Nat.reduceSub, ↓reduceIte, Int.reduceLT, Int.reduceLE, Int.reduceGT, Int.reduceGE, Nat.reduceLT, Nat.reduceGT, Int.reduceToNat, reduceCtorEq, Nat.reduceBEq, Int.reduceBEq, Int.reduceBNe, Int.reduceEq, Int.reduceNe, decide_true, decide_false, List.length_map, hne])
    rw [decide_eq_false (fun e => hl (by rw [e]))]; exact pc_ret rfl
  have hne : ((a.length : Int) != (b.length : Int)) = false := by simp; omega
  repeat' ((first | (with_reducible first | refine wr ?_ | refine i_ret ?_ | refine i_skip ?_ | refine i_exit ?_) | ((with_reducible first | refine k_cb ?_ ?_ | refine k_gb ?_ ?_ | refine k_gb' ?_ ?_) <;> (intro hb; try simp only [hb]))) <;> try simp only [go_sem, Nat.reduceAdd, Nat.reduceLeDiff, Nat.reduceEqDiff, Nat.reduceMul, Nat.reduceSub, ↓reduceIte, Int.reduceLT, Int.reduceLE, Int.reduceGT, Int.reduceGE, Nat.reduceLT, Nat.reduceGT, Int.reduceToNat, reduceCtorEq, Nat.reduceBEq, Int.reduceBEq, Int.reduceBNe, Int.reduceEq, Int.reduceNe, decide_true, decide_false, List.length_map, hne])
  refine i_loop (fun k : Nat => [(0, .lst (a.map Ins.v)), (1, .lst (b.map Ins.v)), (12, I64 a.length), (13, I64 k)]) (fun _ => nil) (fun k cc => k ≤ a.length ∧ a.take k = b.take k) (fun k => a.length - k) 0 (by simp [tmLe, tm, Tm.upd]) (Sub.nil _) (by simp) ?_
  rintro k cc ⟨hk, he⟩
  by_cases hlt : k < a.length
  · have hd : decide ((k : Int) < a.length) = true := by simpa using hlt
    have hlt2 : k < b.length := by omega
    have hg := List.getElem?_eq_getElem hlt
    have hg2 := List.getElem?_eq_getElem hlt2
    have hw := w64 (n := (k : Int) + 1) (by omega) (by omega)
    repeat' ((first | (with_reducible first | refine wr ?_ | refine i_ret ?_ | refine i_skip ?_ | refine i_exit ?_) | ((with_reducible first | refine k_cb ?_ ?_ | refine k_gb ?_ ?_ | refine k_gb' ?_ ?_) <;> (intro hb; try simp only [hb]))) <;> try simp only [go_sem, Nat.reduceAdd, Nat.reduceLeDiff, Nat.reduceEqDiff, Nat.reduceMul, Nat.reduceSub, ↓reduceIte, Int.reduceLT, Int.reduceLE, Int.reduceGT, Int.reduceGE, Nat.reduceLT, Nat.reduceGT, Int.reduceToNat, reduceCtorEq, Nat.reduceBEq, Int.reduceBEq, Int.reduceBNe, Int.reduceEq, Int.reduceNe, decide_true, decide_false, List.length_map, hd, hg, hg2, hw, eqa2])
    all_goals first
      | (refine ⟨k + 1, rfl, Sub.nil _, inv ⟨hlt, (eqTo_step hg hg2 he).2 ?_⟩, by omega⟩; simpa [ins_eq] using hb)
      | (rw [decide_eq_false (eq_fail hg hg2 ?_)]; exact pc_ret rfl; simpa [ins_eq] using hb)
  have hd : decide ((k : Int) < a.length) = false := by simpa using hlt
  repeat' ((first | (with_reducible first | refine wr ?_ | refine i_ret ?_ | refine i_skip ?_ | refine i_exit ?_) | ((with_reducible first | refine k_cb ?_ ?_ | refine k_gb ?_ ?_ | refine k_gb' ?_ ?_) <;> (intro hb; try simp only [hb]))) <;> try simp only [go_sem, Nat.reduceAdd, Nat.reduceLeDiff, Nat.reduceEqDiff, Nat.reduceMul, Nat.reduceSub, ↓reduceIte, Int.reduceLT, Int.reduceLE, Int.reduceGT, Int.reduceGE, Nat.reduceLT, Nat.reduceGT, Int.reduceToNat, reduceCtorEq, Nat.reduceBEq, Int.reduceBEq, Int.reduceBNe, Int.reduceEq, Int.reduceNe, decide_true, decide_false, List.length_map, hd])
  rw [decide_eq_true (eq_done hl (by omega) he)]; exact pc_ret rfl
theorem c_eqS (a b : List (List UInt8)) (n1 : a.length ≤ 9223372036854775807) : PC Tryd.prog 41 [.lst (a.map DV.str), .lst (b.map DV.str)] (.bool (decide (a = b))) := by
  refine PC.of mixedU isU41 (Nat.le_of_ble_eq_true rfl) (by simp [DV.nlL, DV.nl, nlL_strs]) rfl ?_
  show IW Tryd.prog 26 u41_1 ⟨argT _, _, _⟩ (rt [.tmp 4] _)
  by_cases hl : a.length = b.length
  case neg =>
    have hne : ((a.length : Int) != (b.length : Int)) = true := by simp; omega
    repeat' ((first | (with_reducible first | refine wr ?_ | refine i_ret ?_ | refine i_skip ?_ | refine i_exit ?_) | ((with_reducible first | refine k_cb ?_ ?_ | refine k_gb ?_ ?_ | refine k_gb' ?_ ?_) <;> (intro hb; try simp only [hb]))) <;> try simp only [go_sem, Nat.reduceAdd, Nat.reduceLeDiff, Nat.reduceEqDiff, Nat.reduceMul, Nat.reduceSub, ↓reduceIte, Int.reduceLT, Int.reduceLE, Int.reduceGT, Int.reduceGE, Nat.reduceLT, Nat.reduceGT, Int.reduceToNat, reduceCtorEq, Nat.reduceBEq, Int.reduceBEq, Int.reduceBNe, Int.reduceEq, Int.reduceNe, decide_true, decide_false, List.length_map, hne])
    rw [decide_eq_false (fun e => hl (by rw [e]))]; exact pc_ret rfl
  have hne : ((a.length : Int) != (b.length : Int)) = false := by simp; omega
  repeat' ((first | (with_reducible first | refine wr ?_ | refine i_ret ?_ | refine i_skip ?_ | refine i_exit ?_) | ((with_reducible first | refine k_cb ?_ ?_ | refine k_gb ?_ ?_ | refine k_gb' ?_ ?_) <;> (intro hb; try simp only [hb]))) <;> try simp only [go_sem, Nat.reduceAdd, Nat.reduceLeDiff, Nat.reduceEqDiff, Nat.reduceMul, Nat.reduceSub, ↓reduceIte, Int.reduceLT, Int.reduceLE, Int.reduceGT, Int.reduceGE, Nat.reduceLT, Nat.reduceGT, Int.reduceToNat, reduceCtorEq, Nat.reduceBEq, Int.reduceBEq, Int.reduceBNe, Int.reduceEq, Int.reduceNe, decide_true, decide_false, List.length_map, hne])
  refine i_loop (fun k : Nat => [(0, .lst (a.map DV.str)), (1, .lst (b.map DV.str)), (12, I64 a.length), (13, I64 k)]) (fun _ => nil) (fun k cc => k ≤ a.length ∧ a.take k = b.take k) (fun k => a.length - k) 0 (by simp [tmLe, tm, Tm.upd]) (Sub.nil _) (by simp) ?_
  rintro k cc ⟨hk, he⟩
  by_cases hlt : k < a.length
  · have hd : decide ((k : Int) < a.length) = true := by simpa using hlt
    have hlt2 : k < b.length := by omega
    have hg := List.getElem?_eq_getElem hlt
    have hg2 := List.getElem?_eq_getElem hlt2
    have hw := w64 (n := (k : Int) + 1) (by omega) (by omega)
    repeat' ((first | (with_reducible first | refine wr ?_ | refine i_ret ?_ | refine i_skip ?_ | refine i_exit ?_) | ((with_reducible first | refine k_cb ?_ ?_ | refine k_gb ?_ ?_ | refine k_gb' ?_ ?_) <;> (intro hb; try simp only [hb]))) <;> try simp only [go_sem, Nat.reduceAdd, Nat.reduceLeDiff, Nat.reduceEqDiff, Nat.reduceMul, Nat.reduceSub, ↓reduceIte, Int.reduceLT, Int.reduceLE, Int.reduceGT, Int.reduceGE, Nat.reduceLT, Nat.reduceGT, Int.reduceToNat, reduceCtorEq, Nat.reduceBEq, Int.reduceBEq, Int.reduceBNe, Int.reduceEq, Int.reduceNe, decide_true, decide_false, List.length_map, hd, hg, hg2, hw])
    all_goals first
      | (refine ⟨k + 1, rfl, Sub.nil _, inv ⟨hlt, (eqTo_step hg hg2 he).2 ?_⟩, by omega⟩; simpa using hb)
      | (rw [decide_eq_false (eq_fail hg hg2 ?_)]; exact pc_ret rfl; simpa using hb)
  have hd : decide ((k : Int) < a.length) = false := by simpa using hlt
  repeat' ((first | (with_reducible first | refine wr ?_ | refine i_ret ?_ | refine i_skip ?_ | refine i_exit ?_) | ((with_reducible first | refine k_cb ?_ ?_ | refine k_gb ?_ ?_ | refine k_gb' ?_ ?_) <;> (intro hb; try simp only [hb]))) <;> try simp only [go_sem, Nat.reduceAdd, Nat.reduceLeDiff, Nat.reduceEqDiff, Nat.reduceMul, Nat.reduceSub, ↓reduceIte, Int.reduceLT, Int.reduceLE, Int.reduceGT, Int.reduceGE, Nat.reduceLT, Nat.reduceGT, Int.reduceToNat, reduceCtorEq, Nat.reduceBEq, Int.reduceBEq, Int.reduceBNe, Int.reduceEq, Int.reduceNe, decide_true, decide_false, List.length_map, hd])
  rw [decide_eq_true (eq_done hl (by omega) he)]; exact pc_ret rfl
theorem c_eqE (a b : List Ent) (n1 : a.length ≤ 9223372036854775807) : PC Tryd.prog 42 [.lst (a.map Ent.v), .lst (b.map Ent.v)] (.bool (decide (a = b))) := by
  refine PC.of mixedU isU42 (Nat.le_of_ble_eq_true rfl) (by simp [DV.nlL, DV.nl, nlL_entries]) rfl ?_
  show IW Tryd.prog 26 u42_1 ⟨argT _, _, _⟩ (rt [.tmp 4] _)
  by_cases hl : a.length = b.length
  case neg =>
    have hne : ((a.length : Int) != (b.length : Int)) = true := by simp; omega
    repeat' ((first | (with_reducible first | refine wr ?_ | refine i_ret ?_ | refine i_skip ?_ | refine i_exit ?_) | ((with_reducible first | refine k_cb ?_ ?_ | refine k_gb ?_ ?_ | refine k_gb' ?_ ?_) <;> (intro hb; try simp only [hb]))) <;> try simp only [go_sem, Nat.reduceAdd, Nat.reduceLeDiff, Nat.reduceEqDiff, Nat.reduceMul, Nat.reduceSub, ↓reduceIte, Int.reduceLT, Int.reduceLE, Int.reduceGT, Int.reduceGE, Nat.reduceLT, Nat.reduceGT, Int.reduceToNat, reduceCtorEq, Nat.reduceBEq, Int.reduceBEq, Int.reduceBNe, Int.reduceEq, Int.reduceNe, decide_true, decide_false, List.length_map, hne])
    rw [decide_eq_false (fun e => hl (by rw [e]))]; exact pc_ret rfl
  have hne : ((a.length : Int) != (b.length : Int)) = false := by simp; omega
  repeat' ((first | (with_reducible first | refine wr ?_ | refine i_ret ?_ | refine i_skip ?_ | refine i_exit ?_) | ((with_reducible first | refine k_cb ?_ ?_ | refine k_gb ?_ ?_ | refine k_gb' ?_ ?_) <;> (intro hb; try simp only [hb]))) <;> try simp only [go_sem, Nat.reduceAdd, Nat.reduceLeDiff, Nat.reduceEqDiff, Nat.reduceMul, Nat.reduceSub, ↓reduceIte, Int.reduceLT, Int.reduceLE, Int.reduceGT, Int.reduceGE, Nat.reduceLT, Nat.reduceGT, Int.reduceToNat, reduceCtorEq, Nat.reduceBEq, Int.reduceBEq, Int.reduceBNe, Int.reduceEq, Int.reduceNe, decide_true, decide_false, List.length_map, hne])
  refine i_loop (fun k : Nat => [(0, .lst (a.map Ent.v)), (1, .lst (b.map Ent.v)), (12, I64 a.length), (13, I64 k)]) (fun _ => nil) (fun k cc => k ≤ a.length ∧ a.take k = b.take k) (fun k => a.length - k) 0 (by simp [tmLe, tm, Tm.upd]) (Sub.nil _) (by simp) ?_
  rintro k cc ⟨hk, he⟩
  by_cases hlt : k < a.length
  · have hd : decide ((k : Int) < a.length) = true := by simpa using hlt
    have hlt2 : k < b.length := by omega
    have hg := List.getElem?_eq_getElem hlt
    have hg2 := List.getElem?_eq_getElem hlt2
    have hw := w64 (n := (k : Int) + 1) (by omega) (by omega)
    repeat' ((first | (with_reducible first | refine wr ?_ | refine i_ret ?_ | refine i_skip ?_ | refine i_exit ?_) | ((with_reducible first | refine k_cb ?_ ?_ | refine k_gb ?_ ?_ | refine k_gb' ?_ ?_) <;> (intro hb; try simp only [hb]))) <;> try simp only [go_sem, Nat.reduceAdd, Nat.reduceLeDiff, Nat.reduceEqDiff, Nat.reduceMul, Nat.reduceSub, ↓reduceIte, Int.reduceLT, Int.reduceLE, Int.reduceGT, Int.reduceGE, Nat.reduceLT, Nat.reduceGT, Int.reduceToNat, reduceCtorEq, Nat.reduceBEq, Int.reduceBEq, Int.reduceBNe, Int.reduceEq, Int.reduceNe, decide_true, decide_false, List.length_map, hd, hg, hg2, hw, eqa4])
    all_goals first
      | (refine ⟨k + 1, rfl, Sub.nil _, inv ⟨hlt, (eqTo_step hg hg2 he).2 ?_⟩, by omega⟩; simpa [ent_eq] using hb)
      | (rw [decide_eq_false (eq_fail hg hg2 ?_)]; exact pc_ret rfl; simpa [ent_eq] using hb)
  have hd : decide ((k : Int) < a.length) = false := by simpa using hlt
  repeat' ((first | (with_reducible first | refine wr ?_ | refine i_ret ?_ | refine i_skip ?_ | refine i_exit ?_) | ((with_reducible first | refine k_cb ?_ ?_ | refine k_gb ?_ ?_ | refine k_gb' ?_ ?_) <;> (intro hb; try simp only [hb]))) <;> try simp only [go_sem, Nat.reduceAdd, Nat.reduceLeDiff, Nat.reduceEqDiff, Nat.reduceMul, Nat.reduceSub, ↓reduceIte, Int.reduceLT, Int.reduceLE, Int.reduceGT, Int.reduceGE, Nat.reduceLT, Nat.reduceGT, Int.reduceToNat, reduceCtorEq, Nat.reduceBEq, Int.reduceBEq, Int.reduceBNe, Int.reduceEq, Int.reduceNe, decide_true, decide_false, List.length_map, hd])
  rw [decide_eq_true (eq_done hl (by omega) he)]; exact pc_ret rfl
theorem c_eqN (a b : List Int) (n1 : a.length ≤ 9223372036854775807) : PC Tryd.prog 43 [.lst (a.map I64), .lst (b.map I64)] (.bool (decide (a = b))) := by
  refine PC.of mixedU isU43 (Nat.le_of_ble_eq_true rfl) (by simp [DV.nlL, DV.nl, nlL_ints]) rfl ?_
  show IW Tryd.prog 26 u43_1 ⟨argT _, _, _⟩ (rt [.tmp 4] _)
  by_cases hl : a.length = b.length
  case neg =>
    have hne : ((a.length : Int) != (b.length : Int)) = true := by simp; omega
    repeat' ((first | (with_reducible first | refine wr ?_ | refine i_ret ?_ | refine i_skip ?_ | refine i_exit ?_) | ((with_reducible first | refine k_cb ?_ ?_ | refine k_gb ?_ ?_ | refine k_gb' ?_ ?_) <;> (intro hb; try simp only [hb]))) <;> try simp only [go_sem, Nat.reduceAdd, Nat.reduceLeDiff, Nat.reduceEqDiff, Nat.reduceMul, Nat.reduceSub, ↓reduceIte, Int.reduceLT, Int.reduceLE, Int.reduceGT, Int.reduceGE, Nat.reduceLT, Nat.reduceGT, Int.reduceToNat, reduceCtorEq, Nat.reduceBEq, Int.reduceBEq, Int.reduceBNe, Int.reduceEq, Int.reduceNe, decide_true, decide_false, List.length_map, hne])
    rw [decide_eq_false (fun e => hl (by rw [e]))]; exact pc_ret rfl
  have hne : ((a.length : Int) != (b.length : Int)) = false := by simp; omega
  repeat' ((first | (with_reducible first | refine wr ?_ | refine i_ret ?_ | refine i_skip ?_ | refine i_exit ?_) | ((with_reducible first | refine k_cb ?_ ?_ | refine k_gb ?_ ?_ | refine k_gb' ?_ ?_) <;> (intro hb; try simp only [hb]))) <;> try simp only [go_sem, Nat.reduceAdd, Nat.reduceLeDiff, Nat.reduceEqDiff, Nat.reduceMul, Nat.reduceSub, ↓reduceIte, Int.reduceLT, Int.reduceLE, Int.reduceGT, Int.reduceGE, Nat.reduceLT, Nat.reduceGT, Int.reduceToNat, reduceCtorEq, Nat.reduceBEq, Int.reduceBEq, Int.reduceBNe, Int.reduceEq, Int.reduceNe, decide_true, decide_false, List.length_map, hne])
  refine i_loop (fun k : Nat => [(0, .lst (a.map I64)), (1, .lst (b.map I64)), (12, I64 a.length), (13, I64 k)]) (fun _ => nil) (fun k cc => k ≤ a.length ∧ a.take k = b.take k) (fun k => a.length - k) 0 (by simp [tmLe, tm, Tm.upd]) (Sub.nil _) (by simp) ?_
  rintro k cc ⟨hk, he⟩
  by_cases hlt : k < a.length
  · have hd : decide ((k : Int) < a.length) = true := by simpa using hlt
    have hlt2 : k < b.length := by omega
    have hg := List.getElem?_eq_getElem hlt
    have hg2 := List.getElem?_eq_getElem hlt2
    have hw := w64 (n := (k : Int) + 1) (by omega) (by omega)
    repeat' ((first | (with_reducible first | refine wr ?_ | refine i_ret ?_ | refine i_skip ?_ | refine i_exit ?_) | ((with_reducible first | refine k_cb ?_ ?_ | refine k_gb ?_ ?_ | refine k_gb' ?_ ?_) <;> (intro hb; try simp only [hb]))) <;> try simp only [go_sem, Nat.reduceAdd, Nat.reduceLeDiff, Nat.reduceEqDiff, Nat.reduceMul, Nat.reduceSub, ↓reduceIte, Int.reduceLT, Int.reduceLE, Int.reduceGT, Int.reduceGE, Nat.reduceLT, Nat.reduceGT, Int.reduceToNat, reduceCtorEq, Nat.reduceBEq, Int.reduceBEq, Int.reduceBNe, Int.reduceEq, Int.reduceNe, decide_true, decide_false, List.length_map, hd, hg, hg2, hw])
    all_goals first
      | (refine ⟨k + 1, rfl, Sub.nil _, inv ⟨hlt, (eqTo_step hg hg2 he).2 ?_⟩, by omega⟩; simpa using hb)
      | (rw [decide_eq_false (eq_fail hg hg2 ?_)]; exact pc_ret rfl; simpa using hb)
  have hd : decide ((k : Int) < a.length) = false := by simpa using hlt
  repeat' ((first | (with_reducible first | refine wr ?_ | refine i_ret ?_ | refine i_skip ?_ | refine i_exit ?_) | ((with_reducible first | refine k_cb ?_ ?_ | refine k_gb ?_ ?_ | refine k_gb' ?_ ?_) <;> (intro hb; try simp only [hb]))) <;> try simp only [go_sem, Nat.reduceAdd, Nat.reduceLeDiff, Nat.reduceEqDiff, Nat.reduceMul, Nat.reduceSub, ↓reduceIte, Int.reduceLT, Int.reduceLE, Int.reduceGT, Int.reduceGE, Nat.reduceLT, Nat.reduceGT, Int.reduceToNat, reduceCtorEq, Nat.reduceBEq, Int.reduceBEq, Int.reduceBNe, Int.reduceEq, Int.reduceNe, decide_true, decide_false, List.length_map, hd])
  rw [decide_eq_true (eq_done hl (by omega) he)]; exact pc_ret rfl
end Go.Proofs.YtcallbfckjlagaaDoor
set_option maxHeartbeats 4000000
set_option maxRecDepth 100000
set_option linter.unusedSimpArgs false
set_option linter.unusedVariables false
namespace Go.Proofs.YtcallbfckjlagaaDoor
open Go.Eng (IC IOper DReg IFn IsFn)
open Go.Sym Go.Pb
theorem c_Same (a b : Prg) (n1 : a.instrs.length ≤ 9223372036854775807) (n2 : a.strings.length ≤ 9223372036854775807) (n3 : a.entries.length ≤ 9223372036854775807) (n4 : a.prios.length ≤ 9223372036854775807) (n5 : a.vars.length ≤ 9223372036854775807) :
    PC Tryd.prog 21 [a.v, b.v] (.bool (decide (a = b))) := by
  refine PC.of mixedU isU21 (Nat.le_of_ble_eq_true rfl) (by simp [DV.nlL, DV.nl, nlL_ints, nlL_strs, nlL_instrs, nlL_entries, nlL_stp]) (by simp [DV.nlL, DV.nl, nlL_ints, nlL_strs, nlL_instrs, nlL_entries, nlL_stp]) ?_
  show IW Tryd.prog 52 u21_1 ⟨argT _, _, _⟩ (rt [.tmp 4] _)
  repeat' ((first | (with_reducible first | refine wr ?_ | refine i_ret ?_ | refine i_skip ?_ | refine i_exit ?_) | ((with_reducible first | refine k_cb ?_ ?_ | refine k_gb ?_ ?_ | refine k_gb' ?_ ?_) <;> (intro hb; try simp only [hb])) | ((with_reducible refine AC.call ((c_eqI _ _ n1).at _ _) ?_); rintro _ _ _ ⟨rfl, rfl, rfl⟩ -) | ((with_reducible refine AC.call ((c_eqS _ _ n2).at _ _) ?_); rintro _ _ _ ⟨rfl, rfl, rfl⟩ -) | ((with_reducible refine AC.call ((c_eqE _ _ n3).at _ _) ?_); rintro _ _ _ ⟨rfl, rfl, rfl⟩ -) | ((with_reducible refine AC.call ((c_eqN _ _ n4).at _ _) ?_); rintro _ _ _ ⟨rfl, rfl, rfl⟩ -) | ((with_reducible refine AC.call ((c_eqN _ _ n5).at _ _) ?_); rintro _ _ _ ⟨rfl, rfl, rfl⟩ -)) <;> try simp only [go_sem, Nat.reduceAdd, Nat.reduceLeDiff, Nat.reduceEqDiff, Nat.reduceMul, Nat.reduceSub, ↓reduceIte, Int.reduceLT, Int.reduceLE, Int.reduceGT, Int.reduceGE, Nat.reduceLT, Nat.reduceGT, Int.reduceToNat, reduceCtorEq, Nat.reduceBEq, Int.reduceBEq, Int.reduceBNe, Int.reduceEq, Int.reduceNe, decide_true, decide_false])
  all_goals refine pc_ret ?_
  all_goals (congr 1; rw [prg_eq, Bool.eq_iff_iff]; simp_all)
theorem c_SameR (a b : Prg) (n1 : a.instrs.length ≤ 9223372036854775807) (n2 : a.strings.length ≤ 9223372036854775807) (n3 : a.entries.length ≤ 9223372036854775807) (n4 : a.prios.length ≤ 9223372036854775807) (n5 : a.vars.length ≤ 9223372036854775807) :
    PC Tryd.prog 18 [a.v, b.v] (.bool (decide (a = b))) := by
  refine PC.of mixedU isU18 (Nat.le_of_ble_eq_true rfl) (by simp [DV.nlL, DV.nl, nlL_ints, nlL_strs, nlL_instrs, nlL_entries, nlL_stp]) (by simp [DV.nlL, DV.nl, nlL_ints, nlL_strs, nlL_instrs, nlL_entries, nlL_stp]) ?_
  show IW Tryd.prog 113 u18_1 ⟨argT _, _, _⟩ (rt [.tmp 4] _)
  by_cases h : a.instrs.length = b.instrs.length ∧ a.strings.length = b.strings.length ∧ a.entries.length = b.entries.length ∧ a.timers = b.timers ∧ a.events = b.events
  case neg =>
    repeat' ((first | (with_reducible first | refine wr ?_ | refine i_ret ?_ | refine i_skip ?_ | refine i_exit ?_) | ((with_reducible first | refine k_cb ?_ ?_ | refine k_gb ?_ ?_ | refine k_gb' ?_ ?_) <;> (intro hb; try simp only [hb]))) <;> try simp only [go_sem, Nat.reduceAdd, Nat.reduceLeDiff, Nat.reduceEqDiff, Nat.reduceMul, Nat.reduceSub, ↓reduceIte, Int.reduceLT, Int.reduceLE, Int.reduceGT, Int.reduceGE, Nat.reduceLT, Nat.reduceGT, Int.reduceToNat, reduceCtorEq, Nat.reduceBEq, Int.reduceBEq, Int.reduceBNe, Int.reduceEq, Int.reduceNe, decide_true, decide_false])
    all_goals first
      | (refine pc_ret ?_; congr 1; rw [prg_eq]; simp_all; done)
      | (exfalso; simp only [bne_eq_false_iff_eq] at *; apply h; refine ⟨?_, ?_, ?_, ?_, ?_⟩ <;> first | assumption | omega)
  obtain ⟨l1, l2, l3, l4, l5⟩ := h
  have e1 : ((a.instrs.length : Int) != (b.instrs.length : Int)) = false := by simp; omega
  have e2 : ((a.strings.length : Int) != (b.strings.length : Int)) = false := by simp; omega
  have e3 : ((a.entries.length : Int) != (b.entries.length : Int)) = false := by simp; omega
  have e4 : (a.timers != b.timers) = false := by simp [l4]
  have e5 : (a.events != b.events) = false := by simp [l5]
  repeat' ((first | (with_reducible first | refine wr ?_ | refine i_ret ?_ | refine i_skip ?_ | refine i_exit ?_) | ((with_reducible first | refine k_cb ?_ ?_ | refine k_gb ?_ ?_ | refine k_gb' ?_ ?_) <;> (intro hb; try simp only [hb]))) <;> try simp only [go_sem, Nat.reduceAdd, Nat.reduceLeDiff, Nat.reduceEqDiff, Nat.reduceMul, Nat.reduceSub, ↓reduceIte, Int.reduceLT, Int.reduceLE, Int.reduceGT, Int.reduceGE, Nat.reduceLT, Nat.reduceGT, Int.reduceToNat, reduceCtorEq, Nat.reduceBEq, Int.reduceBEq, Int.reduceBNe, Int.reduceEq, Int.reduceNe, decide_true, decide_false, e1, e2, e3, e4, e5])
  refine i_loop (fun k : Nat => [(2, .ptr 0 0), (3, .ptr 1 0), (5, I64 k)]) (fun _ => (nil.upd 0 ⟨0, true, a.cs⟩).upd 1 ⟨0, true, b.cs⟩) (fun k cc => 2 ≤ cc ∧ k ≤ a.instrs.length ∧ a.instrs.take k = b.instrs.take k) (fun k => a.instrs.length - k) 0 (by simp [tmLe, tm, Tm.upd]) (Sub.refl _) (by simp) ?_
  rintro k cc ⟨h2, hk, he⟩
  by_cases hlt : k < a.instrs.length
  · have hd : decide ((k : Int) < a.instrs.length) = true := by simpa using hlt
    have hlt2 : k < b.instrs.length := by omega
    have hg := List.getElem?_eq_getElem hlt
    have hg2 := List.getElem?_eq_getElem hlt2
    have hw := w64 (n := (k : Int) + 1) (by omega) (by omega)
    repeat' ((first | (with_reducible first | refine wr ?_ | refine i_ret ?_ | refine i_skip ?_ | refine i_exit ?_) | ((with_reducible first | refine k_cb ?_ ?_ | refine k_gb ?_ ?_ | refine k_gb' ?_ ?_) <;> (intro hb; try simp only [hb]))) <;> try simp only [go_sem, Nat.reduceAdd, Nat.reduceLeDiff, Nat.reduceEqDiff, Nat.reduceMul, Nat.reduceSub, ↓reduceIte, Int.reduceLT, Int.reduceLE, Int.reduceGT, Int.reduceGE, Nat.reduceLT, Nat.reduceGT, Int.reduceToNat, reduceCtorEq, Nat.reduceBEq, Int.reduceBEq, Int.reduceBNe, Int.reduceEq, Int.reduceNe, decide_true, decide_false, hd, hg, hg2, hw, eqa2])
    all_goals first
      | (refine ⟨k + 1, rfl, Sub.refl _, inv ⟨by omega, hlt, (eqTo_step hg hg2 he).2 ?_⟩, by omega⟩; simpa [ins_eq] using hb)
      | (refine pc_ret ?_; congr 1; rw [prg_eq, decide_eq_false (eq_fail hg hg2 ?_)]; rfl; simpa [ins_eq] using hb)
  have hd : decide ((k : Int) < a.instrs.length) = false := by simpa using hlt
  have g1 := eq_done l1 (by omega) he
  clear he hk
  repeat' ((first | (with_reducible first | refine wr ?_ | refine i_ret ?_ | refine i_skip ?_ | refine i_exit ?_) | ((with_reducible first | refine k_cb ?_ ?_ | refine k_gb ?_ ?_ | refine k_gb' ?_ ?_) <;> (intro hb; try simp only [hb]))) <;> try simp only [go_sem, Nat.reduceAdd, Nat.reduceLeDiff, Nat.reduceEqDiff, Nat.reduceMul, Nat.reduceSub, ↓reduceIte, Int.reduceLT, Int.reduceLE, Int.reduceGT, Int.reduceGE, Nat.reduceLT, Nat.reduceGT, Int.reduceToNat, reduceCtorEq, Nat.reduceBEq, Int.reduceBEq, Int.reduceBNe, Int.reduceEq, Int.reduceNe, decide_true, decide_false, hd])
  clear hd hlt
  refine i_loop (fun k : Nat => [(2, .ptr 0 0), (3, .ptr 1 0), (6, I64 k)]) (fun _ => (nil.upd 0 ⟨0, true, a.cs⟩).upd 1 ⟨0, true, b.cs⟩) (fun k cc => 2 ≤ cc ∧ k ≤ a.strings.length ∧ a.strings.take k = b.strings.take k) (fun k => a.strings.length - k) 0 (by simp [tmLe, tm, Tm.upd]) (Sub.refl _) (by simp; omega) ?_
  clear k cc h2
  rintro k cc ⟨h2, hk, he⟩
  by_cases hlt : k < a.strings.length
  · have hd : decide ((k : Int) < a.strings.length) = true := by simpa using hlt
    have hlt2 : k < b.strings.length := by omega
    have hg := List.getElem?_eq_getElem hlt
    have hg2 := List.getElem?_eq_getElem hlt2
    have hw := w64 (n := (k : Int) + 1) (by omega) (by omega)
    repeat' ((first | (with_reducible first | refine wr ?_ | refine i_ret ?_ | refine i_skip ?_ | refine i_exit ?_) | ((with_reducible first | refine k_cb ?_ ?_ | refine k_gb ?_ ?_ | refine k_gb' ?_ ?_) <;> (intro hb; try simp only [hb]))) <;> try simp only [go_sem, Nat.reduceAdd, Nat.reduceLeDiff, Nat.reduceEqDiff, Nat.reduceMul, Nat.reduceSub, ↓reduceIte, Int.reduceLT, Int.reduceLE, Int.reduceGT, Int.reduceGE, Nat.reduceLT, Nat.reduceGT, Int.reduceToNat, reduceCtorEq, Nat.reduceBEq, Int.reduceBEq, Int.reduceBNe, Int.reduceEq, Int.reduceNe, decide_true, decide_false, hd, hg, hg2, hw, eqa2])
    all_goals first
      | (refine ⟨k + 1, rfl, Sub.refl _, inv ⟨by omega, hlt, (eqTo_step hg hg2 he).2 ?_⟩, by omega⟩; simpa using hb)
      | (refine pc_ret ?_; congr 1; rw [prg_eq, decide_eq_false (eq_fail hg hg2 (by simpa using hb))]; simp)
  have hd : decide ((k : Int) < a.strings.length) = false := by simpa using hlt
  have g2 := eq_done l2 (by omega) he
  clear he hk
  repeat' ((first | (with_reducible first | refine wr ?_ | refine i_ret ?_ | refine i_skip ?_ | refine i_exit ?_) | ((with_reducible first | refine k_cb ?_ ?_ | refine k_gb ?_ ?_ | refine k_gb' ?_ ?_) <;> (intro hb; try simp only [hb]))) <;> try simp only [go_sem, Nat.reduceAdd, Nat.reduceLeDiff, Nat.reduceEqDiff, Nat.reduceMul, Nat.reduceSub, ↓reduceIte, Int.reduceLT, Int.reduceLE, Int.reduceGT, Int.reduceGE, Nat.reduceLT, Nat.reduceGT, Int.reduceToNat, reduceCtorEq, Nat.reduceBEq, Int.reduceBEq, Int.reduceBNe, Int.reduceEq, Int.reduceNe, decide_true, decide_false, hd])
  clear hd hlt
  refine i_loop (fun k : Nat => [(2, .ptr 0 0), (3, .ptr 1 0), (7, I64 k)]) (fun _ => (nil.upd 0 ⟨0, true, a.cs⟩).upd 1 ⟨0, true, b.cs⟩) (fun k cc => 2 ≤ cc ∧ k ≤ a.entries.length ∧ a.entries.take k = b.entries.take k) (fun k => a.entries.length - k) 0 (by simp [tmLe, tm, Tm.upd]) (Sub.refl _) (by simp; omega) ?_
  clear k cc h2
  rintro k cc ⟨h2, hk, he⟩
  by_cases hlt : k < a.entries.length
  · have hd : decide ((k : Int) < a.entries.length) = true := by simpa using hlt
    have hlt2 : k < b.entries.length := by omega
    have hg := List.getElem?_eq_getElem hlt
    have hg2 := List.getElem?_eq_getElem hlt2
    have hw := w64 (n := (k : Int) + 1) (by omega) (by omega)
    repeat' ((first | (with_reducible first | refine wr ?_ | refine i_ret ?_ | refine i_skip ?_ | refine i_exit ?_) | ((with_reducible first | refine k_cb ?_ ?_ | refine k_gb ?_ ?_ | refine k_gb' ?_ ?_) <;> (intro hb; try simp only [hb]))) <;> try simp only [go_sem, Nat.reduceAdd, Nat.reduceLeDiff, Nat.reduceEqDiff, Nat.reduceMul, Nat.reduceSub, ↓reduceIte, Int.reduceLT, Int.reduceLE, Int.reduceGT, Int.reduceGE, Nat.reduceLT, Nat.reduceGT, Int.reduceToNat, reduceCtorEq, Nat.reduceBEq, Int.reduceBEq, Int.reduceBNe, Int.reduceEq, Int.reduceNe, decide_true, decide_false, hd, hg, hg2, hw, eqa4])
    all_goals first
      | (refine ⟨k + 1, rfl, Sub.refl _, inv ⟨by omega, hlt, (eqTo_step hg hg2 he).2 ?_⟩, by omega⟩; simpa [ent_eq] using hb)
      | (refine pc_ret ?_; congr 1; rw [prg_eq, decide_eq_false (eq_fail hg hg2 (by simpa [ent_eq] using hb))]; simp)
  have hd : decide ((k : Int) < a.entries.length) = false := by simpa using hlt
  have g3 := eq_done l3 (by omega) he
  clear he hk
  repeat' ((first | (with_reducible first | refine wr ?_ | refine i_ret ?_ | refine i_skip ?_ | refine i_exit ?_) | ((with_reducible first | refine k_cb ?_ ?_ | refine k_gb ?_ ?_ | refine k_gb' ?_ ?_) <;> (intro hb; try simp only [hb])) | ((with_reducible refine AC.call ((c_SameInts _ _ n4).at _ _) ?_); rintro _ _ _ ⟨rfl, rfl, rfl⟩ -) | ((with_reducible refine AC.call ((c_SameInts _ _ n5).at _ _) ?_); rintro _ _ _ ⟨rfl, rfl, rfl⟩ -)) <;> try simp only [go_sem, Nat.reduceAdd, Nat.reduceLeDiff, Nat.reduceEqDiff, Nat.reduceMul, Nat.reduceSub, ↓reduceIte, Int.reduceLT, Int.reduceLE, Int.reduceGT, Int.reduceGE, Nat.reduceLT, Nat.reduceGT, Int.reduceToNat, reduceCtorEq, Nat.reduceBEq, Int.reduceBEq, Int.reduceBNe, Int.reduceEq, Int.reduceNe, decide_true, decide_false, hd])
  all_goals refine pc_ret ?_
  all_goals (congr 1; rw [prg_eq]; simp_all)
end Go.Proofs.YtcallbfckjlagaaDoor
set_option linter.unusedVariables false
set_option linter.unusedSimpArgs false
namespace Go.Pb
open Go.Sym
abbrev Sm (n : Int) : Prop := -4611686018427387904 ≤ n ∧ n ≤ 4611686018427387903
structure Bnd (c : Prg) : Prop where
  ins : ∀ i ∈ c.instrs, Sm i.op ∧ Sm i.A
  ent : ∀ e ∈ c.entries, Sm e.mode ∧ Sm e.trigger ∧ Sm e.index ∧ Sm e.pos
  pri : ∀ n ∈ c.prios, Sm n
  var : ∀ n ∈ c.vars, Sm n
  tim : Sm c.timers
  evt : Sm c.events
  str : ∀ s ∈ c.strings, s.length ≤ 32
theorem sm_in {n lo hi : Int} (h : inM n lo hi = true) (h1 : -4611686018427387904 ≤ lo) (h2 : hi ≤ 4611686018427387903) : Sm n := by
  simp only [inM, Bool.and_eq_true, decide_eq_true_eq] at h
  exact ⟨by omega, by omega⟩
theorem op_bd {op : Int} (h : (effM op).2.2 ≠ -1) : 1 ≤ op ∧ op ≤ 31 := by
  by_cases h2 : 1 ≤ op ∧ op ≤ 31
  · exact h2
  · exfalso; apply h
    have h101 : ¬op = 1 := by omega
    have h102 : ¬op = 2 := by omega
    have h103 : ¬op = 3 := by omega
    have h104 : ¬op = 4 := by omega
    have h105 : ¬op = 5 := by omega
    have h106 : ¬op = 6 := by omega
    have h107 : ¬op = 7 := by omega
    have h108 : ¬op = 8 := by omega
    have h109 : ¬op = 9 := by omega
    have h110 : ¬op = 10 := by omega
    have h111 : ¬op = 11 := by omega
    have h112 : ¬op = 12 := by omega
    have h113 : ¬op = 13 := by omega
    have h114 : ¬op = 14 := by omega
    have h115 : ¬op = 15 := by omega
    have h116 : ¬op = 16 := by omega
    have h117 : ¬op = 17 := by omega
    have h118 : ¬op = 18 := by omega
    have h119 : ¬op = 19 := by omega
    have h120 : ¬op = 20 := by omega
    have h121 : ¬op = 21 := by omega
    have h122 : ¬op = 22 := by omega
    have h123 : ¬op = 23 := by omega
    have h124 : ¬op = 24 := by omega
    have h125 : ¬op = 25 := by omega
    have h126 : ¬op = 26 := by omega
    have h127 : ¬op = 27 := by omega
    have h128 : ¬op = 28 := by omega
    have h129 : ¬op = 29 := by omega
    have h130 : ¬op = 30 := by omega
    have h131 : ¬op = 31 := by omega
    have e : effM op = (0, 0, -1) := by
      unfold effM
      rw [if_neg h101, if_neg h102, if_neg h103, if_neg h104, if_neg h105, if_neg h106, if_neg h107, if_neg h108, if_neg h109, if_neg h110, if_neg h111, if_neg h112, if_neg h113, if_neg h114, if_neg h115, if_neg h116, if_neg h117, if_neg h118, if_neg h119, if_neg h120, if_neg h121, if_neg h122, if_neg h123, if_neg h124, if_neg h125, if_neg h126, if_neg h127, if_neg h128, if_neg h129, if_neg h130, if_neg h131]
    rw [e]
theorem Lim.dims {c : Prg} (h : limitsM c = true) : c.instrs.length ≤ 4000 ∧ c.strings.length ≤ 200 ∧ c.entries.length ≤ 512 ∧ c.prios.length ≤ 16 ∧ c.vars.length ≤ 128 ∧ 0 ≤ c.timers ∧ c.timers ≤ 128 ∧ 0 ≤ c.events ∧ c.events ≤ 128 := by
  simp only [limitsM, inM, Bool.and_eq_true, decide_eq_true_eq] at h
  omega
theorem kind_sm {c : Prg} (hL : limitsM c = true) {k a : Int} (hJ : k ≠ 7) (h : kindM c k a = true) : Sm a := by
  obtain ⟨d1, d2, d3, d4, d5, d6, d7, d8, d9⟩ := Lim.dims hL
  by_cases e0 : k = 0
  · subst e0
    have h' : decide (a = 0) = true := h
    simp only [decide_eq_true_eq] at h'; exact ⟨by omega, by omega⟩
  by_cases e1 : k = 1
  · subst e1; exact sm_in (lo := (-2147483647)) (hi := 2147483647) h (by omega) (by omega)
  by_cases e2 : k = 2
  · subst e2; exact sm_in (lo := 0) (hi := (c.vars.length - 1)) h (by omega) (by omega)
  by_cases e3 : k = 3
  · subst e3; exact sm_in (lo := 0) (hi := 63) h (by omega) (by omega)
  by_cases e9 : k = 9
  · subst e9; exact sm_in (lo := 0) (hi := 63) h (by omega) (by omega)
  by_cases e4 : k = 4
  · subst e4; exact sm_in (lo := 0) (hi := (c.prios.length - 1)) h (by omega) (by omega)
  by_cases e5 : k = 5
  · subst e5; exact sm_in (lo := 0) (hi := (c.timers - 1)) h (by omega) (by omega)
  by_cases e6 : k = 6
  · subst e6; exact sm_in (lo := 12) (hi := 24) h (by omega) (by omega)
  by_cases e8 : k = 8
  · subst e8; exact sm_in (lo := 0) (hi := 31) h (by omega) (by omega)
  by_cases e10 : k = 10
  · subst e10; exact sm_in (lo := 0) (hi := (c.events - 1)) h (by omega) (by omega)
  by_cases e11 : k = 11
  · subst e11; exact sm_in (lo := 0) (hi := (c.strings.length - 1)) h (by omega) (by omega)
  have : kindM c k a = false := by
    unfold kindM
    rw [if_neg e0, if_neg e1, if_neg e2, if_neg e3, if_neg e9, if_neg e4, if_neg e5, if_neg e6, if_neg hJ, if_neg e8, if_neg e10, if_neg e11]
  rw [this] at h; cases h
theorem Bnd.of {c : Prg} (hL : limitsM c = true) (hp : partsM c = true) (hj : jumpsM c = true) : Bnd c := by
  obtain ⟨d1, d2, d3, d4, d5, d6, d7, d8, d9⟩ := Lim.dims hL
  simp only [partsM, Bool.and_eq_true, List.all_eq_true] at hp
  obtain ⟨⟨⟨⟨p1, p2⟩, p3⟩, p4⟩, p5⟩ := hp
  refine ⟨fun i hi => ?_, fun e he => ?_, fun n hn => sm_in (p2 n hn) (by omega) (by omega), fun n hn => sm_in (p3 n hn) (by omega) (by omega), ⟨by omega, by omega⟩, ⟨by omega, by omega⟩, fun s hs => ?_⟩
  · have h := p5 i hi
    have h7 := jump_bd hj i hi
    have hk : (effM i.op).2.2 ≠ -1 := by
      intro e; rw [numberM, e] at h; simp [kindM] at h
    obtain ⟨o1, o2⟩ := op_bd hk
    refine ⟨⟨by omega, by omega⟩, ?_⟩
    by_cases hJ : (effM i.op).2.2 = 7
    · have hop : i.op = 12 ∨ i.op = 13 ∨ i.op = 14 := by
        have := isJ_kind i.op
        rw [hJ] at this
        simpa [isJ] using this
      have := h7 hop
      exact ⟨by omega, by omega⟩
    · exact kind_sm hL hJ h
  · have h := p4 e he
    have h7 := ent_bd hj e he
    simp only [entryM, Bool.and_eq_true] at h
    obtain ⟨h1, h2⟩ := h
    refine ⟨sm_in h1 (by omega) (by omega), ?_, ?_, ⟨by omega, by omega⟩⟩
    · repeat' split at h2
      all_goals first
        | cases h2; done
        | exact ⟨by omega, by omega⟩
    · repeat' split at h2
      all_goals first
        | exact sm_in h2 (by omega) (by omega)
        | (simp only [decide_eq_true_eq] at h2; exact ⟨by omega, by omega⟩)
        | cases h2
  · have h := p1 s hs
    simp only [printM, Bool.and_eq_true, decide_eq_true_eq] at h
    exact h.2
theorem valid_all {c : Prg} (h0 : validM c = 0) : limitsM c = true ∧ partsM c = true ∧ jumpsM c = true ∧ chainM c.entries = true ∧ ∃ h, hR c = some h := by
  unfold validM at h0
  split at h0
  · exact absurd h0 (by decide)
  split at h0
  · exact absurd h0 (by decide)
  split at h0
  · exact absurd h0 (by decide)
  split at h0
  · exact absurd h0 (by decide)
  split at h0
  · exact absurd h0 (by decide)
  · rename_i h1 h2 h3 h4 h5
    refine ⟨by simpa using h1, by simpa using h2, by simpa using h3, by simpa using h4, ?_⟩
    cases hh : hR c with
    | none => rw [hh] at h5; exact absurd rfl h5
    | some h => exact ⟨h, rfl⟩
theorem Bnd.valid {c : Prg} (h0 : validM c = 0) : Bnd c :=
  let ⟨a, b, d, _⟩ := valid_all h0
  Bnd.of a b d
theorem numI_len {n : Int} (h : Sm n) : (numI n).length ≤ 10 := numB_len 9 _ (by have := zig_lt h.1 h.2; omega)
theorem numI_ne (n : Int) : numI n ≠ [] := by
  unfold numI
  by_cases h : zig n < 128
  · rw [numB_lt h]; simp
  · rw [numB_ge h]; simp
def numsB (l : List Int) : List UInt8 := numI l.length ++ l.flatMap numI
def insB (i : Ins) : List UInt8 := numI i.op ++ numI i.A
def strB (s : List UInt8) : List UInt8 := numI s.length ++ s
def entB (e : Ent) : List UInt8 := numI e.mode ++ numI e.trigger ++ numI e.index ++ numI e.pos
def encM (c : Prg) : List UInt8 :=
  numI c.instrs.length ++ c.instrs.flatMap insB ++ numI c.strings.length ++ c.strings.flatMap strB ++ numI c.entries.length ++ c.entries.flatMap entB ++ numsB c.prios ++ numsB c.vars ++ numI c.timers ++ numI c.events
theorem flat_len {α : Type} (f : α → List UInt8) (m : Nat) : ∀ (l : List α), (∀ x ∈ l, (f x).length ≤ m) → (l.flatMap f).length ≤ m * l.length
  | [], _ => by simp
  | x :: l, h => by
    have h1 := h x List.mem_cons_self
    have h2 := flat_len f m l (fun y hy => h y (List.mem_cons_of_mem _ hy))
    rw [List.flatMap_cons, List.length_append, List.length_cons, Nat.mul_succ]
    omega
theorem flat_take {α : Type} (f : α → List UInt8) (m : Nat) (l : List α) (h : ∀ x ∈ l, (f x).length ≤ m) (k : Nat) : ((l.take k).flatMap f).length ≤ m * l.length := by
  have h1 := flat_len f m (l.take k) (fun x hx => h x (List.mem_of_mem_take hx))
  have h2 : m * (l.take k).length ≤ m * l.length := Nat.mul_le_mul_left _ (by simp; omega)
  omega
theorem flat_step {α : Type} (f : α → List UInt8) {l : List α} {k : Nat} {x : α} (h : l[k]? = some x) : (l.take (k + 1)).flatMap f = (l.take k).flatMap f ++ f x := by
  rw [List.take_add_one, h, List.flatMap_append]; simp
theorem sadd {s t : List UInt8} (h : s.length + t.length ≤ 9223372036854775807) : binR .add (.str s) (.str t) = some (.str (s ++ t)) := r_sadd (by simpa [maxLen] using h)
theorem numsB_len {l : List Int} (h : ∀ n ∈ l, Sm n) (hl : l.length ≤ 100000) : (numsB l).length ≤ 10 + 10 * l.length := by
  have h1 := numI_len (n := (l.length : Int)) ⟨by omega, by omega⟩
  have h2 := flat_len numI 10 l (fun x hx => numI_len (h x hx))
  rw [numsB, List.length_append]; omega
def encV (c : Prg) : List UInt8 := if validM c = 0 then encM c else []
def EH (c : Prg) (o : Option Nat) (bs : List UInt8) : Hp :=
  optH ((Sym.nil.upd 0 ⟨0, true, c.cs⟩).upd 1 ⟨0, true, [todoV o bs.length]⟩) o ⟨1, true, bytesC bs⟩
theorem EH_0 {c : Prg} {o : Option Nat} {bs : List UInt8} {cc : Nat} (h : ∀ i, o = some i → 2 ≤ i ∧ i < cc) : EH c o bs 0 = some ⟨0, true, c.cs⟩ := by
  cases o with
  | none => rfl
  | some i => have := h i rfl; simp only [EH, optH]; rw [h_ne (by omega)]; rfl
theorem EH_n {c : Prg} {o : Option Nat} {bs : List UInt8} {x : Nat} (h0 : 2 ≤ x) (h : o ≠ some x) : EH c o bs x = none := by
  cases o with
  | none => simp only [EH, optH]; rw [h_ne (by omega), h_ne (by omega)]; rfl
  | some i =>
    have : ¬x = i := fun e => h (by rw [e])
    simp only [EH, optH]; rw [h_ne this, h_ne (by omega), h_ne (by omega)]; rfl
theorem EH_one {c : Prg} {o : Option Nat} {bs : List UInt8} : ∀ j bj, EH c o bs j = some bj → ∀ d ∈ bj.cells, d.one = true := by
  intro j bj h d hd
  have hB : ∀ d ∈ bytesC bs, d.one = true := fun d hd => by obtain ⟨b, -, rfl⟩ := List.mem_map.1 hd; rfl
  have hT : (todoV o bs.length).one = true := by cases o <;> rfl
  have hC : ∀ d ∈ c.cs, d.one = true := fun d hd => by
    simp only [Prg.cs, List.mem_cons, List.not_mem_nil, or_false] at hd
    rcases hd with rfl | rfl | rfl | rfl | rfl | rfl | rfl <;> rfl
  have base : ∀ bj, ((Sym.nil.upd 0 ⟨0, true, c.cs⟩).upd 1 ⟨0, true, [todoV o bs.length]⟩) j = some bj → ∀ d ∈ bj.cells, d.one = true := by
    intro bj h d hd
    simp only [Hp.upd, Sym.nil] at h
    split at h
    · cases h; simp only [List.mem_singleton] at hd; subst hd; exact hT
    · split at h
      · cases h; exact hC d hd
      · cases h
  cases o with
  | none => exact base bj h d hd
  | some i =>
    simp only [EH, optH] at h
    by_cases e : j = i
    · subst e; rw [h_same] at h; cases h; exact hB d hd
    · rw [h_ne e] at h; exact base bj h d hd
theorem g_put {c : Prg} {o : Option Nat} {bs : List UInt8} {H : Hp} {x : Nat} {l : List Int} (hS : Sub (EH c o bs) H) (hx : H x = some ⟨1, true, l.map I64⟩) (h0 : 2 ≤ x) (ho : o ≠ some x) :
    GL H [.ptr 1 0, .slc x 0 l.length] (EH c o bs) [.ptr 1 0, ints l] := by
  refine GL.frz hx rfl (FzH.less (fun j => ?_) EH_one) (.cons _ _ _ _ (.same _) (.cons _ _ _ _ (.slc 0 l.length 1 (l.map I64) (by simp) (ints_unit l) (by simp) (by rw [cells_ints, List.drop_zero, Nat.mul_one, List.take_of_length_le (by simp)])) .nil))
  cases hj : EH c o bs j with
  | none => exact .inl rfl
  | some b =>
    refine .inr ⟨fun e => ?_, (hS j b hj).symm⟩
    subst e; rw [EH_n h0 ho] at hj; cases hj
end Go.Pb
set_option maxHeartbeats 4000000
set_option maxRecDepth 100000
set_option linter.unusedSimpArgs false
set_option linter.unusedVariables false
namespace Go.Proofs.YtcallbfckjlagaaDoor
open Go.Eng (IC IOper DReg IFn IsFn)
open Go.Sym Go.Pb
noncomputable section
def u39_11r : List IOper := [⟨some 18, .pur (.mv (.t 5)), none⟩, ⟨some 19, .pur (.bin .mul (.k (.int .i64 (-2))) (.t 18)), none⟩, ⟨some 20, .pur (.bin .sub (.t 19) (.k (.int .i64 1))), none⟩, ⟨some 21, .pur (.cvi .u64 (.t 20)), none⟩, ⟨some 6, .pur (.mv (.t 21)), none⟩]
def u39_11 : IC := .reg u39_11r
def u39_10 : IC := .cond (.t 17) u39_11 .skip
def u39_9r : List IOper := [⟨some 16, .pur (.mv (.t 5)), none⟩, ⟨some 17, .pur (.bin .lss (.t 16) (.k (.int .i64 0))), none⟩]
def u39_9 : IC := .seq (.reg u39_9r) u39_10
def u39_15 : IC := .cond (.t 23) .skip (.exit 2)
def u39_14r : List IOper := [⟨some 22, .pur (.mv (.t 6)), none⟩, ⟨some 23, .pur (.bin .gtr (.t 22) (.k (.int .u64 127))), none⟩]
def u39_14 : IC := .seq (.reg u39_14r) u39_15
def u39_17r : List IOper := [⟨some 26, .pur (.mv (.t 0)), none⟩, ⟨some 27, .pur (.mv (.t 0)), none⟩, ⟨some 28, .pur (.nck (.t 27)), none⟩, ⟨some 29, .pur (.fad 0 (.t 28)), none⟩, ⟨some 30, .pur (.ld 1 false (.t 29)), none⟩, ⟨some 31, .pur (.mv (.t 6)), none⟩, ⟨some 32, .pur (.bin .rem (.t 31) (.k (.int .u64 128))), none⟩, ⟨some 33, .pur (.bin .add (.t 32) (.k (.int .u64 128))), none⟩, ⟨some 34, .pur (.cvi .u8 (.t 33)), none⟩, ⟨some 35, .new (.bsl 1 1 #[.int .u8 0] [(0, .t 34)]), none⟩, ⟨some 36, .eff (.app 1 1 (.t 30) (.t 35)), none⟩, ⟨some 37, .pur (.nck (.t 26)), none⟩, ⟨some 38, .pur (.fad 0 (.t 37)), none⟩, ⟨none, .eff (.st 1 (.t 38) (.t 36)), none⟩]
def u39_17 : IC := .reg u39_17r
def u39_18r : List IOper := [⟨some 24, .pur (.mv (.t 6)), none⟩, ⟨some 25, .pur (.bin .quo (.t 24) (.k (.int .u64 128))), none⟩, ⟨some 6, .pur (.mv (.t 25)), none⟩]
def u39_18 : IC := .reg u39_18r
def u39_16 : IC := .seq (.blk 3 u39_17) u39_18
def u39_13 : IC := .seq u39_14 u39_16
def u39_19r : List IOper := [⟨some 39, .pur (.mv (.t 0)), none⟩, ⟨some 40, .pur (.mv (.t 0)), none⟩, ⟨some 41, .pur (.nck (.t 40)), none⟩, ⟨some 42, .pur (.fad 0 (.t 41)), none⟩, ⟨some 43, .pur (.ld 1 false (.t 42)), none⟩, ⟨some 44, .pur (.mv (.t 6)), none⟩, ⟨some 45, .pur (.cvi .u8 (.t 44)), none⟩, ⟨some 46, .new (.bsl 1 1 #[.int .u8 0] [(0, .t 45)]), none⟩, ⟨some 47, .eff (.app 1 1 (.t 43) (.t 46)), none⟩, ⟨some 48, .pur (.nck (.t 39)), none⟩, ⟨some 49, .pur (.fad 0 (.t 48)), none⟩, ⟨none, .eff (.st 1 (.t 49) (.t 47)), none⟩]
def u39_19 : IC := .reg u39_19r
def u39_12 : IC := .seq (.blk 2 (.loop u39_13)) u39_19
def u39_8 : IC := .seq u39_9 u39_12
def u39_7r : List IOper := [⟨some 13, .pur (.mv (.t 5)), none⟩, ⟨some 14, .pur (.bin .mul (.k (.int .i64 2)) (.t 13)), none⟩, ⟨some 15, .pur (.cvi .u64 (.t 14)), none⟩, ⟨some 6, .pur (.mv (.t 15)), none⟩]
def u39_7 : IC := .seq (.reg u39_7r) u39_8
def u39_6r : List IOper := [⟨some 11, .pur (.iad 1 (.t 7) (.t 9)), none⟩, ⟨some 12, .pur (.ld 1 false (.t 11)), none⟩, ⟨some 5, .pur (.mv (.t 12)), none⟩]
def u39_6 : IC := .seq (.reg u39_6r) u39_7
def u39_20r : List IOper := [⟨some 50, .pur (.bin .add (.t 9) (.k (.int .i64 1))), none⟩, ⟨some 9, .pur (.mv (.t 50)), none⟩]
def u39_20 : IC := .reg u39_20r
def u39_5 : IC := .seq (.blk 1 u39_6) u39_20
def u39_4 : IC := .seq (.cond (.t 10) .skip (.exit 0)) u39_5
def u39_3r : List IOper := [⟨some 10, .pur (.bin .lss (.t 9) (.t 8)), none⟩]
def u39_3 : IC := .seq (.reg u39_3r) u39_4
def u39_2 : IC := .blk 0 (.loop u39_3)
def u39_1r : List IOper := [⟨some 7, .pur (.mv (.t 1)), none⟩, ⟨some 8, .pur (.len (.t 7)), none⟩, ⟨some 9, .pur (.mv (.k (.int .i64 0))), none⟩]
def u39_1 : IC := .seq (.reg u39_1r) u39_2
def u39 : IFn := ⟨51, u39_1, []⟩
end
theorem isU39 : IsFn Tryd.prog 39 u39 := by unfold IsFn; kernel_rfl
instance i39_11 : WR Tryd.prog 51 u39_11 (rE u39_11r [0, 5, 7, 8, 9]) := ⟨mkE⟩
instance i39_10 : WR Tryd.prog 51 u39_10 (rCE (.t 17) u39_11 .skip [0, 5, 6, 7, 8, 9, 17]) := ⟨mkCE⟩
instance i39_9 : WR Tryd.prog 51 u39_9 (rS u39_9r u39_10 [0, 5, 6, 7, 8, 9]) := ⟨mkS⟩
instance i39_15 : WR Tryd.prog 51 u39_15 (rCE (.t 23) .skip (.exit 2) [0, 6, 7, 8, 9, 23]) := ⟨mkCE⟩
instance i39_14 : WR Tryd.prog 51 u39_14 (rS u39_14r u39_15 [0, 6, 7, 8, 9]) := ⟨mkS⟩
instance i39_17 : WR Tryd.prog 51 u39_17 (rE u39_17r [0, 6, 7, 8, 9]) := ⟨mkE⟩
instance i39_18 : WR Tryd.prog 51 u39_18 (rE u39_18r [0, 6, 7, 8, 9]) := ⟨mkE⟩
instance i39_16 : WR Tryd.prog 51 u39_16 (rB 3 u39_17 u39_18 [0, 6, 7, 8, 9]) := ⟨mkB⟩
instance i39_13 : WR Tryd.prog 51 u39_13 (rQ u39_14 u39_16 [0, 6, 7, 8, 9]) := ⟨mkQ⟩
instance i39_19 : WR Tryd.prog 51 u39_19 (rE u39_19r [0, 6, 7, 8, 9]) := ⟨mkE⟩
instance i39_12 : WR Tryd.prog 51 u39_12 (rB 2 (.loop u39_13) u39_19 [0, 6, 7, 8, 9]) := ⟨mkB⟩
instance i39_8 : WR Tryd.prog 51 u39_8 (rQ u39_9 u39_12 [0, 5, 6, 7, 8, 9]) := ⟨mkQ⟩
instance i39_7 : WR Tryd.prog 51 u39_7 (rS u39_7r u39_8 [0, 5, 7, 8, 9]) := ⟨mkS⟩
instance i39_6 : WR Tryd.prog 51 u39_6 (rS u39_6r u39_7 [0, 7, 8, 9]) := ⟨mkS⟩
instance i39_20 : WR Tryd.prog 51 u39_20 (rE u39_20r [0, 7, 8, 9]) := ⟨mkE⟩
instance i39_5 : WR Tryd.prog 51 u39_5 (rB 1 u39_6 u39_20 [0, 7, 8, 9]) := ⟨mkB⟩
instance i39_4 : WR Tryd.prog 51 u39_4 (rC (.t 10) .skip (.exit 0) u39_5 [0, 7, 8, 9, 10]) := ⟨mkC⟩
instance i39_3 : WR Tryd.prog 51 u39_3 (rS u39_3r u39_4 [0, 7, 8, 9]) := ⟨mkS⟩
instance i39_2 : WR Tryd.prog 51 u39_2 (rBE 0 (.loop u39_3) [0, 7, 8, 9]) := ⟨mkBE⟩
instance i39_1 : WR Tryd.prog 51 u39_1 (rS u39_1r u39_2 [0, 1]) := ⟨mkS⟩
attribute [go_sem] u39_11r u39_9r u39_14r u39_17r u39_18r u39_19r u39_7r u39_6r u39_20r u39_3r u39_1r
noncomputable section
def u19_6r : List IOper := [⟨some 16, .pur (.mv (.t 4)), none⟩, ⟨some 2, .pur (.mv (.k (.string ⟨#[]⟩))), none⟩, ⟨some 3, .pur (.mv (.t 16)), none⟩]
def u19_6 : IC := .seq (.reg u19_6r) .ret
def u19_5 : IC := .cond (.t 15) u19_6 .skip
def u19_4r : List IOper := [⟨some 14, .pur (.mv (.t 4)), none⟩, ⟨some 15, .pur (.bin .neq (.t 14) (.k (.int .i64 0))), none⟩]
def u19_4 : IC := .seq (.reg u19_4r) u19_5
def u19_3r : List IOper := [⟨some 12, .pur (.ld 7 true (.t 1)), none⟩, ⟨some 13, .call 14 [.t 12], none⟩, ⟨some 4, .pur (.mv (.t 13)), none⟩]
def u19_3 : IC := .seq (.reg u19_3r) u19_4
def u19_16r : List IOper := [⟨some 32, .pur (.mv (.t 5)), none⟩, ⟨some 33, .pur (.fad 0 (.t 7)), none⟩, ⟨some 34, .pur (.ld 1 false (.t 33)), none⟩, ⟨some 35, .pur (.fad 1 (.t 7)), none⟩, ⟨some 36, .pur (.ld 1 false (.t 35)), none⟩, ⟨some 37, .new (.bsl 1 2 #[.int .i64 0] [(0, .t 34), (1, .t 36)]), none⟩, ⟨some 38, .call 39 [.t 32, .t 37], none⟩]
def u19_16 : IC := .reg u19_16r
def u19_15r : List IOper := [⟨some 30, .pur (.iad 2 (.t 26) (.t 28)), none⟩, ⟨some 31, .pur (.ld 2 true (.t 30)), none⟩, ⟨some 7, .new (.box (.k (.agg #[.int .i64 0, .int .i64 0]))), none⟩, ⟨none, .eff (.st 2 (.t 7) (.t 31)), none⟩]
def u19_15 : IC := .seq (.reg u19_15r) u19_16
def u19_17r : List IOper := [⟨some 39, .pur (.bin .add (.t 28) (.k (.int .i64 1))), none⟩, ⟨some 28, .pur (.mv (.t 39)), none⟩]
def u19_17 : IC := .reg u19_17r
def u19_14 : IC := .seq (.blk 1 u19_15) u19_17
def u19_13 : IC := .seq (.cond (.t 29) .skip (.exit 0)) u19_14
def u19_12r : List IOper := [⟨some 29, .pur (.bin .lss (.t 28) (.t 27)), none⟩]
def u19_12 : IC := .seq (.reg u19_12r) u19_13
def u19_11 : IC := .blk 0 (.loop u19_12)
def u19_10r : List IOper := [⟨some 25, .pur (.fad 0 (.t 1)), none⟩, ⟨some 26, .pur (.ld 1 false (.t 25)), none⟩, ⟨some 27, .pur (.len (.t 26)), none⟩, ⟨some 28, .pur (.mv (.k (.int .i64 0))), none⟩]
def u19_10 : IC := .seq (.reg u19_10r) u19_11
def u19_27r : List IOper := [⟨some 58, .pur (.mv (.t 5)), none⟩, ⟨some 59, .pur (.mv (.t 5)), none⟩, ⟨some 60, .pur (.nck (.t 59)), none⟩, ⟨some 61, .pur (.fad 0 (.t 60)), none⟩, ⟨some 62, .pur (.ld 1 false (.t 61)), none⟩, ⟨some 63, .pur (.mv (.t 9)), none⟩, ⟨some 64, .eff (.apps (.t 62) (.t 63)), none⟩, ⟨some 65, .pur (.nck (.t 58)), none⟩, ⟨some 66, .pur (.fad 0 (.t 65)), none⟩, ⟨none, .eff (.st 1 (.t 66) (.t 64)), none⟩]
def u19_27 : IC := .reg u19_27r
def u19_26r : List IOper := [⟨some 53, .pur (.mv (.t 5)), none⟩, ⟨some 54, .pur (.mv (.t 9)), none⟩, ⟨some 55, .pur (.lens (.t 54)), none⟩, ⟨some 56, .new (.bsl 1 1 #[.int .i64 0] [(0, .t 55)]), none⟩, ⟨some 57, .call 39 [.t 53, .t 56], none⟩]
def u19_26 : IC := .seq (.reg u19_26r) u19_27
def u19_25r : List IOper := [⟨some 51, .pur (.iad 1 (.t 47) (.t 49)), none⟩, ⟨some 52, .pur (.ld 1 false (.t 51)), none⟩, ⟨some 9, .pur (.mv (.t 52)), none⟩]
def u19_25 : IC := .seq (.reg u19_25r) u19_26
def u19_28r : List IOper := [⟨some 67, .pur (.bin .add (.t 49) (.k (.int .i64 1))), none⟩, ⟨some 49, .pur (.mv (.t 67)), none⟩]
def u19_28 : IC := .reg u19_28r
def u19_24 : IC := .seq (.blk 3 u19_25) u19_28
def u19_23 : IC := .seq (.cond (.t 50) .skip (.exit 2)) u19_24
def u19_22r : List IOper := [⟨some 50, .pur (.bin .lss (.t 49) (.t 48)), none⟩]
def u19_22 : IC := .seq (.reg u19_22r) u19_23
def u19_21 : IC := .blk 2 (.loop u19_22)
def u19_20r : List IOper := [⟨some 46, .pur (.fad 1 (.t 1)), none⟩, ⟨some 47, .pur (.ld 1 false (.t 46)), none⟩, ⟨some 48, .pur (.len (.t 47)), none⟩, ⟨some 49, .pur (.mv (.k (.int .i64 0))), none⟩]
def u19_20 : IC := .seq (.reg u19_20r) u19_21
def u19_37r : List IOper := [⟨some 81, .pur (.mv (.t 5)), none⟩, ⟨some 82, .pur (.fad 0 (.t 11)), none⟩, ⟨some 83, .pur (.ld 1 false (.t 82)), none⟩, ⟨some 84, .pur (.fad 1 (.t 11)), none⟩, ⟨some 85, .pur (.ld 1 false (.t 84)), none⟩, ⟨some 86, .pur (.fad 2 (.t 11)), none⟩, ⟨some 87, .pur (.ld 1 false (.t 86)), none⟩, ⟨some 88, .pur (.fad 3 (.t 11)), none⟩, ⟨some 89, .pur (.ld 1 false (.t 88)), none⟩, ⟨some 90, .new (.bsl 1 4 #[.int .i64 0] [(0, .t 83), (1, .t 85), (2, .t 87), (3, .t 89)]), none⟩, ⟨some 91, .call 39 [.t 81, .t 90], none⟩]
def u19_37 : IC := .reg u19_37r
def u19_36r : List IOper := [⟨some 79, .pur (.iad 4 (.t 75) (.t 77)), none⟩, ⟨some 80, .pur (.ld 4 true (.t 79)), none⟩, ⟨some 11, .new (.box (.k (.agg #[.int .i64 0, .int .i64 0, .int .i64 0, .int .i64 0]))), none⟩, ⟨none, .eff (.st 4 (.t 11) (.t 80)), none⟩]
def u19_36 : IC := .seq (.reg u19_36r) u19_37
def u19_38r : List IOper := [⟨some 92, .pur (.bin .add (.t 77) (.k (.int .i64 1))), none⟩, ⟨some 77, .pur (.mv (.t 92)), none⟩]
def u19_38 : IC := .reg u19_38r
def u19_35 : IC := .seq (.blk 5 u19_36) u19_38
def u19_34 : IC := .seq (.cond (.t 78) .skip (.exit 4)) u19_35
def u19_33r : List IOper := [⟨some 78, .pur (.bin .lss (.t 77) (.t 76)), none⟩]
def u19_33 : IC := .seq (.reg u19_33r) u19_34
def u19_32 : IC := .blk 4 (.loop u19_33)
def u19_31r : List IOper := [⟨some 74, .pur (.fad 2 (.t 1)), none⟩, ⟨some 75, .pur (.ld 1 false (.t 74)), none⟩, ⟨some 76, .pur (.len (.t 75)), none⟩, ⟨some 77, .pur (.mv (.k (.int .i64 0))), none⟩]
def u19_31 : IC := .seq (.reg u19_31r) u19_32
def u19_44r : List IOper := [⟨some 120, .pur (.mv (.t 5)), none⟩, ⟨some 121, .pur (.nck (.t 120)), none⟩, ⟨some 122, .pur (.fad 0 (.t 121)), none⟩, ⟨some 123, .pur (.ld 1 false (.t 122)), none⟩, ⟨some 124, .pur (.cvbs (.t 123)), none⟩, ⟨some 2, .pur (.mv (.t 124)), none⟩, ⟨some 3, .pur (.mv (.k (.int .i64 0))), none⟩]
def u19_44 : IC := .seq (.reg u19_44r) .ret
def u19_43r : List IOper := [⟨some 113, .pur (.mv (.t 5)), none⟩, ⟨some 114, .pur (.fad 5 (.t 1)), none⟩, ⟨some 115, .pur (.ld 1 false (.t 114)), none⟩, ⟨some 116, .pur (.fad 6 (.t 1)), none⟩, ⟨some 117, .pur (.ld 1 false (.t 116)), none⟩, ⟨some 118, .new (.bsl 1 2 #[.int .i64 0] [(0, .t 115), (1, .t 117)]), none⟩, ⟨some 119, .call 39 [.t 113, .t 118], none⟩]
def u19_43 : IC := .seq (.reg u19_43r) u19_44
def u19_42r : List IOper := [⟨some 109, .pur (.mv (.t 5)), none⟩, ⟨some 110, .pur (.fad 4 (.t 1)), none⟩, ⟨some 111, .pur (.ld 1 false (.t 110)), none⟩, ⟨some 112, .call 39 [.t 109, .t 111], none⟩]
def u19_42 : IC := .seq (.reg u19_42r) u19_43
def u19_41r : List IOper := [⟨some 103, .pur (.mv (.t 5)), none⟩, ⟨some 104, .pur (.fad 4 (.t 1)), none⟩, ⟨some 105, .pur (.ld 1 false (.t 104)), none⟩, ⟨some 106, .pur (.len (.t 105)), none⟩, ⟨some 107, .new (.bsl 1 1 #[.int .i64 0] [(0, .t 106)]), none⟩, ⟨some 108, .call 39 [.t 103, .t 107], none⟩]
def u19_41 : IC := .seq (.reg u19_41r) u19_42
def u19_40r : List IOper := [⟨some 99, .pur (.mv (.t 5)), none⟩, ⟨some 100, .pur (.fad 3 (.t 1)), none⟩, ⟨some 101, .pur (.ld 1 false (.t 100)), none⟩, ⟨some 102, .call 39 [.t 99, .t 101], none⟩]
def u19_40 : IC := .seq (.reg u19_40r) u19_41
def u19_39r : List IOper := [⟨some 93, .pur (.mv (.t 5)), none⟩, ⟨some 94, .pur (.fad 3 (.t 1)), none⟩, ⟨some 95, .pur (.ld 1 false (.t 94)), none⟩, ⟨some 96, .pur (.len (.t 95)), none⟩, ⟨some 97, .new (.bsl 1 1 #[.int .i64 0] [(0, .t 96)]), none⟩, ⟨some 98, .call 39 [.t 93, .t 97], none⟩]
def u19_39 : IC := .seq (.reg u19_39r) u19_40
def u19_30 : IC := .seq u19_31 u19_39
def u19_29r : List IOper := [⟨some 68, .pur (.mv (.t 5)), none⟩, ⟨some 69, .pur (.fad 2 (.t 1)), none⟩, ⟨some 70, .pur (.ld 1 false (.t 69)), none⟩, ⟨some 71, .pur (.len (.t 70)), none⟩, ⟨some 72, .new (.bsl 1 1 #[.int .i64 0] [(0, .t 71)]), none⟩, ⟨some 73, .call 39 [.t 68, .t 72], none⟩]
def u19_29 : IC := .seq (.reg u19_29r) u19_30
def u19_19 : IC := .seq u19_20 u19_29
def u19_18r : List IOper := [⟨some 40, .pur (.mv (.t 5)), none⟩, ⟨some 41, .pur (.fad 1 (.t 1)), none⟩, ⟨some 42, .pur (.ld 1 false (.t 41)), none⟩, ⟨some 43, .pur (.len (.t 42)), none⟩, ⟨some 44, .new (.bsl 1 1 #[.int .i64 0] [(0, .t 43)]), none⟩, ⟨some 45, .call 39 [.t 40, .t 44], none⟩]
def u19_18 : IC := .seq (.reg u19_18r) u19_19
def u19_9 : IC := .seq u19_10 u19_18
def u19_8r : List IOper := [⟨some 19, .pur (.mv (.t 5)), none⟩, ⟨some 20, .pur (.fad 0 (.t 1)), none⟩, ⟨some 21, .pur (.ld 1 false (.t 20)), none⟩, ⟨some 22, .pur (.len (.t 21)), none⟩, ⟨some 23, .new (.bsl 1 1 #[.int .i64 0] [(0, .t 22)]), none⟩, ⟨some 24, .call 39 [.t 19, .t 23], none⟩]
def u19_8 : IC := .seq (.reg u19_8r) u19_9
def u19_7r : List IOper := [⟨some 17, .pur (.bld #[.slice none 0 0] [(0, 1)] []), none⟩, ⟨some 18, .new (.box (.t 17)), none⟩, ⟨some 5, .pur (.mv (.t 18)), none⟩]
def u19_7 : IC := .seq (.reg u19_7r) u19_8
def u19_2 : IC := .seq u19_3 u19_7
def u19_1r : List IOper := [⟨some 1, .new (.box (.t 0)), none⟩, ⟨some 2, .pur (.mv (.k (.string ⟨#[]⟩))), none⟩, ⟨some 3, .pur (.mv (.k (.int .i64 0))), none⟩]
def u19_1 : IC := .seq (.reg u19_1r) u19_2
def u19 : IFn := ⟨125, u19_1, [.tmp 2, .tmp 3]⟩
end
theorem isU19 : IsFn Tryd.prog 19 u19 := by unfold IsFn; kernel_rfl
instance i19_6 : WR Tryd.prog 125 u19_6 (rS u19_6r .ret [4]) := ⟨mkS⟩
instance i19_5 : WR Tryd.prog 125 u19_5 (rCE (.t 15) u19_6 .skip [1, 4, 15]) := ⟨mkCE⟩
instance i19_4 : WR Tryd.prog 125 u19_4 (rS u19_4r u19_5 [1, 4]) := ⟨mkS⟩
instance i19_3 : WR Tryd.prog 125 u19_3 (rS u19_3r u19_4 [1]) := ⟨mkS⟩
instance i19_16 : WR Tryd.prog 125 u19_16 (rE u19_16r [1, 5, 7, 26, 27, 28]) := ⟨mkE⟩
instance i19_15 : WR Tryd.prog 125 u19_15 (rS u19_15r u19_16 [1, 5, 26, 27, 28]) := ⟨mkS⟩
instance i19_17 : WR Tryd.prog 125 u19_17 (rE u19_17r [1, 5, 26, 27, 28]) := ⟨mkE⟩
instance i19_14 : WR Tryd.prog 125 u19_14 (rB 1 u19_15 u19_17 [1, 5, 26, 27, 28]) := ⟨mkB⟩
instance i19_13 : WR Tryd.prog 125 u19_13 (rC (.t 29) .skip (.exit 0) u19_14 [1, 5, 26, 27, 28, 29]) := ⟨mkC⟩
instance i19_12 : WR Tryd.prog 125 u19_12 (rS u19_12r u19_13 [1, 5, 26, 27, 28]) := ⟨mkS⟩
instance i19_11 : WR Tryd.prog 125 u19_11 (rBE 0 (.loop u19_12) [1, 5, 26, 27, 28]) := ⟨mkBE⟩
instance i19_10 : WR Tryd.prog 125 u19_10 (rS u19_10r u19_11 [1, 5]) := ⟨mkS⟩
instance i19_27 : WR Tryd.prog 125 u19_27 (rE u19_27r [1, 5, 9, 47, 48, 49]) := ⟨mkE⟩
instance i19_26 : WR Tryd.prog 125 u19_26 (rS u19_26r u19_27 [1, 5, 9, 47, 48, 49]) := ⟨mkS⟩
instance i19_25 : WR Tryd.prog 125 u19_25 (rS u19_25r u19_26 [1, 5, 47, 48, 49]) := ⟨mkS⟩
instance i19_28 : WR Tryd.prog 125 u19_28 (rE u19_28r [1, 5, 47, 48, 49]) := ⟨mkE⟩
instance i19_24 : WR Tryd.prog 125 u19_24 (rB 3 u19_25 u19_28 [1, 5, 47, 48, 49]) := ⟨mkB⟩
instance i19_23 : WR Tryd.prog 125 u19_23 (rC (.t 50) .skip (.exit 2) u19_24 [1, 5, 47, 48, 49, 50]) := ⟨mkC⟩
instance i19_22 : WR Tryd.prog 125 u19_22 (rS u19_22r u19_23 [1, 5, 47, 48, 49]) := ⟨mkS⟩
instance i19_21 : WR Tryd.prog 125 u19_21 (rBE 2 (.loop u19_22) [1, 5, 47, 48, 49]) := ⟨mkBE⟩
instance i19_20 : WR Tryd.prog 125 u19_20 (rS u19_20r u19_21 [1, 5]) := ⟨mkS⟩
instance i19_37 : WR Tryd.prog 125 u19_37 (rE u19_37r [1, 5, 11, 75, 76, 77]) := ⟨mkE⟩
instance i19_36 : WR Tryd.prog 125 u19_36 (rS u19_36r u19_37 [1, 5, 75, 76, 77]) := ⟨mkS⟩
instance i19_38 : WR Tryd.prog 125 u19_38 (rE u19_38r [1, 5, 75, 76, 77]) := ⟨mkE⟩
instance i19_35 : WR Tryd.prog 125 u19_35 (rB 5 u19_36 u19_38 [1, 5, 75, 76, 77]) := ⟨mkB⟩
instance i19_34 : WR Tryd.prog 125 u19_34 (rC (.t 78) .skip (.exit 4) u19_35 [1, 5, 75, 76, 77, 78]) := ⟨mkC⟩
instance i19_33 : WR Tryd.prog 125 u19_33 (rS u19_33r u19_34 [1, 5, 75, 76, 77]) := ⟨mkS⟩
instance i19_32 : WR Tryd.prog 125 u19_32 (rBE 4 (.loop u19_33) [1, 5, 75, 76, 77]) := ⟨mkBE⟩
instance i19_31 : WR Tryd.prog 125 u19_31 (rS u19_31r u19_32 [1, 5]) := ⟨mkS⟩
instance i19_44 : WR Tryd.prog 125 u19_44 (rS u19_44r .ret [5]) := ⟨mkS⟩
instance i19_43 : WR Tryd.prog 125 u19_43 (rS u19_43r u19_44 [1, 5]) := ⟨mkS⟩
instance i19_42 : WR Tryd.prog 125 u19_42 (rS u19_42r u19_43 [1, 5]) := ⟨mkS⟩
instance i19_41 : WR Tryd.prog 125 u19_41 (rS u19_41r u19_42 [1, 5]) := ⟨mkS⟩
instance i19_40 : WR Tryd.prog 125 u19_40 (rS u19_40r u19_41 [1, 5]) := ⟨mkS⟩
instance i19_39 : WR Tryd.prog 125 u19_39 (rS u19_39r u19_40 [1, 5]) := ⟨mkS⟩
instance i19_30 : WR Tryd.prog 125 u19_30 (rQ u19_31 u19_39 [1, 5]) := ⟨mkQ⟩
instance i19_29 : WR Tryd.prog 125 u19_29 (rS u19_29r u19_30 [1, 5]) := ⟨mkS⟩
instance i19_19 : WR Tryd.prog 125 u19_19 (rQ u19_20 u19_29 [1, 5]) := ⟨mkQ⟩
instance i19_18 : WR Tryd.prog 125 u19_18 (rS u19_18r u19_19 [1, 5]) := ⟨mkS⟩
instance i19_9 : WR Tryd.prog 125 u19_9 (rQ u19_10 u19_18 [1, 5]) := ⟨mkQ⟩
instance i19_8 : WR Tryd.prog 125 u19_8 (rS u19_8r u19_9 [1, 5]) := ⟨mkS⟩
instance i19_7 : WR Tryd.prog 125 u19_7 (rS u19_7r u19_8 [1]) := ⟨mkS⟩
instance i19_2 : WR Tryd.prog 125 u19_2 (rQ u19_3 u19_7 [1]) := ⟨mkQ⟩
instance i19_1 : WR Tryd.prog 125 u19_1 (rS u19_1r u19_2 [0]) := ⟨mkS⟩
attribute [go_sem] u19_6r u19_4r u19_3r u19_16r u19_15r u19_17r u19_12r u19_10r u19_27r u19_26r u19_25r u19_28r u19_22r u19_20r u19_37r u19_36r u19_38r u19_33r u19_31r u19_44r u19_43r u19_42r u19_41r u19_40r u19_39r u19_29r u19_18r u19_8r u19_7r u19_1r
theorem c_put (c : Prg) (bs : List UInt8) (o : Option Nat) (cc : Nat) (l : List Int) (h2 : 2 ≤ cc) (hn : o = none → bs = []) (hs : ∀ i, o = some i → 2 ≤ i ∧ i < cc) (hl : ∀ n ∈ l, Sm n) (hl1 : l.length ≤ 100000) (hl2 : bs.length ≤ 100000000) :
    AC Tryd.prog 39 [.ptr 1 0, ints l] (EH c o bs) cc (fun v H' c' => ∃ o', H' = EH c o' (bs ++ l.flatMap numI) ∧ (o' = none → bs ++ l.flatMap numI = []) ∧ (∀ i, o' = some i → 2 ≤ i ∧ i < c')) := by
  refine AC.body mixedU isU39 (Nat.le_of_ble_eq_true rfl) fun hfr => ?_
  show IW Tryd.prog 51 u39_1 ⟨argT _, _, _⟩ (rt [] _)
  repeat' ((first | (with_reducible first | refine wr ?_ | refine i_ret ?_ | refine i_skip ?_ | refine i_exit ?_) | ((with_reducible first | refine k_cb ?_ ?_ | refine k_gb ?_ ?_ | refine k_gb' ?_ ?_) <;> (intro hb; try simp only [hb]))) <;> try simp only [go_sem, Nat.reduceAdd, Nat.reduceLeDiff, Nat.reduceEqDiff, Nat.reduceMul, Nat.reduceSub, ↓reduceIte, Int.reduceLT, Int.reduceLE, Int.reduceGT, Int.reduceGE, Nat.reduceLT, Nat.reduceGT, Int.reduceToNat, reduceCtorEq, Nat.reduceBEq, Int.reduceBEq, Int.reduceBNe, Int.reduceEq, Int.reduceNe, decide_true, decide_false])
  refine i_loop (fun q : Nat × Option Nat => [(0, .ptr 1 0), (7, ints l), (8, I64 l.length), (9, I64 q.1)]) (fun q => EH c q.2 (bs ++ (l.take q.1).flatMap numI)) (fun q cc => 2 ≤ cc ∧ q.1 ≤ l.length ∧ (q.2 = none → bs ++ (l.take q.1).flatMap numI = []) ∧ ∀ i, q.2 = some i → 2 ≤ i ∧ i < cc) (fun q => l.length - q.1) (0, o)
    (by simp [tmLe, tm, Tm.upd]) (by simpa using Sub.refl _) ⟨h2, by simp, by simpa using hn, hs⟩ ?_
  clear h2 hn hs
  rintro ⟨k, o⟩ cc ⟨h2, hk, hn, hs⟩
  simp only at hk hn hs
  by_cases hlt : k < l.length
  · have hd : decide ((k : Int) < l.length) = true := by simpa using hlt
    have hg := List.getElem?_eq_getElem hlt
    have hw := w64 (n := (k : Int) + 1) (by omega) (by omega)
    have hx := hl _ (List.getElem_mem hlt)
    have hz := zig_lt hx.1 hx.2
    have q2 := flat_take numI 10 l (fun x hx => numI_len (hl x hx)) k
    have q3 := numI_len hx
    have hsgn : (decide (l[k] < 0) = true ∧ IntKind.u64.wrap (IntKind.i64.wrap (IntKind.i64.wrap (-2 * l[k]) - 1)) = (zig l[k] : Int)) ∨ (decide (l[k] < 0) = false ∧ IntKind.u64.wrap (IntKind.i64.wrap (2 * l[k])) = (zig l[k] : Int)) := by
      by_cases h0 : l[k] < 0
      · exact .inl ⟨by simpa using h0, zigP_neg h0 hx.1⟩
      · exact .inr ⟨by simpa using h0, zigP_pos (by omega) hx.2⟩
    rcases hsgn with ⟨hd0, hzz⟩ | ⟨hd0, hzz⟩
    all_goals
      repeat' ((first | (with_reducible first | refine wr ?_ | refine i_ret ?_ | refine i_skip ?_ | refine i_exit ?_) | ((with_reducible first | refine k_cb ?_ ?_ | refine k_gb ?_ ?_ | refine k_gb' ?_ ?_) <;> (intro hb; try simp only [hb]))) <;> try simp only [go_sem, Nat.reduceAdd, Nat.reduceLeDiff, Nat.reduceEqDiff, Nat.reduceMul, Nat.reduceSub, ↓reduceIte, Int.reduceLT, Int.reduceLE, Int.reduceGT, Int.reduceGE, Nat.reduceLT, Nat.reduceGT, Int.reduceToNat, reduceCtorEq, Nat.reduceBEq, Int.reduceBEq, Int.reduceBNe, Int.reduceEq, Int.reduceNe, decide_true, decide_false, hd, hg, hw, hd0, hzz])
    all_goals
      refine i_loop (fun q : Nat × List UInt8 × Option Nat => [(0, .ptr 1 0), (6, .int .u64 (q.1 : Int)), (7, ints l), (8, I64 l.length), (9, I64 k)]) (fun q => EH c q.2.2 q.2.1)
        (fun q cc => 2 ≤ cc ∧ q.1 < 18446744073709551616 ∧ (q.2.2 = none → q.2.1 = []) ∧ (∀ i, q.2.2 = some i → 2 ≤ i ∧ i < cc) ∧ q.2.1 ++ numB q.1 = bs ++ (l.take k).flatMap numI ++ numI l[k]) (fun q => q.1) (zig l[k], bs ++ (l.take k).flatMap numI, o) ⟨rfl, rfl, rfl, rfl, rfl, trivial⟩ (Sub.refl _) ⟨h2, hz, hn, hs, rfl⟩ ?_
      clear hd0 hzz h2 hn hs hz o cc
      rintro ⟨z, pre, o⟩ cc ⟨h2, hz, hn, hs, he⟩
      simp only at hz hn hs he
      have hlen : pre.length + (numB z).length ≤ 200000000 := by
        rw [← List.length_append, he]
        simp only [List.length_append]; omega
      by_cases hb : z < 128
      · have hd1 : decide ((z : Int) > 127) = false := by simp; omega
        rw [numB_lt hb] at he hlen
        have hlo := byte_lo hb
        have hfin : bs ++ (l.take (k + 1)).flatMap numI = pre ++ [UInt8.ofNat z] := by rw [flat_step numI hg, ← List.append_assoc, ← he]
        rcases o with _ | id
        · obtain rfl := hn rfl
          have ne0 : ¬ 0 = cc := by omega
          have ne1 : ¬ 0 = cc + 1 := by omega
          have ne2 : ¬ 1 = cc := by omega
          have ne3 : ¬ 1 = cc + 1 := by omega
          have ne4 : ¬ cc = 0 := by omega
          have ne5 : ¬ cc = 1 := by omega
          have ne6 : ¬ cc = cc + 1 := by omega
          have ne7 : ¬ cc + 1 = 0 := by omega
          have ne8 : ¬ cc + 1 = 1 := by omega
          have ne9 : ¬ cc + 1 = cc := by omega
          repeat' ((first | (with_reducible first | refine wr ?_ | refine i_ret ?_ | refine i_skip ?_ | refine i_exit ?_) | ((with_reducible first | refine k_cb ?_ ?_ | refine k_gb ?_ ?_ | refine k_gb' ?_ ?_) <;> (intro hb; try simp only [hb])) | ((with_reducible refine k_eval (r_appn' (by decide) (by decide) (by decide)) ?_))) <;> try simp only [go_sem, Nat.reduceAdd, Nat.reduceLeDiff, Nat.reduceEqDiff, Nat.reduceMul, Nat.reduceSub, ↓reduceIte, Int.reduceLT, Int.reduceLE, Int.reduceGT, Int.reduceGE, Nat.reduceLT, Nat.reduceGT, Int.reduceToNat, reduceCtorEq, Nat.reduceBEq, Int.reduceBEq, Int.reduceBNe, Int.reduceEq, Int.reduceNe, decide_true, decide_false, hd1, hlo, hw, EH, optH, ne0, ne1, ne2, ne3, ne4, ne5, ne6, ne7, ne8, ne9])
          exact ⟨(k + 1, some (cc + 1)), rfl, by simp only [hfin, EH, optH, todoV, bytesC_app, List.length_append, List.length_singleton]; (intro j b hj; simp only [Hp.upd, Hp.del, Sym.nil, baseH, optH, EH] at hj ⊢; (repeat' split at hj) <;> (repeat' split) <;> first | exact hj | (exfalso; omega) | cases hj), inv ⟨by omega, hlt, by simp, fun i hi => by cases hi; omega⟩, by simp only; omega⟩
        · obtain ⟨i1, i2⟩ := hs id rfl
          simp only [List.length_singleton] at hlen
          have ne0 : ¬ 0 = id := by omega
          have ne1 : ¬ 0 = cc := by omega
          have ne2 : ¬ 0 = cc + 1 := by omega
          have ne3 : ¬ 1 = id := by omega
          have ne4 : ¬ 1 = cc := by omega
          have ne5 : ¬ 1 = cc + 1 := by omega
          have ne6 : ¬ id = 0 := by omega
          have ne7 : ¬ id = 1 := by omega
          have ne8 : ¬ id = cc := by omega
          have ne9 : ¬ id = cc + 1 := by omega
          have ne10 : ¬ cc = 0 := by omega
          have ne11 : ¬ cc = 1 := by omega
          have ne12 : ¬ cc = id := by omega
          have ne13 : ¬ cc = cc + 1 := by omega
          have ne14 : ¬ cc + 1 = 0 := by omega
          have ne15 : ¬ cc + 1 = 1 := by omega
          have ne16 : ¬ cc + 1 = id := by omega
          have ne17 : ¬ cc + 1 = cc := by omega
          repeat' ((first | (with_reducible first | refine wr ?_ | refine i_ret ?_ | refine i_skip ?_ | refine i_exit ?_) | ((with_reducible first | refine k_cb ?_ ?_ | refine k_gb ?_ ?_ | refine k_gb' ?_ ?_) <;> (intro hb; try simp only [hb])) | ((with_reducible refine k_eval (b_appx (bytesC_len1 _) (by omega) (by omega)) ?_))) <;> try simp only [go_sem, Nat.reduceAdd, Nat.reduceLeDiff, Nat.reduceEqDiff, Nat.reduceMul, Nat.reduceSub, ↓reduceIte, Int.reduceLT, Int.reduceLE, Int.reduceGT, Int.reduceGE, Nat.reduceLT, Nat.reduceGT, Int.reduceToNat, reduceCtorEq, Nat.reduceBEq, Int.reduceBEq, Int.reduceBNe, Int.reduceEq, Int.reduceNe, decide_true, decide_false, hd1, hlo, hw, EH, optH, ne0, ne1, ne2, ne3, ne4, ne5, ne6, ne7, ne8, ne9, ne10, ne11, ne12, ne13, ne14, ne15, ne16, ne17])
          exact ⟨(k + 1, some (cc + 1)), rfl, by simp only [hfin, EH, optH, todoV, bytesC_app, List.length_append, List.length_singleton]; (intro j b hj; simp only [Hp.upd, Hp.del, Sym.nil, baseH, optH, EH] at hj ⊢; (repeat' split at hj) <;> (repeat' split) <;> first | exact hj | (exfalso; omega) | cases hj), inv ⟨by omega, hlt, by simp, fun i hi => by cases hi; omega⟩, by simp only; omega⟩
      have hd1 : decide ((z : Int) > 127) = true := by simp; omega
      rw [numB_ge hb] at he hlen
      have hhi := byte_hi' z
      have hq := quo128 hz
      rcases o with _ | id
      · obtain rfl := hn rfl
        have ne0 : ¬ 0 = cc := by omega
        have ne1 : ¬ 0 = cc + 1 := by omega
        have ne2 : ¬ 1 = cc := by omega
        have ne3 : ¬ 1 = cc + 1 := by omega
        have ne4 : ¬ cc = 0 := by omega
        have ne5 : ¬ cc = 1 := by omega
        have ne6 : ¬ cc = cc + 1 := by omega
        have ne7 : ¬ cc + 1 = 0 := by omega
        have ne8 : ¬ cc + 1 = 1 := by omega
        have ne9 : ¬ cc + 1 = cc := by omega
        repeat' ((first | (with_reducible first | refine wr ?_ | refine i_ret ?_ | refine i_skip ?_ | refine i_exit ?_) | ((with_reducible first | refine k_cb ?_ ?_ | refine k_gb ?_ ?_ | refine k_gb' ?_ ?_) <;> (intro hb; try simp only [hb])) | ((with_reducible refine k_eval (r_appn' (by decide) (by decide) (by decide)) ?_))) <;> try simp only [go_sem, Nat.reduceAdd, Nat.reduceLeDiff, Nat.reduceEqDiff, Nat.reduceMul, Nat.reduceSub, ↓reduceIte, Int.reduceLT, Int.reduceLE, Int.reduceGT, Int.reduceGE, Nat.reduceLT, Nat.reduceGT, Int.reduceToNat, reduceCtorEq, Nat.reduceBEq, Int.reduceBEq, Int.reduceBNe, Int.reduceEq, Int.reduceNe, decide_true, decide_false, hd1, hhi, hq, r_rem, r_quo, EH, optH, ne0, ne1, ne2, ne3, ne4, ne5, ne6, ne7, ne8, ne9])
        exact ⟨(z / 128, [] ++ [UInt8.ofNat (z % 128 + 128)], some (cc + 1)), rfl, by simp only [EH, optH, todoV, bytesC_app, List.length_append, List.length_singleton]; (intro j b hj; simp only [Hp.upd, Hp.del, Sym.nil, baseH, optH, EH] at hj ⊢; (repeat' split at hj) <;> (repeat' split) <;> first | exact hj | (exfalso; omega) | cases hj), inv ⟨by omega, by simp only; omega, by simp, fun i hi => by cases hi; omega, by simp only [List.append_assoc, List.singleton_append] at he ⊢; exact he⟩, by simp only; omega⟩
      · obtain ⟨i1, i2⟩ := hs id rfl
        simp only [List.length_cons] at hlen
        have ne0 : ¬ 0 = id := by omega
        have ne1 : ¬ 0 = cc := by omega
        have ne2 : ¬ 0 = cc + 1 := by omega
        have ne3 : ¬ 1 = id := by omega
        have ne4 : ¬ 1 = cc := by omega
        have ne5 : ¬ 1 = cc + 1 := by omega
        have ne6 : ¬ id = 0 := by omega
        have ne7 : ¬ id = 1 := by omega
        have ne8 : ¬ id = cc := by omega
        have ne9 : ¬ id = cc + 1 := by omega
        have ne10 : ¬ cc = 0 := by omega
        have ne11 : ¬ cc = 1 := by omega
        have ne12 : ¬ cc = id := by omega
        have ne13 : ¬ cc = cc + 1 := by omega
        have ne14 : ¬ cc + 1 = 0 := by omega
        have ne15 : ¬ cc + 1 = 1 := by omega
        have ne16 : ¬ cc + 1 = id := by omega
        have ne17 : ¬ cc + 1 = cc := by omega
        repeat' ((first | (with_reducible first | refine wr ?_ | refine i_ret ?_ | refine i_skip ?_ | refine i_exit ?_) | ((with_reducible first | refine k_cb ?_ ?_ | refine k_gb ?_ ?_ | refine k_gb' ?_ ?_) <;> (intro hb; try simp only [hb])) | ((with_reducible refine k_eval (b_appx (bytesC_len1 _) (by omega) (by omega)) ?_))) <;> try simp only [go_sem, Nat.reduceAdd, Nat.reduceLeDiff, Nat.reduceEqDiff, Nat.reduceMul, Nat.reduceSub, ↓reduceIte, Int.reduceLT, Int.reduceLE, Int.reduceGT, Int.reduceGE, Nat.reduceLT, Nat.reduceGT, Int.reduceToNat, reduceCtorEq, Nat.reduceBEq, Int.reduceBEq, Int.reduceBNe, Int.reduceEq, Int.reduceNe, decide_true, decide_false, hd1, hhi, hq, r_rem, r_quo, EH, optH, ne0, ne1, ne2, ne3, ne4, ne5, ne6, ne7, ne8, ne9, ne10, ne11, ne12, ne13, ne14, ne15, ne16, ne17])
        exact ⟨(z / 128, pre ++ [UInt8.ofNat (z % 128 + 128)], some (cc + 1)), rfl, by simp only [EH, optH, todoV, bytesC_app, List.length_append, List.length_singleton]; (intro j b hj; simp only [Hp.upd, Hp.del, Sym.nil, baseH, optH, EH] at hj ⊢; (repeat' split at hj) <;> (repeat' split) <;> first | exact hj | (exfalso; omega) | cases hj), inv ⟨by omega, by simp only; omega, by simp, fun i hi => by cases hi; omega, by simp only [List.append_assoc, List.singleton_append] at he ⊢; exact he⟩, by simp only; omega⟩
  have hd : decide ((k : Int) < l.length) = false := by simpa using hlt
  rw [List.take_of_length_le (by omega)] at hn
  repeat' ((first | (with_reducible first | refine wr ?_ | refine i_ret ?_ | refine i_skip ?_ | refine i_exit ?_) | ((with_reducible first | refine k_cb ?_ ?_ | refine k_gb ?_ ?_ | refine k_gb' ?_ ?_) <;> (intro hb; try simp only [hb]))) <;> try simp only [go_sem, Nat.reduceAdd, Nat.reduceLeDiff, Nat.reduceEqDiff, Nat.reduceMul, Nat.reduceSub, ↓reduceIte, Int.reduceLT, Int.reduceLE, Int.reduceGT, Int.reduceGE, Nat.reduceLT, Nat.reduceGT, Int.reduceToNat, reduceCtorEq, Nat.reduceBEq, Int.reduceBEq, Int.reduceBNe, Int.reduceEq, Int.reduceNe, decide_true, decide_false, hd])
  rw [List.take_of_length_le (by omega)]
  exact ⟨_, _, GL.refl _ _, o, rfl, hn, hs⟩
end Go.Proofs.YtcallbfckjlagaaDoor
set_option maxHeartbeats 4000000
set_option maxRecDepth 100000
set_option linter.unusedSimpArgs false
set_option linter.unusedVariables false
namespace Go.Proofs.YtcallbfckjlagaaDoor
open Go.Eng (IC IOper DReg IFn IsFn)
open Go.Sym Go.Pb
theorem c_put' (c : Prg) (bs : List UInt8) (o : Option Nat) (H : Hp) (cc x : Nat) (l : List Int) (hS : Sub (EH c o bs) H) (hx : H x = some ⟨1, true, l.map I64⟩) (h0 : 2 ≤ x) (hox : o ≠ some x) (hn : o = none → bs = []) (hs : ∀ i, o = some i → 2 ≤ i ∧ i < cc) (hcc : 2 ≤ cc) (hl : ∀ n ∈ l, Sm n) (hl1 : l.length ≤ 100000) (hl2 : bs.length ≤ 100000000) :
    AC Tryd.prog 39 [.ptr 1 0, .slc x 0 l.length] H cc (fun v H' c' => ∃ o', H' = EH c o' (bs ++ l.flatMap numI) ∧ (o' = none → bs ++ l.flatMap numI = []) ∧ (∀ i, o' = some i → 2 ≤ i ∧ i < c')) :=
  AC.ghost (g_put hS hx h0 hox) (c_put c bs o cc l hcc hn hs hl hl1 hl2)
theorem c_Encode (c : Prg) (hs : ∀ s ∈ c.strings, s.length ≤ 140737488355328) (n1 : c.instrs.length ≤ 9223372036854775807) : PC Tryd.prog 19 [c.v] (.tup [.str (encV c), I64 (validM c)]) := by
  by_cases h0 : validM c = 0
  case neg =>
    have hz : (validM c != 0) = true := by simpa using h0
    refine PC.of mixedU isU19 (Nat.le_of_ble_eq_true rfl) (by simp [DV.nlL, DV.nl, nlL_ints, nlL_strs, nlL_instrs, nlL_entries, nlL_stp]) (by simp [DV.nlL, DV.nl, nlL_ints, nlL_strs, nlL_instrs, nlL_entries, nlL_stp]) ?_
    show IW Tryd.prog 125 u19_1 ⟨argT _, _, _⟩ (rt [.tmp 2, .tmp 3] _)
    repeat' ((first | (with_reducible first | refine wr ?_ | refine i_ret ?_ | refine i_skip ?_ | refine i_exit ?_) | ((with_reducible first | refine k_cb ?_ ?_ | refine k_gb ?_ ?_ | refine k_gb' ?_ ?_) <;> (intro hb; try simp only [hb])) | ((with_reducible refine AC.call ((c_valid c hs n1).at _ _) ?_); rintro _ _ _ ⟨rfl, rfl, rfl⟩ -)) <;> try simp only [go_sem, Nat.reduceAdd, Nat.reduceLeDiff, Nat.reduceEqDiff, Nat.reduceMul, Nat.reduceSub, ↓reduceIte, Int.reduceLT, Int.reduceLE, Int.reduceGT, Int.reduceGE, Nat.reduceLT, Nat.reduceGT, Int.reduceToNat, reduceCtorEq, Nat.reduceBEq, Int.reduceBEq, Int.reduceBNe, Int.reduceEq, Int.reduceNe, decide_true, decide_false, hz])
    refine pc_ret ?_
    simp [encV, h0]
  have hz : (validM c != 0) = false := by simp [h0]
  have B := Bnd.valid h0
  obtain ⟨d1, d2, d3, d4, d5, d6, d7, d8, d9⟩ := Lim.dims (valid_all h0).1
  refine PC.of mixedU isU19 (Nat.le_of_ble_eq_true rfl) (by simp [DV.nlL, DV.nl, nlL_ints, nlL_strs, nlL_instrs, nlL_entries, nlL_stp]) (by simp [DV.nlL, DV.nl, nlL_ints, nlL_strs, nlL_instrs, nlL_entries, nlL_stp]) ?_
  show IW Tryd.prog 125 u19_1 ⟨argT _, _, _⟩ (rt [.tmp 2, .tmp 3] _)
  repeat' ((first | (with_reducible first | refine wr ?_ | refine i_ret ?_ | refine i_skip ?_ | refine i_exit ?_) | ((with_reducible first | refine k_cb ?_ ?_ | refine k_gb ?_ ?_ | refine k_gb' ?_ ?_) <;> (intro hb; try simp only [hb])) | ((with_reducible refine AC.call ((c_valid c hs n1).at _ _) ?_); rintro _ _ _ ⟨rfl, rfl, rfl⟩ -)) <;> try simp only [go_sem, Nat.reduceAdd, Nat.reduceLeDiff, Nat.reduceEqDiff, Nat.reduceMul, Nat.reduceSub, ↓reduceIte, Int.reduceLT, Int.reduceLE, Int.reduceGT, Int.reduceGE, Nat.reduceLT, Nat.reduceGT, Int.reduceToNat, reduceCtorEq, Nat.reduceBEq, Int.reduceBEq, Int.reduceBNe, Int.reduceEq, Int.reduceNe, decide_true, decide_false, hz, h0])
  have S1 : Sm (c.instrs.length : Int) := ⟨by omega, by omega⟩
  have S2 : Sm (c.strings.length : Int) := ⟨by omega, by omega⟩
  have S3 : Sm (c.entries.length : Int) := ⟨by omega, by omega⟩
  have S4 : Sm (c.prios.length : Int) := ⟨by omega, by omega⟩
  have S5 : Sm (c.vars.length : Int) := ⟨by omega, by omega⟩
  have hf6 : ∀ i ∈ c.instrs, (insB i).length ≤ 20 := fun i hi => by
    have a := numI_len (B.ins i hi).1
    have b := numI_len (B.ins i hi).2
    simp only [insB, List.length_append]; omega
  have hf7 : ∀ s ∈ c.strings, (strB s).length ≤ 42 := fun s hi => by
    have a := B.str s hi
    have b := numI_len (n := (s.length : Int)) ⟨by omega, by omega⟩
    simp only [strB, List.length_append]; omega
  have hf8 : ∀ e ∈ c.entries, (entB e).length ≤ 40 := fun e hi => by
    have a := numI_len (B.ent e hi).1
    have b := numI_len (B.ent e hi).2.1
    have d := numI_len (B.ent e hi).2.2.1
    have g := numI_len (B.ent e hi).2.2.2
    simp only [entB, List.length_append]; omega
  have L1 := numI_len S1
  have L2 := numI_len S2
  have L3 := numI_len S3
  have L4 := flat_len insB 20 c.instrs hf6
  have L5 := flat_len strB 42 c.strings hf7
  have L6 := flat_len entB 40 c.entries hf8
  refine AC.call (c_put' c [] none _ _ 2 [(c.instrs.length : Int)] ((Sub.refl _).upd _ (EH_n (by omega) (by simp))) h_same (by omega) (by simp) (fun _ => rfl) (by simp) (by omega) (by simpa using S1) (by simp) (by simp)) ?_
  rintro v H' c' ⟨o, rfl, hn, hs⟩ hcc
  have e : ([] ++ [(c.instrs.length : Int)].flatMap numI) = numI c.instrs.length := by simp
  rw [e] at hn ⊢
  simp only [go_sem, Nat.reduceAdd, Nat.reduceLeDiff, Nat.reduceEqDiff, Nat.reduceMul, Nat.reduceSub, ↓reduceIte, Int.reduceLT, Int.reduceLE, Int.reduceGT, Int.reduceGE, Nat.reduceLT, Nat.reduceGT, Int.reduceToNat, reduceCtorEq, Nat.reduceBEq, Int.reduceBEq, Int.reduceBNe, Int.reduceEq, Int.reduceNe, decide_true, decide_false]
  repeat' ((first | (with_reducible first | refine wr ?_ | refine i_ret ?_ | refine i_skip ?_ | refine i_exit ?_) | ((with_reducible first | refine k_cb ?_ ?_ | refine k_gb ?_ ?_ | refine k_gb' ?_ ?_) <;> (intro hb; try simp only [hb]))) <;> try simp only [go_sem, Nat.reduceAdd, Nat.reduceLeDiff, Nat.reduceEqDiff, Nat.reduceMul, Nat.reduceSub, ↓reduceIte, Int.reduceLT, Int.reduceLE, Int.reduceGT, Int.reduceGE, Nat.reduceLT, Nat.reduceGT, Int.reduceToNat, reduceCtorEq, Nat.reduceBEq, Int.reduceBEq, Int.reduceBNe, Int.reduceEq, Int.reduceNe, decide_true, decide_false, EH_0 hs])
  refine i_loop (fun q : Nat × Option Nat => [(1, .ptr 0 0), (5, .ptr 1 0), (26, inssV c.instrs), (27, I64 c.instrs.length), (28, I64 q.1)]) (fun q => EH c q.2 (numI c.instrs.length ++ (c.instrs.take q.1).flatMap insB)) (fun q cc => 2 ≤ cc ∧ q.1 ≤ c.instrs.length ∧ (q.2 = none → numI c.instrs.length ++ (c.instrs.take q.1).flatMap insB = []) ∧ ∀ i, q.2 = some i → 2 ≤ i ∧ i < cc) (fun q => c.instrs.length - q.1) (0, o)
    (by simp [tmLe, tm, Tm.upd]) (by simpa using Sub.refl _) ⟨by omega, by simp, by simpa using hn, hs⟩ ?_
  rintro ⟨k, o⟩ cc ⟨h2, hk, hn, hs⟩
  simp only at hk hn hs
  by_cases hlt : k < c.instrs.length
  · have hd : decide ((k : Int) < c.instrs.length) = true := by simpa using hlt
    have hg := List.getElem?_eq_getElem hlt
    have hw := w64 (n := (k : Int) + 1) (by omega) (by omega)
    have hx := B.ins _ (List.getElem_mem hlt)
    have q2 := flat_take insB 20 c.instrs hf6 k
    have ne0 : ¬ 0 = cc := by omega
    have ne1 : ¬ 0 = cc + 1 := by omega
    have ne2 : ¬ 1 = cc := by omega
    have ne3 : ¬ 1 = cc + 1 := by omega
    have ne4 : ¬ cc = 0 := by omega
    have ne5 : ¬ cc = 1 := by omega
    have ne6 : ¬ cc = cc + 1 := by omega
    have ne7 : ¬ cc + 1 = 0 := by omega
    have ne8 : ¬ cc + 1 = 1 := by omega
    have ne9 : ¬ cc + 1 = cc := by omega
    repeat' ((first | (with_reducible first | refine wr ?_ | refine i_ret ?_ | refine i_skip ?_ | refine i_exit ?_) | ((with_reducible first | refine k_cb ?_ ?_ | refine k_gb ?_ ?_ | refine k_gb' ?_ ?_) <;> (intro hb; try simp only [hb]))) <;> try simp only [go_sem, Nat.reduceAdd, Nat.reduceLeDiff, Nat.reduceEqDiff, Nat.reduceMul, Nat.reduceSub, ↓reduceIte, Int.reduceLT, Int.reduceLE, Int.reduceGT, Int.reduceGE, Nat.reduceLT, Nat.reduceGT, Int.reduceToNat, reduceCtorEq, Nat.reduceBEq, Int.reduceBEq, Int.reduceBNe, Int.reduceEq, Int.reduceNe, decide_true, decide_false, EH_0 hs, hd, hg, hw, ne0, ne1, ne2, ne3, ne4, ne5, ne6, ne7, ne8, ne9])
    have hc0 : EH c o (numI c.instrs.length ++ (c.instrs.take k).flatMap insB) cc = none := EH_n (by omega) (fun e => absurd (hs _ e).2 (by omega))
    have hc1 : EH c o (numI c.instrs.length ++ (c.instrs.take k).flatMap insB) (cc + 1) = none := EH_n (by omega) (fun e => absurd (hs _ e).2 (by omega))
    rw [h_upd2]
    refine AC.call (c_put' c _ o _ _ (cc + 1) [c.instrs[k].op, c.instrs[k].A] (((Sub.refl _).upd _ hc0).upd _ hc1) h_same (by omega) (fun e => absurd (hs _ e).2 (by omega)) hn (fun i e => ⟨(hs i e).1, by have := (hs i e).2; omega⟩) (by omega) (by simpa using hx) (by simp) (by simp only [List.length_append]; omega)) ?_
    rintro v H' c' ⟨o, rfl, hn, hs⟩ hcc
    have e : numI c.instrs.length ++ (c.instrs.take k).flatMap insB ++ [c.instrs[k].op, c.instrs[k].A].flatMap numI = numI c.instrs.length ++ (c.instrs.take (k + 1)).flatMap insB := by rw [flat_step insB hg]; simp [insB, List.append_assoc]
    rw [e] at hn ⊢
    simp only [go_sem, Nat.reduceAdd, Nat.reduceLeDiff, Nat.reduceEqDiff, Nat.reduceMul, Nat.reduceSub, ↓reduceIte, Int.reduceLT, Int.reduceLE, Int.reduceGT, Int.reduceGE, Nat.reduceLT, Nat.reduceGT, Int.reduceToNat, reduceCtorEq, Nat.reduceBEq, Int.reduceBEq, Int.reduceBNe, Int.reduceEq, Int.reduceNe, decide_true, decide_false]
    repeat' ((first | (with_reducible first | refine wr ?_ | refine i_ret ?_ | refine i_skip ?_ | refine i_exit ?_) | ((with_reducible first | refine k_cb ?_ ?_ | refine k_gb ?_ ?_ | refine k_gb' ?_ ?_) <;> (intro hb; try simp only [hb]))) <;> try simp only [go_sem, Nat.reduceAdd, Nat.reduceLeDiff, Nat.reduceEqDiff, Nat.reduceMul, Nat.reduceSub, ↓reduceIte, Int.reduceLT, Int.reduceLE, Int.reduceGT, Int.reduceGE, Nat.reduceLT, Nat.reduceGT, Int.reduceToNat, reduceCtorEq, Nat.reduceBEq, Int.reduceBEq, Int.reduceBNe, Int.reduceEq, Int.reduceNe, decide_true, decide_false, hw])
    exact ⟨(k + 1, o), rfl, Sub.refl _, inv ⟨by omega, hlt, hn, hs⟩, by simp only; omega⟩
  have hd : decide ((k : Int) < c.instrs.length) = false := by simpa using hlt
  rw [List.take_of_length_le (by omega)] at hn
  repeat' ((first | (with_reducible first | refine wr ?_ | refine i_ret ?_ | refine i_skip ?_ | refine i_exit ?_) | ((with_reducible first | refine k_cb ?_ ?_ | refine k_gb ?_ ?_ | refine k_gb' ?_ ?_) <;> (intro hb; try simp only [hb]))) <;> try simp only [go_sem, Nat.reduceAdd, Nat.reduceLeDiff, Nat.reduceEqDiff, Nat.reduceMul, Nat.reduceSub, ↓reduceIte, Int.reduceLT, Int.reduceLE, Int.reduceGT, Int.reduceGE, Nat.reduceLT, Nat.reduceGT, Int.reduceToNat, reduceCtorEq, Nat.reduceBEq, Int.reduceBEq, Int.reduceBNe, Int.reduceEq, Int.reduceNe, decide_true, decide_false, EH_0 hs, hd])
  rw [List.take_of_length_le (by omega)]
  clear hd hlt hk
  have hc0 : EH c o (numI c.instrs.length ++ c.instrs.flatMap insB) cc = none := EH_n (by omega) (fun e => absurd (hs _ e).2 (by omega))
  refine AC.call (c_put' c _ o _ _ cc [(c.strings.length : Int)] ((Sub.refl _).upd _ hc0) h_same (by omega) (fun e => absurd (hs _ e).2 (by omega)) hn (fun i e => ⟨(hs i e).1, by have := (hs i e).2; omega⟩) (by omega) (by simpa using S2) (by simp) (by simp only [List.length_append]; omega)) ?_
  rintro v H' c' ⟨o, rfl, hn, hs⟩ hcc
  obtain ⟨P, hP⟩ : ∃ P, P = numI c.instrs.length ++ c.instrs.flatMap insB ++ numI c.strings.length := ⟨_, rfl⟩
  have hPl : P.length ≤ 100000 := by rw [hP]; simp only [List.length_append]; omega
  have e : numI c.instrs.length ++ c.instrs.flatMap insB ++ [(c.strings.length : Int)].flatMap numI = P := by rw [hP]; simp
  rw [e] at hn ⊢
  simp only [go_sem, Nat.reduceAdd, Nat.reduceLeDiff, Nat.reduceEqDiff, Nat.reduceMul, Nat.reduceSub, ↓reduceIte, Int.reduceLT, Int.reduceLE, Int.reduceGT, Int.reduceGE, Nat.reduceLT, Nat.reduceGT, Int.reduceToNat, reduceCtorEq, Nat.reduceBEq, Int.reduceBEq, Int.reduceBNe, Int.reduceEq, Int.reduceNe, decide_true, decide_false]
  repeat' ((first | (with_reducible first | refine wr ?_ | refine i_ret ?_ | refine i_skip ?_ | refine i_exit ?_) | ((with_reducible first | refine k_cb ?_ ?_ | refine k_gb ?_ ?_ | refine k_gb' ?_ ?_) <;> (intro hb; try simp only [hb]))) <;> try simp only [go_sem, Nat.reduceAdd, Nat.reduceLeDiff, Nat.reduceEqDiff, Nat.reduceMul, Nat.reduceSub, ↓reduceIte, Int.reduceLT, Int.reduceLE, Int.reduceGT, Int.reduceGE, Nat.reduceLT, Nat.reduceGT, Int.reduceToNat, reduceCtorEq, Nat.reduceBEq, Int.reduceBEq, Int.reduceBNe, Int.reduceEq, Int.reduceNe, decide_true, decide_false, EH_0 hs])
  refine i_loop (fun q : Nat × Option Nat => [(1, .ptr 0 0), (5, .ptr 1 0), (47, strs c.strings), (48, I64 c.strings.length), (49, I64 q.1)]) (fun q => EH c q.2 (P ++ (c.strings.take q.1).flatMap strB)) (fun q cc => 2 ≤ cc ∧ q.1 ≤ c.strings.length ∧ (q.2 = none → P ++ (c.strings.take q.1).flatMap strB = []) ∧ ∀ i, q.2 = some i → 2 ≤ i ∧ i < cc) (fun q => c.strings.length - q.1) (0, o)
    (by simp [tmLe, tm, Tm.upd]) (by simpa using Sub.refl _) ⟨by omega, by simp, by simpa using hn, hs⟩ ?_
  rintro ⟨k, o⟩ cc ⟨h2, hk, hn, hs⟩
  simp only at hk hn hs
  by_cases hlt : k < c.strings.length
  · have hd : decide ((k : Int) < c.strings.length) = true := by simpa using hlt
    have hg := List.getElem?_eq_getElem hlt
    have hw := w64 (n := (k : Int) + 1) (by omega) (by omega)
    have hx := B.str _ (List.getElem_mem hlt)
    have q2 := flat_take strB 42 c.strings hf7 k
    have hc0 : EH c o (P ++ (c.strings.take k).flatMap strB) cc = none := EH_n (by omega) (fun e => absurd (hs _ e).2 (by omega))
    have ne0 : ¬ 0 = cc := by omega
    have ne1 : ¬ 0 = cc + 1 := by omega
    have ne2 : ¬ 1 = cc := by omega
    have ne3 : ¬ 1 = cc + 1 := by omega
    have ne4 : ¬ cc = 0 := by omega
    have ne5 : ¬ cc = 1 := by omega
    have ne6 : ¬ cc = cc + 1 := by omega
    have ne7 : ¬ cc + 1 = 0 := by omega
    have ne8 : ¬ cc + 1 = 1 := by omega
    have ne9 : ¬ cc + 1 = cc := by omega
    repeat' ((first | (with_reducible first | refine wr ?_ | refine i_ret ?_ | refine i_skip ?_ | refine i_exit ?_) | ((with_reducible first | refine k_cb ?_ ?_ | refine k_gb ?_ ?_ | refine k_gb' ?_ ?_) <;> (intro hb; try simp only [hb]))) <;> try simp only [go_sem, Nat.reduceAdd, Nat.reduceLeDiff, Nat.reduceEqDiff, Nat.reduceMul, Nat.reduceSub, ↓reduceIte, Int.reduceLT, Int.reduceLE, Int.reduceGT, Int.reduceGE, Nat.reduceLT, Nat.reduceGT, Int.reduceToNat, reduceCtorEq, Nat.reduceBEq, Int.reduceBEq, Int.reduceBNe, Int.reduceEq, Int.reduceNe, decide_true, decide_false, EH_0 hs, hd, hg, hw, ne0, ne1, ne2, ne3, ne4, ne5, ne6, ne7, ne8, ne9])
    refine AC.call (c_put' c _ o _ _ cc [(c.strings[k].length : Int)] ((Sub.refl _).upd _ hc0) h_same (by omega) (fun e => absurd (hs _ e).2 (by omega)) hn (fun i e => ⟨(hs i e).1, by have := (hs i e).2; omega⟩) (by omega) (by simp; omega) (by simp) (by simp only [List.length_append]; omega)) ?_
    rintro v H' c' ⟨o, rfl, hn, hs⟩ hcc
    have e : P ++ (c.strings.take k).flatMap strB ++ [(c.strings[k].length : Int)].flatMap numI = P ++ (c.strings.take k).flatMap strB ++ numI c.strings[k].length := by simp
    rw [e] at hn ⊢
    have q3 := numI_len (n := (c.strings[k].length : Int)) ⟨by omega, by omega⟩
    rcases o with _ | id
    · exact absurd (hn rfl) (by have := numI_ne (c.strings[k].length : Int); simp [this])
    obtain ⟨i1, i2⟩ := hs id rfl
    have hlen : (P ++ (c.strings.take k).flatMap strB ++ numI c.strings[k].length).length ≤ 1000000 := by simp only [List.length_append]; omega
    have ne0 : ¬ 0 = id := by omega
    have ne1 : ¬ 0 = c' := by omega
    have ne2 : ¬ 0 = c' + 1 := by omega
    have ne3 : ¬ 1 = id := by omega
    have ne4 : ¬ 1 = c' := by omega
    have ne5 : ¬ 1 = c' + 1 := by omega
    have ne6 : ¬ id = 0 := by omega
    have ne7 : ¬ id = 1 := by omega
    have ne8 : ¬ id = c' := by omega
    have ne9 : ¬ id = c' + 1 := by omega
    have ne10 : ¬ c' = 0 := by omega
    have ne11 : ¬ c' = 1 := by omega
    have ne12 : ¬ c' = id := by omega
    have ne13 : ¬ c' = c' + 1 := by omega
    have ne14 : ¬ c' + 1 = 0 := by omega
    have ne15 : ¬ c' + 1 = 1 := by omega
    have ne16 : ¬ c' + 1 = id := by omega
    have ne17 : ¬ c' + 1 = c' := by omega
    simp only [go_sem, Nat.reduceAdd, Nat.reduceLeDiff, Nat.reduceEqDiff, Nat.reduceMul, Nat.reduceSub, ↓reduceIte, Int.reduceLT, Int.reduceLE, Int.reduceGT, Int.reduceGE, Nat.reduceLT, Nat.reduceGT, Int.reduceToNat, reduceCtorEq, Nat.reduceBEq, Int.reduceBEq, Int.reduceBNe, Int.reduceEq, Int.reduceNe, decide_true, decide_false, EH, optH, ne0, ne1, ne2, ne3, ne4, ne5, ne6, ne7, ne8, ne9, ne10, ne11, ne12, ne13, ne14, ne15, ne16, ne17]
    repeat' ((first | (with_reducible first | refine wr ?_ | refine i_ret ?_ | refine i_skip ?_ | refine i_exit ?_) | ((with_reducible first | refine k_cb ?_ ?_ | refine k_gb ?_ ?_ | refine k_gb' ?_ ?_) <;> (intro hb; try simp only [hb])) | ((with_reducible refine k_eval (b_appx (bytesC_len1 _) (by omega) (by omega)) ?_))) <;> try simp only [go_sem, Nat.reduceAdd, Nat.reduceLeDiff, Nat.reduceEqDiff, Nat.reduceMul, Nat.reduceSub, ↓reduceIte, Int.reduceLT, Int.reduceLE, Int.reduceGT, Int.reduceGE, Nat.reduceLT, Nat.reduceGT, Int.reduceToNat, reduceCtorEq, Nat.reduceBEq, Int.reduceBEq, Int.reduceBNe, Int.reduceEq, Int.reduceNe, decide_true, decide_false, hw, EH, optH, ne0, ne1, ne2, ne3, ne4, ne5, ne6, ne7, ne8, ne9, ne10, ne11, ne12, ne13, ne14, ne15, ne16, ne17])
    have e2 : P ++ (c.strings.take (k + 1)).flatMap strB = P ++ (c.strings.take k).flatMap strB ++ numI c.strings[k].length ++ c.strings[k] := by rw [flat_step strB hg]; simp [strB, List.append_assoc]
    exact ⟨(k + 1, some c'), rfl, by simp only [e2, EH, optH, todoV, bytesC_app, List.length_append]; (intro j b hj; simp only [Hp.upd, Hp.del, Sym.nil, baseH, optH, EH] at hj ⊢; (repeat' split at hj) <;> (repeat' split) <;> first | exact hj | (exfalso; omega) | cases hj), inv ⟨by omega, hlt, by simp, fun i hi => by cases hi; omega⟩, by simp only; omega⟩
  have hd : decide ((k : Int) < c.strings.length) = false := by simpa using hlt
  rw [List.take_of_length_le (by omega)] at hn
  repeat' ((first | (with_reducible first | refine wr ?_ | refine i_ret ?_ | refine i_skip ?_ | refine i_exit ?_) | ((with_reducible first | refine k_cb ?_ ?_ | refine k_gb ?_ ?_ | refine k_gb' ?_ ?_) <;> (intro hb; try simp only [hb]))) <;> try simp only [go_sem, Nat.reduceAdd, Nat.reduceLeDiff, Nat.reduceEqDiff, Nat.reduceMul, Nat.reduceSub, ↓reduceIte, Int.reduceLT, Int.reduceLE, Int.reduceGT, Int.reduceGE, Nat.reduceLT, Nat.reduceGT, Int.reduceToNat, reduceCtorEq, Nat.reduceBEq, Int.reduceBEq, Int.reduceBNe, Int.reduceEq, Int.reduceNe, decide_true, decide_false, EH_0 hs, hd])
  rw [List.take_of_length_le (by omega)]
  clear hd hlt hk
  have hc0 : EH c o (P ++ c.strings.flatMap strB) cc = none := EH_n (by omega) (fun e => absurd (hs _ e).2 (by omega))
  refine AC.call (c_put' c _ o _ _ cc [(c.entries.length : Int)] ((Sub.refl _).upd _ hc0) h_same (by omega) (fun e => absurd (hs _ e).2 (by omega)) hn (fun i e => ⟨(hs i e).1, by have := (hs i e).2; omega⟩) (by omega) (by simpa using S3) (by simp) (by simp only [List.length_append]; omega)) ?_
  rintro v H' c' ⟨o, rfl, hn, hs⟩ hcc
  obtain ⟨Q, hQ⟩ : ∃ Q, Q = P ++ c.strings.flatMap strB ++ numI c.entries.length := ⟨_, rfl⟩
  have hQl : Q.length ≤ 200000 := by rw [hQ]; simp only [List.length_append]; omega
  have e : P ++ c.strings.flatMap strB ++ [(c.entries.length : Int)].flatMap numI = Q := by rw [hQ]; simp
  rw [e] at hn ⊢
  simp only [go_sem, Nat.reduceAdd, Nat.reduceLeDiff, Nat.reduceEqDiff, Nat.reduceMul, Nat.reduceSub, ↓reduceIte, Int.reduceLT, Int.reduceLE, Int.reduceGT, Int.reduceGE, Nat.reduceLT, Nat.reduceGT, Int.reduceToNat, reduceCtorEq, Nat.reduceBEq, Int.reduceBEq, Int.reduceBNe, Int.reduceEq, Int.reduceNe, decide_true, decide_false]
  repeat' ((first | (with_reducible first | refine wr ?_ | refine i_ret ?_ | refine i_skip ?_ | refine i_exit ?_) | ((with_reducible first | refine k_cb ?_ ?_ | refine k_gb ?_ ?_ | refine k_gb' ?_ ?_) <;> (intro hb; try simp only [hb]))) <;> try simp only [go_sem, Nat.reduceAdd, Nat.reduceLeDiff, Nat.reduceEqDiff, Nat.reduceMul, Nat.reduceSub, ↓reduceIte, Int.reduceLT, Int.reduceLE, Int.reduceGT, Int.reduceGE, Nat.reduceLT, Nat.reduceGT, Int.reduceToNat, reduceCtorEq, Nat.reduceBEq, Int.reduceBEq, Int.reduceBNe, Int.reduceEq, Int.reduceNe, decide_true, decide_false, EH_0 hs])
  refine i_loop (fun q : Nat × Option Nat => [(1, .ptr 0 0), (5, .ptr 1 0), (75, entsV c.entries), (76, I64 c.entries.length), (77, I64 q.1)]) (fun q => EH c q.2 (Q ++ (c.entries.take q.1).flatMap entB)) (fun q cc => 2 ≤ cc ∧ q.1 ≤ c.entries.length ∧ (q.2 = none → Q ++ (c.entries.take q.1).flatMap entB = []) ∧ ∀ i, q.2 = some i → 2 ≤ i ∧ i < cc) (fun q => c.entries.length - q.1) (0, o)
    (by simp [tmLe, tm, Tm.upd]) (by simpa using Sub.refl _) ⟨by omega, by simp, by simpa using hn, hs⟩ ?_
  rintro ⟨k, o⟩ cc ⟨h2, hk, hn, hs⟩
  simp only at hk hn hs
  by_cases hlt : k < c.entries.length
  · have hd : decide ((k : Int) < c.entries.length) = true := by simpa using hlt
    have hg := List.getElem?_eq_getElem hlt
    have hw := w64 (n := (k : Int) + 1) (by omega) (by omega)
    have hx := B.ent _ (List.getElem_mem hlt)
    have q2 := flat_take entB 40 c.entries hf8 k
    have ne0 : ¬ 0 = cc := by omega
    have ne1 : ¬ 0 = cc + 1 := by omega
    have ne2 : ¬ 1 = cc := by omega
    have ne3 : ¬ 1 = cc + 1 := by omega
    have ne4 : ¬ cc = 0 := by omega
    have ne5 : ¬ cc = 1 := by omega
    have ne6 : ¬ cc = cc + 1 := by omega
    have ne7 : ¬ cc + 1 = 0 := by omega
    have ne8 : ¬ cc + 1 = 1 := by omega
    have ne9 : ¬ cc + 1 = cc := by omega
    repeat' ((first | (with_reducible first | refine wr ?_ | refine i_ret ?_ | refine i_skip ?_ | refine i_exit ?_) | ((with_reducible first | refine k_cb ?_ ?_ | refine k_gb ?_ ?_ | refine k_gb' ?_ ?_) <;> (intro hb; try simp only [hb]))) <;> try simp only [go_sem, Nat.reduceAdd, Nat.reduceLeDiff, Nat.reduceEqDiff, Nat.reduceMul, Nat.reduceSub, ↓reduceIte, Int.reduceLT, Int.reduceLE, Int.reduceGT, Int.reduceGE, Nat.reduceLT, Nat.reduceGT, Int.reduceToNat, reduceCtorEq, Nat.reduceBEq, Int.reduceBEq, Int.reduceBNe, Int.reduceEq, Int.reduceNe, decide_true, decide_false, EH_0 hs, hd, hg, hw, ne0, ne1, ne2, ne3, ne4, ne5, ne6, ne7, ne8, ne9])
    have hc0 : EH c o (Q ++ (c.entries.take k).flatMap entB) cc = none := EH_n (by omega) (fun e => absurd (hs _ e).2 (by omega))
    have hc1 : EH c o (Q ++ (c.entries.take k).flatMap entB) (cc + 1) = none := EH_n (by omega) (fun e => absurd (hs _ e).2 (by omega))
    rw [h_upd2]
    refine AC.call (c_put' c _ o _ _ (cc + 1) [c.entries[k].mode, c.entries[k].trigger, c.entries[k].index, c.entries[k].pos] (((Sub.refl _).upd _ hc0).upd _ hc1) h_same (by omega) (fun e => absurd (hs _ e).2 (by omega)) hn (fun i e => ⟨(hs i e).1, by have := (hs i e).2; omega⟩) (by omega) (by simpa using hx) (by simp) (by simp only [List.length_append]; omega)) ?_
    rintro v H' c' ⟨o, rfl, hn, hs⟩ hcc
    have e : Q ++ (c.entries.take k).flatMap entB ++ [c.entries[k].mode, c.entries[k].trigger, c.entries[k].index, c.entries[k].pos].flatMap numI = Q ++ (c.entries.take (k + 1)).flatMap entB := by rw [flat_step entB hg]; simp [entB, List.append_assoc]
    rw [e] at hn ⊢
    simp only [go_sem, Nat.reduceAdd, Nat.reduceLeDiff, Nat.reduceEqDiff, Nat.reduceMul, Nat.reduceSub, ↓reduceIte, Int.reduceLT, Int.reduceLE, Int.reduceGT, Int.reduceGE, Nat.reduceLT, Nat.reduceGT, Int.reduceToNat, reduceCtorEq, Nat.reduceBEq, Int.reduceBEq, Int.reduceBNe, Int.reduceEq, Int.reduceNe, decide_true, decide_false]
    repeat' ((first | (with_reducible first | refine wr ?_ | refine i_ret ?_ | refine i_skip ?_ | refine i_exit ?_) | ((with_reducible first | refine k_cb ?_ ?_ | refine k_gb ?_ ?_ | refine k_gb' ?_ ?_) <;> (intro hb; try simp only [hb]))) <;> try simp only [go_sem, Nat.reduceAdd, Nat.reduceLeDiff, Nat.reduceEqDiff, Nat.reduceMul, Nat.reduceSub, ↓reduceIte, Int.reduceLT, Int.reduceLE, Int.reduceGT, Int.reduceGE, Nat.reduceLT, Nat.reduceGT, Int.reduceToNat, reduceCtorEq, Nat.reduceBEq, Int.reduceBEq, Int.reduceBNe, Int.reduceEq, Int.reduceNe, decide_true, decide_false, hw])
    exact ⟨(k + 1, o), rfl, Sub.refl _, inv ⟨by omega, hlt, hn, hs⟩, by simp only; omega⟩
  have hd : decide ((k : Int) < c.entries.length) = false := by simpa using hlt
  rw [List.take_of_length_le (by omega)] at hn
  repeat' ((first | (with_reducible first | refine wr ?_ | refine i_ret ?_ | refine i_skip ?_ | refine i_exit ?_) | ((with_reducible first | refine k_cb ?_ ?_ | refine k_gb ?_ ?_ | refine k_gb' ?_ ?_) <;> (intro hb; try simp only [hb]))) <;> try simp only [go_sem, Nat.reduceAdd, Nat.reduceLeDiff, Nat.reduceEqDiff, Nat.reduceMul, Nat.reduceSub, ↓reduceIte, Int.reduceLT, Int.reduceLE, Int.reduceGT, Int.reduceGE, Nat.reduceLT, Nat.reduceGT, Int.reduceToNat, reduceCtorEq, Nat.reduceBEq, Int.reduceBEq, Int.reduceBNe, Int.reduceEq, Int.reduceNe, decide_true, decide_false, EH_0 hs, hd])
  rw [List.take_of_length_le (by omega)]
  clear hd hlt hk
  have T1 : ∀ n ∈ [(c.prios.length : Int)], Sm n := by simpa using S4
  have T3 : ∀ n ∈ [(c.vars.length : Int)], Sm n := by simpa using S5
  have T5 : ∀ n ∈ [c.timers, c.events], Sm n := by simpa using And.intro B.tim B.evt
  have hc0 : EH c o (Q ++ c.entries.flatMap entB) cc = none := EH_n (by omega) (fun e => absurd (hs _ e).2 (by omega))
  refine AC.call (c_put' c _ o _ _ cc [(c.prios.length : Int)] ((Sub.refl _).upd _ hc0) h_same (by omega) (fun e => absurd (hs _ e).2 (by omega)) hn (fun i e => ⟨(hs i e).1, by have := (hs i e).2; omega⟩) (by omega) (T1) (by simp) (by first | omega | (simp only [List.length_append] <;> omega))) ?_
  rintro v H' c1 ⟨o, rfl, hn, hs⟩ hcc1
  obtain ⟨R1, hR1⟩ : ∃ R, R = Q ++ c.entries.flatMap entB ++ [(c.prios.length : Int)].flatMap numI := ⟨_, rfl⟩
  have hR1l : R1.length ≤ 310000 := by rw [hR1, List.length_append]; have := flat_len numI 10 [(c.prios.length : Int)] (fun x hx => numI_len (T1 x hx)); (try simp only [List.length_append, List.length_cons, List.length_nil] at this); (try simp only [List.length_append]); omega
  rw [← hR1] at hn ⊢
  simp only [go_sem, Nat.reduceAdd, Nat.reduceLeDiff, Nat.reduceEqDiff, Nat.reduceMul, Nat.reduceSub, ↓reduceIte, Int.reduceLT, Int.reduceLE, Int.reduceGT, Int.reduceGE, Nat.reduceLT, Nat.reduceGT, Int.reduceToNat, reduceCtorEq, Nat.reduceBEq, Int.reduceBEq, Int.reduceBNe, Int.reduceEq, Int.reduceNe, decide_true, decide_false]
  repeat' ((first | (with_reducible first | refine wr ?_ | refine i_ret ?_ | refine i_skip ?_ | refine i_exit ?_) | ((with_reducible first | refine k_cb ?_ ?_ | refine k_gb ?_ ?_ | refine k_gb' ?_ ?_) <;> (intro hb; try simp only [hb]))) <;> try simp only [go_sem, Nat.reduceAdd, Nat.reduceLeDiff, Nat.reduceEqDiff, Nat.reduceMul, Nat.reduceSub, ↓reduceIte, Int.reduceLT, Int.reduceLE, Int.reduceGT, Int.reduceGE, Nat.reduceLT, Nat.reduceGT, Int.reduceToNat, reduceCtorEq, Nat.reduceBEq, Int.reduceBEq, Int.reduceBNe, Int.reduceEq, Int.reduceNe, decide_true, decide_false, EH_0 hs])
  refine AC.call (c_put c _ o _ c.prios (by omega) hn hs (B.pri) (by omega) (by first | omega | (simp only [List.length_append] <;> omega))) ?_
  rintro v H' c2 ⟨o, rfl, hn, hs⟩ hcc2
  obtain ⟨R2, hR2⟩ : ∃ R, R = R1 ++ c.prios.flatMap numI := ⟨_, rfl⟩
  have hR2l : R2.length ≤ 320000 := by rw [hR2, List.length_append]; have := flat_len numI 10 c.prios (fun x hx => numI_len (B.pri x hx)); (try simp only [List.length_append, List.length_cons, List.length_nil] at this); (try simp only [List.length_append]); omega
  rw [← hR2] at hn ⊢
  simp only [go_sem, Nat.reduceAdd, Nat.reduceLeDiff, Nat.reduceEqDiff, Nat.reduceMul, Nat.reduceSub, ↓reduceIte, Int.reduceLT, Int.reduceLE, Int.reduceGT, Int.reduceGE, Nat.reduceLT, Nat.reduceGT, Int.reduceToNat, reduceCtorEq, Nat.reduceBEq, Int.reduceBEq, Int.reduceBNe, Int.reduceEq, Int.reduceNe, decide_true, decide_false]
  repeat' ((first | (with_reducible first | refine wr ?_ | refine i_ret ?_ | refine i_skip ?_ | refine i_exit ?_) | ((with_reducible first | refine k_cb ?_ ?_ | refine k_gb ?_ ?_ | refine k_gb' ?_ ?_) <;> (intro hb; try simp only [hb]))) <;> try simp only [go_sem, Nat.reduceAdd, Nat.reduceLeDiff, Nat.reduceEqDiff, Nat.reduceMul, Nat.reduceSub, ↓reduceIte, Int.reduceLT, Int.reduceLE, Int.reduceGT, Int.reduceGE, Nat.reduceLT, Nat.reduceGT, Int.reduceToNat, reduceCtorEq, Nat.reduceBEq, Int.reduceBEq, Int.reduceBNe, Int.reduceEq, Int.reduceNe, decide_true, decide_false, EH_0 hs])
  have hc0 : EH c o (R2) c2 = none := EH_n (by omega) (fun e => absurd (hs _ e).2 (by omega))
  refine AC.call (c_put' c _ o _ _ c2 [(c.vars.length : Int)] ((Sub.refl _).upd _ hc0) h_same (by omega) (fun e => absurd (hs _ e).2 (by omega)) hn (fun i e => ⟨(hs i e).1, by have := (hs i e).2; omega⟩) (by omega) (T3) (by simp) (by first | omega | (simp only [List.length_append] <;> omega))) ?_
  rintro v H' c3 ⟨o, rfl, hn, hs⟩ hcc3
  obtain ⟨R3, hR3⟩ : ∃ R, R = R2 ++ [(c.vars.length : Int)].flatMap numI := ⟨_, rfl⟩
  have hR3l : R3.length ≤ 330000 := by rw [hR3, List.length_append]; have := flat_len numI 10 [(c.vars.length : Int)] (fun x hx => numI_len (T3 x hx)); (try simp only [List.length_append, List.length_cons, List.length_nil] at this); (try simp only [List.length_append]); omega
  rw [← hR3] at hn ⊢
  simp only [go_sem, Nat.reduceAdd, Nat.reduceLeDiff, Nat.reduceEqDiff, Nat.reduceMul, Nat.reduceSub, ↓reduceIte, Int.reduceLT, Int.reduceLE, Int.reduceGT, Int.reduceGE, Nat.reduceLT, Nat.reduceGT, Int.reduceToNat, reduceCtorEq, Nat.reduceBEq, Int.reduceBEq, Int.reduceBNe, Int.reduceEq, Int.reduceNe, decide_true, decide_false]
  repeat' ((first | (with_reducible first | refine wr ?_ | refine i_ret ?_ | refine i_skip ?_ | refine i_exit ?_) | ((with_reducible first | refine k_cb ?_ ?_ | refine k_gb ?_ ?_ | refine k_gb' ?_ ?_) <;> (intro hb; try simp only [hb]))) <;> try simp only [go_sem, Nat.reduceAdd, Nat.reduceLeDiff, Nat.reduceEqDiff, Nat.reduceMul, Nat.reduceSub, ↓reduceIte, Int.reduceLT, Int.reduceLE, Int.reduceGT, Int.reduceGE, Nat.reduceLT, Nat.reduceGT, Int.reduceToNat, reduceCtorEq, Nat.reduceBEq, Int.reduceBEq, Int.reduceBNe, Int.reduceEq, Int.reduceNe, decide_true, decide_false, EH_0 hs])
  refine AC.call (c_put c _ o _ c.vars (by omega) hn hs (B.var) (by omega) (by first | omega | (simp only [List.length_append] <;> omega))) ?_
  rintro v H' c4 ⟨o, rfl, hn, hs⟩ hcc4
  obtain ⟨R4, hR4⟩ : ∃ R, R = R3 ++ c.vars.flatMap numI := ⟨_, rfl⟩
  have hR4l : R4.length ≤ 340000 := by rw [hR4, List.length_append]; have := flat_len numI 10 c.vars (fun x hx => numI_len (B.var x hx)); (try simp only [List.length_append, List.length_cons, List.length_nil] at this); (try simp only [List.length_append]); omega
  rw [← hR4] at hn ⊢
  simp only [go_sem, Nat.reduceAdd, Nat.reduceLeDiff, Nat.reduceEqDiff, Nat.reduceMul, Nat.reduceSub, ↓reduceIte, Int.reduceLT, Int.reduceLE, Int.reduceGT, Int.reduceGE, Nat.reduceLT, Nat.reduceGT, Int.reduceToNat, reduceCtorEq, Nat.reduceBEq, Int.reduceBEq, Int.reduceBNe, Int.reduceEq, Int.reduceNe, decide_true, decide_false]
  repeat' ((first | (with_reducible first | refine wr ?_ | refine i_ret ?_ | refine i_skip ?_ | refine i_exit ?_) | ((with_reducible first | refine k_cb ?_ ?_ | refine k_gb ?_ ?_ | refine k_gb' ?_ ?_) <;> (intro hb; try simp only [hb]))) <;> try simp only [go_sem, Nat.reduceAdd, Nat.reduceLeDiff, Nat.reduceEqDiff, Nat.reduceMul, Nat.reduceSub, ↓reduceIte, Int.reduceLT, Int.reduceLE, Int.reduceGT, Int.reduceGE, Nat.reduceLT, Nat.reduceGT, Int.reduceToNat, reduceCtorEq, Nat.reduceBEq, Int.reduceBEq, Int.reduceBNe, Int.reduceEq, Int.reduceNe, decide_true, decide_false, EH_0 hs])
  have hc0 : EH c o (R4) c4 = none := EH_n (by omega) (fun e => absurd (hs _ e).2 (by omega))
  refine AC.call (c_put' c _ o _ _ c4 [c.timers, c.events] ((Sub.refl _).upd _ hc0) h_same (by omega) (fun e => absurd (hs _ e).2 (by omega)) hn (fun i e => ⟨(hs i e).1, by have := (hs i e).2; omega⟩) (by omega) (T5) (by simp) (by first | omega | (simp only [List.length_append] <;> omega))) ?_
  rintro v H' c5 ⟨o, rfl, hn, hs⟩ hcc5
  obtain ⟨R5, hR5⟩ : ∃ R, R = R4 ++ [c.timers, c.events].flatMap numI := ⟨_, rfl⟩
  have hR5l : R5.length ≤ 350000 := by rw [hR5, List.length_append]; have := flat_len numI 10 [c.timers, c.events] (fun x hx => numI_len (T5 x hx)); (try simp only [List.length_append, List.length_cons, List.length_nil] at this); (try simp only [List.length_append]); omega
  rw [← hR5] at hn ⊢
  rcases o with _ | id
  · exact absurd (hn rfl) (by rw [hR5]; have := numI_ne c.timers; simp [this])
  obtain ⟨i1, i2⟩ := hs id rfl
  have ne0 : ¬ 0 = id := by omega
  have ne1 : ¬ 1 = id := by omega
  have ne2 : ¬ id = 0 := by omega
  have ne3 : ¬ id = 1 := by omega
  simp only [go_sem, Nat.reduceAdd, Nat.reduceLeDiff, Nat.reduceEqDiff, Nat.reduceMul, Nat.reduceSub, ↓reduceIte, Int.reduceLT, Int.reduceLE, Int.reduceGT, Int.reduceGE, Nat.reduceLT, Nat.reduceGT, Int.reduceToNat, reduceCtorEq, Nat.reduceBEq, Int.reduceBEq, Int.reduceBNe, Int.reduceEq, Int.reduceNe, decide_true, decide_false, EH, optH, ne0, ne1, ne2, ne3]
  repeat' ((first | (with_reducible first | refine wr ?_ | refine i_ret ?_ | refine i_skip ?_ | refine i_exit ?_) | ((with_reducible first | refine k_cb ?_ ?_ | refine k_gb ?_ ?_ | refine k_gb' ?_ ?_) <;> (intro hb; try simp only [hb])) | ((with_reducible refine k_val (cv_own (l := R5) h_same rfl rfl) ?_))) <;> try simp only [go_sem, Nat.reduceAdd, Nat.reduceLeDiff, Nat.reduceEqDiff, Nat.reduceMul, Nat.reduceSub, ↓reduceIte, Int.reduceLT, Int.reduceLE, Int.reduceGT, Int.reduceGE, Nat.reduceLT, Nat.reduceGT, Int.reduceToNat, reduceCtorEq, Nat.reduceBEq, Int.reduceBEq, Int.reduceBNe, Int.reduceEq, Int.reduceNe, decide_true, decide_false, EH, optH, ne0, ne1, ne2, ne3])
  refine pc_ret ?_
  rw [encV, if_pos h0, encM, hR5, hR4, hR3, hR2, hR1, hQ, hP]
  simp [numsB, List.append_assoc]
end Go.Proofs.YtcallbfckjlagaaDoor
set_option linter.unusedVariables false
set_option linter.unusedSimpArgs false
namespace Go.Pb
open Go.Sym
def digB (d : Nat) : UInt8 := UInt8.ofNat (48 + d)
def decB (n : Nat) : List UInt8 := if n < 10 then [digB n] else decB (n / 10) ++ [digB (n % 10)]
termination_by n
decreasing_by omega
theorem decB_lt {n : Nat} (h : n < 10) : decB n = [digB n] := by rw [decB, if_pos h]
theorem decB_ge {n : Nat} (h : ¬n < 10) : decB n = decB (n / 10) ++ [digB (n % 10)] := by rw [decB, if_neg h]
theorem decB_len : ∀ (k n : Nat), n < 10 ^ (k + 1) → (decB n).length ≤ k + 1
  | 0, n, h => by rw [decB_lt (by omega)]; simp
  | k + 1, n, h => by
    by_cases h0 : n < 10
    · rw [decB_lt h0]; simp
    · rw [decB_ge h0, List.length_append]
      have := decB_len k (n / 10) (by rw [Nat.pow_succ] at h; omega)
      simp only [List.length_singleton]; omega
def decI (n : Int) : List UInt8 := if n < 0 then 45 :: decB n.natAbs else decB n.natAbs
theorem decI_len {n : Int} (h1 : -9223372036854775808 ≤ n) (h2 : n ≤ 9223372036854775807) : (decI n).length ≤ 21 := by
  have := decB_len 19 n.natAbs (by omega)
  unfold decI; split
  · rw [List.length_cons]; omega
  · omega
def lineB (k : Nat) (i : Ins) : List UInt8 := decI k ++ [32] ++ decI i.op ++ [32] ++ decI i.A ++ [10]
def lstF : List Ins → Nat → List UInt8
  | [], _ => []
  | i :: r, k => lineB k i ++ lstF r (k + 1)
abbrev I6 (n : Int) : Prop := -9223372036854775808 ≤ n ∧ n ≤ 9223372036854775807
theorem lineB_len {k : Nat} {i : Ins} (hk : k ≤ 1000000) (h1 : I6 i.op) (h2 : I6 i.A) : (lineB k i).length ≤ 66 := by
  have a := decI_len (n := (k : Int)) (by omega) (by omega)
  have b := decI_len h1.1 h1.2
  have d := decI_len h2.1 h2.2
  simp only [lineB, List.length_append, List.length_singleton]; omega
theorem lstF_len : ∀ (l : List Ins) (k : Nat), k + l.length ≤ 1000000 → (∀ i ∈ l, I6 i.op ∧ I6 i.A) → (lstF l k).length ≤ 66 * l.length
  | [], _, _, _ => by simp [lstF]
  | i :: r, k, h, hb => by
    simp only [List.length_cons] at h
    have h1 := lstF_len r (k + 1) (by omega) (fun x hx => hb x (List.mem_cons_of_mem _ hx))
    have h2 := lineB_len (k := k) (by omega) (hb i List.mem_cons_self).1 (hb i List.mem_cons_self).2
    simp only [lstF, List.length_append, List.length_cons]; omega
end Go.Pb
set_option linter.unusedVariables false
set_option linter.unusedSimpArgs false
namespace Go.Pb
open Go.Sym
def nextM (l : List UInt8) (p : Nat) (n : Nat) : Nat × Nat := if l.length ≤ p then (0, p) else ((l.getD p 0).toNat % n, p + 1)
abbrev tapeB (l : List UInt8) (p : Nat) : Blk := ⟨0, true, [.lst (bytesC l), I64 (p : Int)]⟩
theorem getB {l : List UInt8} {p : Nat} (h : p < l.length) : (bytesC l)[p]? = some (DV.int .u8 ((l.getD p 0).toNat : Int)) := by
  simp [bytesC, List.getD, h]
theorem wb64 (b : UInt8) : IntKind.i64.wrap (b.toNat : Int) = (b.toNat : Int) := by
  have := b.toNat_lt
  exact w64 (by omega) (by omega)
theorem nat_tmod (a b : Nat) : (a : Int).tmod (b : Int) = ((a % b : Nat) : Int) := by simp [Int.tmod]
def pushT : List Int := [0, 1, 2, 3, -1, 7, 1000, 2147483647, -2147483647, 65536]
def valueM (l : List UInt8) : Nat → Nat → List Ins × Nat
  | d, p =>
    let (k0, p) := nextM l p 9
    let k := if d = 0 ∧ 5 < k0 then 0 else k0
    match k, d with
    | 1, _ => let (a, p) := nextM l p 3; ([⟨2, a⟩], p)
    | 2, _ => let (a, p) := nextM l p 64; ([⟨4, a⟩], p)
    | 3, _ => let (a, p) := nextM l p 2; ([⟨5, a⟩], p)
    | 4, _ => let (a, p) := nextM l p 2; ([⟨6, a⟩], p)
    | 5, _ => let (a, p) := nextM l p 2; ([⟨7 + a, 0⟩], p)
    | 6, d + 1 => let (v, p) := valueM l d p; let (a, p) := nextM l p 2; (v ++ [⟨9 + a, 0⟩], p)
    | 7, d + 1 => let (v, p) := valueM l d p; let (w, p) := valueM l d p; let (a, p) := nextM l p 13; (v ++ w ++ [⟨11, 12 + a⟩], p)
    | 8, d + 1 => let (v, p) := valueM l d p; let (w, p) := valueM l d p; let (a, p) := nextM l p 13; (v ++ w ++ [⟨11, 12 + a⟩], p)
    | _, _ => let (a, p) := nextM l p 10; ([⟨1, pushT.getD a 0⟩], p)
theorem nextM_le {l : List UInt8} {p n : Nat} (h : p ≤ l.length) : (nextM l p n).2 ≤ l.length := by
  unfold nextM; split <;> simp only <;> omega
theorem nextM_lt {l : List UInt8} {p n : Nat} (h : 1 ≤ n) : (nextM l p n).1 < n := by
  unfold nextM; split
  · exact h
  · exact Nat.mod_lt _ h
def insC (l : List Ins) : List DV := cellsL (l.map Ins.v)
theorem insC_app (a b : List Ins) : insC (a ++ b) = insC a ++ insC b := by simp [insC, cellsL_append]
theorem insC_one (i : Ins) : insC [i] = [I64 i.op, I64 i.A] := by simp [insC, cellsL, DV.cells]
theorem insC_len (l : List Ins) : (insC l).length = l.length * 2 := by
  unfold insC
  rw [cellsL_length (u := 2)]
  · simp
  · intro x hx; obtain ⟨y, -, rfl⟩ := List.mem_map.1 hx; rfl
theorem push_get {a : Nat} (h : a < 10) : [DV.int .i64 0, DV.int .i64 1, DV.int .i64 2, DV.int .i64 3, DV.int .i64 (-1), DV.int .i64 7, DV.int .i64 1000, DV.int .i64 2147483647, DV.int .i64 (-2147483647), DV.int .i64 65536][a]? = some (I64 (pushT.getD a 0)) := by
  match a, h with
  | 0, _ | 1, _ | 2, _ | 3, _ | 4, _ | 5, _ | 6, _ | 7, _ | 8, _ | 9, _ => rfl
theorem valueM_le (l : List UInt8) : ∀ (d p : Nat), p ≤ l.length → (valueM l d p).2 ≤ l.length
  | d, p, h => by
    have h1 := nextM_le (n := 9) h
    unfold valueM
    simp only
    generalize (if d = 0 ∧ 5 < (nextM l p 9).1 then 0 else (nextM l p 9).1) = k
    split
    · exact nextM_le h1
    · exact nextM_le h1
    · exact nextM_le h1
    · exact nextM_le h1
    · exact nextM_le h1
    · exact nextM_le (valueM_le l _ _ h1)
    · exact nextM_le (valueM_le l _ _ (valueM_le l _ _ h1))
    · exact nextM_le (valueM_le l _ _ (valueM_le l _ _ h1))
    · exact nextM_le h1
theorem insC_len2 (l : List Ins) : (insC l).length = l.length * 2 := insC_len l
theorem valueM_len (l : List UInt8) : ∀ (d p : Nat), (valueM l d p).1.length + 1 ≤ 2 ^ (d + 1)
  | d, p => by
    have h0 : 1 ≤ 2 ^ d := Nat.one_le_two_pow
    have h1 : 2 ^ (d + 1) = 2 * 2 ^ d := by rw [Nat.pow_succ]; omega
    unfold valueM
    simp only
    generalize (if d = 0 ∧ 5 < (nextM l p 9).1 then 0 else (nextM l p 9).1) = k
    split
    · simp only [List.length_singleton]; omega
    · simp only [List.length_singleton]; omega
    · simp only [List.length_singleton]; omega
    · simp only [List.length_singleton]; omega
    · simp only [List.length_singleton]; omega
    · have a := valueM_len l ‹_› (nextM l p 9).2
      simp only [List.length_append, List.length_singleton]; omega
    · rename_i d
      have a := valueM_len l d (nextM l p 9).2
      have b := valueM_len l d (valueM l d (nextM l p 9).2).2
      simp only [List.length_append, List.length_singleton]; omega
    · rename_i d
      have a := valueM_len l d (nextM l p 9).2
      have b := valueM_len l d (valueM l d (nextM l p 9).2).2
      simp only [List.length_append, List.length_singleton]; omega
    · simp only [List.length_singleton]; omega
theorem valueM_6 {l : List UInt8} {d p p1 : Nat} (e0 : nextM l p 9 = (6, p1)) : valueM l (d + 1) p = ((valueM l d p1).1 ++ [⟨9 + ((nextM l (valueM l d p1).2 2).1 : Int), 0⟩], (nextM l (valueM l d p1).2 2).2) := by
  conv => lhs; unfold valueM
  rw [e0]; rfl
theorem valueM_7 {l : List UInt8} {d p p1 : Nat} (e0 : nextM l p 9 = (7, p1)) : valueM l (d + 1) p = ((valueM l d p1).1 ++ (valueM l d (valueM l d p1).2).1 ++ [⟨11, 12 + ((nextM l (valueM l d (valueM l d p1).2).2 13).1 : Int)⟩], (nextM l (valueM l d (valueM l d p1).2).2 13).2) := by
  conv => lhs; unfold valueM
  rw [e0]; rfl
theorem valueM_8 {l : List UInt8} {d p p1 : Nat} (e0 : nextM l p 9 = (8, p1)) : valueM l (d + 1) p = ((valueM l d p1).1 ++ (valueM l d (valueM l d p1).2).1 ++ [⟨11, 12 + ((nextM l (valueM l d (valueM l d p1).2).2 13).1 : Int)⟩], (nextM l (valueM l d (valueM l d p1).2).2 13).2) := by
  conv => lhs; unfold valueM
  rw [e0]; rfl
end Go.Pb
set_option maxHeartbeats 4000000
set_option maxRecDepth 100000
set_option linter.unusedSimpArgs false
set_option linter.unusedVariables false
namespace Go.Proofs.YtcallbfckjlagaaDoor
open Go.Eng (IC IOper DReg IFn IsFn)
open Go.Sym Go.Pb
noncomputable section
def u27_5r : List IOper := [⟨some 4, .pur (.mv (.k (.int .i64 0))), none⟩]
def u27_5 : IC := .seq (.reg u27_5r) .ret
def u27_4 : IC := .cond (.t 14) u27_5 .skip
def u27_3r : DReg := ⟨[⟨some 5, .pur (.mv (.t 0)), none⟩, ⟨some 6, .pur (.nck (.t 5)), none⟩, ⟨some 7, .pur (.fad 1 (.t 6)), none⟩, ⟨some 8, .pur (.ld 1 false (.t 7)), none⟩, ⟨some 9, .pur (.mv (.t 0)), none⟩, ⟨some 10, .pur (.nck (.t 9)), none⟩, ⟨some 11, .pur (.fad 0 (.t 10)), none⟩, ⟨some 12, .pur (.ld 1 false (.t 11)), none⟩, ⟨some 13, .pur (.len (.t 12)), none⟩, ⟨some 14, .pur (.bin .geq (.t 8) (.t 13)), none⟩], [[], [0], [1, 0], [2, 1, 0], [], [4], [5, 4], [6, 5, 4], [7, 6, 5, 4], [3, 8, 2, 1, 0, 7, 6, 5, 4]], [(0, none), (1, none), (2, none), (3, none), (4, none), (5, none), (6, none), (7, none), (8, none), (9, none)]⟩
def u27_3 : IC := .seq (.drw 10 u27_3r) u27_4
def u27_7r : DReg := ⟨[⟨some 22, .pur (.mv (.t 0)), none⟩, ⟨some 23, .pur (.nck (.t 22)), none⟩, ⟨some 24, .pur (.fad 0 (.t 23)), none⟩, ⟨some 25, .pur (.ld 1 false (.t 24)), none⟩, ⟨some 26, .pur (.mv (.t 0)), none⟩, ⟨some 27, .pur (.nck (.t 26)), none⟩, ⟨some 28, .pur (.fad 1 (.t 27)), none⟩, ⟨some 29, .pur (.ld 1 false (.t 28)), none⟩, ⟨some 30, .pur (.bin .sub (.t 29) (.k (.int .i64 1))), none⟩, ⟨some 31, .pur (.iad 1 (.t 25) (.t 30)), none⟩, ⟨some 32, .pur (.ld 1 false (.t 31)), none⟩, ⟨some 33, .pur (.cvi .i64 (.t 32)), none⟩, ⟨some 34, .pur (.mv (.t 1)), none⟩, ⟨some 35, .pur (.bin .rem (.t 33) (.t 34)), none⟩, ⟨some 4, .pur (.mv (.t 35)), none⟩], [[], [0], [1, 0], [2, 1, 0], [], [4], [5, 4], [6, 5, 4], [7, 6, 5, 4], [3, 8, 2, 1, 0, 7, 6, 5, 4], [9, 3, 8, 2, 1, 0, 7, 6, 5, 4], [10, 9, 3, 8, 2, 1, 0, 7, 6, 5, 4], [], [11, 12, 10, 9, 3, 8, 2, 1, 0, 7, 6, 5, 4], [13, 0, 1, 2, 3, 4, 5, 6, 7, 8, 9, 10, 11, 12]], [(0, none), (1, none), (2, none), (3, none), (4, none), (5, none), (6, none), (7, none), (8, none), (9, none), (10, none), (11, none), (12, none), (13, none), (14, some [])]⟩
def u27_7 : IC := .seq (.drw 15 u27_7r) .ret
def u27_6r : List IOper := [⟨some 15, .pur (.mv (.t 0)), none⟩, ⟨some 16, .pur (.nck (.t 15)), none⟩, ⟨some 17, .pur (.fad 1 (.t 16)), none⟩, ⟨some 18, .pur (.ld 1 false (.t 17)), none⟩, ⟨some 19, .pur (.bin .add (.t 18) (.k (.int .i64 1))), none⟩, ⟨some 20, .pur (.nck (.t 15)), none⟩, ⟨some 21, .pur (.fad 1 (.t 20)), none⟩, ⟨none, .eff (.st 1 (.t 21) (.t 19)), none⟩]
def u27_6 : IC := .seq (.reg u27_6r) u27_7
def u27_2 : IC := .seq u27_3 u27_6
def u27_1r : List IOper := [⟨some 4, .pur (.mv (.k (.int .i64 0))), none⟩]
def u27_1 : IC := .seq (.reg u27_1r) u27_2
def u27 : IFn := ⟨36, u27_1, [.tmp 4]⟩
end
theorem isU27 : IsFn Tryd.prog 27 u27 := by unfold IsFn; kernel_rfl
instance i27_5 : WR Tryd.prog 36 u27_5 (rS u27_5r .ret []) := ⟨mkS⟩
instance i27_4 : WR Tryd.prog 36 u27_4 (rCE (.t 14) u27_5 .skip [0, 1, 14]) := ⟨mkCE⟩
instance i27_3 : WR Tryd.prog 36 u27_3 (rP 10 u27_3r u27_4 [0, 1]) := ⟨mkP rfl⟩
instance i27_7 : WR Tryd.prog 36 u27_7 (rP 15 u27_7r .ret [0, 1]) := ⟨mkP rfl⟩
instance i27_6 : WR Tryd.prog 36 u27_6 (rS u27_6r u27_7 [0, 1]) := ⟨mkS⟩
instance i27_2 : WR Tryd.prog 36 u27_2 (rQ u27_3 u27_6 [0, 1]) := ⟨mkQ⟩
instance i27_1 : WR Tryd.prog 36 u27_1 (rS u27_1r u27_2 [0, 1]) := ⟨mkS⟩
attribute [go_sem] u27_5r u27_3r u27_7r u27_6r u27_1r
theorem c_next (l : List UInt8) (hl : l.length ≤ 100000) (p : Nat) (hp : p ≤ l.length) (n : Nat) (h0 : 1 ≤ n) (hn : n ≤ 100000) (H : Hp) (cc t : Nat) (ht : H t = some (tapeB l p)) (htc : t < cc) :
    AC Tryd.prog 27 [.ptr t 0, I64 n] H cc (fun v H' c' => v = I64 ((nextM l p n).1 : Int) ∧ H' = H.upd t (tapeB l (nextM l p n).2)) := by
  refine AC.body mixedU isU27 (Nat.le_of_ble_eq_true rfl) fun hfr => ?_
  show IW Tryd.prog 36 u27_1 ⟨argT _, _, _⟩ (rt [.tmp 4] _)
  by_cases hlt : p < l.length
  · have hd : decide ((p : Int) ≥ l.length) = false := by simp; omega
    have hg := getB hlt
    have hw := w64 (n := (p : Int) + 1) (by omega) (by omega)
    have hw1 : ((p : Int) + 1 - 1) = (p : Int) := by omega
    have hw2 := w64 (n := (p : Int)) (by omega) (by omega)
    have hb := wb64 (l.getD p 0)
    have hm := nat_tmod (l.getD p 0).toNat n
    have hnz : ¬(n : Int) = 0 := by omega
    have hlen := bytesC_len l
    repeat' ((first | (with_reducible first | refine wr ?_ | refine i_ret ?_ | refine i_skip ?_ | refine i_exit ?_) | ((with_reducible first | refine k_cb ?_ ?_ | refine k_gb ?_ ?_ | refine k_gb' ?_ ?_) <;> (intro hb; try simp only [hb]))) <;> try simp only [go_sem, Nat.reduceAdd, Nat.reduceLeDiff, Nat.reduceEqDiff, Nat.reduceMul, Nat.reduceSub, ↓reduceIte, Int.reduceLT, Int.reduceLE, Int.reduceGT, Int.reduceGE, Nat.reduceLT, Nat.reduceGT, Int.reduceToNat, reduceCtorEq, Nat.reduceBEq, Int.reduceBEq, Int.reduceBNe, Int.reduceEq, Int.reduceNe, decide_true, decide_false, ht, hd, hg, hw, hw1, hw2, hb, hm, hnz, r_rem, hlen])
    have e : nextM l p n = ((l.getD p 0).toNat % n, p + 1) := by rw [nextM, if_neg (by omega)]
    rw [e]
    exact ⟨_, _, GL.refl _ _, rfl, rfl⟩
  · have hd : decide ((p : Int) ≥ l.length) = true := by simp; omega
    have hlen := bytesC_len l
    repeat' ((first | (with_reducible first | refine wr ?_ | refine i_ret ?_ | refine i_skip ?_ | refine i_exit ?_) | ((with_reducible first | refine k_cb ?_ ?_ | refine k_gb ?_ ?_ | refine k_gb' ?_ ?_) <;> (intro hb; try simp only [hb]))) <;> try simp only [go_sem, Nat.reduceAdd, Nat.reduceLeDiff, Nat.reduceEqDiff, Nat.reduceMul, Nat.reduceSub, ↓reduceIte, Int.reduceLT, Int.reduceLE, Int.reduceGT, Int.reduceGE, Nat.reduceLT, Nat.reduceGT, Int.reduceToNat, reduceCtorEq, Nat.reduceBEq, Int.reduceBEq, Int.reduceBNe, Int.reduceEq, Int.reduceNe, decide_true, decide_false, ht, hd, hlen])
    have e : nextM l p n = (0, p) := by rw [nextM, if_pos (by omega)]
    rw [e]
    refine ⟨_, _, GL.refl _ _, rfl, ?_⟩
    funext j
    by_cases ej : j = t
    · subst ej; rw [h_same, ht]
    · rw [h_ne ej]
end Go.Proofs.YtcallbfckjlagaaDoor
set_option linter.unusedVariables false
set_option linter.unusedSimpArgs false
namespace Go.Pb
open Go.Sym
theorem and127 (b : UInt8) : bits .and .u8 (b.toNat : Int) 127 = ((b.toNat % 128 : Nat) : Int) := by
  have key : ∀ n : Nat, n < 256 → bits .and .u8 (n : Int) 127 = ((n % 128 : Nat) : Int) := by decide +kernel
  exact key _ (by have := b.toNat_lt; omega)
theorem or64 {k z x : Nat} (hz : z < 2 ^ (7 * k)) (hx : x < 128) (hk : k ≤ 7) : bits .or .u64 (z : Int) ((x * 2 ^ (7 * k) : Nat) : Int) = ((z + x * 2 ^ (7 * k) : Nat) : Int) := by
  have h1 : 2 ^ (7 * k) ≤ 2 ^ 49 := Nat.pow_le_pow_right (by omega) (by omega)
  have h2 : x * 2 ^ (7 * k) ≤ 127 * 2 ^ 49 := Nat.mul_le_mul (by omega) h1
  have e0 : (z ||| x * 2 ^ (7 * k)) = z + x * 2 ^ (7 * k) := by
    rw [Nat.or_comm, ← Nat.shiftLeft_eq, ← Nat.shiftLeft_add_eq_or_of_lt hz, Nat.add_comm]
  have e1 : BitVec.ofInt 64 (z : Int) = BitVec.ofNat 64 z := by simp
  have e2 : BitVec.ofInt 64 ((x * 2 ^ (7 * k) : Nat) : Int) = BitVec.ofNat 64 (x * 2 ^ (7 * k)) := BitVec.ofInt_natCast ..
  show IntKind.u64.wrap (((BitVec.ofInt 64 (z : Int)) ||| (BitVec.ofInt 64 ((x * 2 ^ (7 * k) : Nat) : Int))).toNat : Int) = _
  rw [e1, e2, BitVec.toNat_or, BitVec.toNat_ofNat, BitVec.toNat_ofNat, Nat.mod_eq_of_lt (by omega), Nat.mod_eq_of_lt (by omega), e0, wu64 (by omega) (by omega)]
theorem shl64 {k x : Nat} (hx : x < 128) (hk : k ≤ 7) : binR .shl (.int .u64 (x : Int)) (.int .i64 ((7 * k : Nat) : Int)) = some (.int .u64 ((x * 2 ^ (7 * k) : Nat) : Int)) := by
  have h1 : 2 ^ (7 * k) ≤ 2 ^ 49 := Nat.pow_le_pow_right (by omega) (by omega)
  have h2 : x * 2 ^ (7 * k) ≤ 127 * 2 ^ 49 := Nat.mul_le_mul (by omega) h1
  have e : min (((7 * k : Nat) : Int).toNat) IntKind.u64.bits = 7 * k := by
    show min (((7 * k : Nat) : Int).toNat) 64 = 7 * k
    omega
  rw [r_shl (by omega), e]
  have e2 : (x : Int) * 2 ^ (7 * k) = ((x * 2 ^ (7 * k) : Nat) : Int) := by simp
  rw [e2, wu64 (by omega) (by omega)]
theorem quo2 {z : Nat} (h : z < 18446744073709551616) : IntKind.u64.wrap ((z : Int).tdiv 2) = ((z / 2 : Nat) : Int) := by
  have h1 : ((z : Int).tdiv 2) = ((z / 2 : Nat) : Int) := by simp [Int.tdiv]
  rw [h1, wu64 (by omega) (by omega)]
theorem rem2 (z : Nat) : (z : Int).tmod 2 = ((z % 2 : Nat) : Int) := by simp [Int.tmod]
theorem sls_from {s : List UInt8} {k : Nat} (h : k ≤ s.length) : slsR s (some (.int .i64 (k : Int))) none = some (.str (s.drop k)) := by
  rw [r_sls (l := k) (h := s.length) rfl (by simp [boundOf]) (Nat.le_refl _) h, List.take_of_length_le (by simp)]
theorem sls_to {s : List UInt8} {k : Nat} (h : k ≤ s.length) : slsR s none (some (.int .i64 (k : Int))) = some (.str (s.take k)) := by
  rw [r_sls (l := 0) (h := k) (by simp [boundOf]) rfl h (Nat.zero_le _), List.drop_zero, Nat.sub_zero]
def varL : Nat → Nat → Nat → List UInt8 → Option (Nat × List UInt8)
  | 0, _, _, _ => none
  | _ + 1, _, _, [] => none
  | n + 1, k, z, b :: r => if b.toNat < 128 then some (z + b.toNat % 128 * 2 ^ (7 * k), r) else varL n (k + 1) (z + b.toNat % 128 * 2 ^ (7 * k)) r
def unzig (z : Nat) : Int := if z % 2 = 1 then -((z / 2 : Nat) : Int) - 1 else ((z / 2 : Nat) : Int)
abbrev RS := List UInt8 × Bool
def rdNum (s : RS) : Int × RS := match varL 8 0 0 s.1 with
  | some (z, r) => (unzig z, (r, s.2))
  | none => (0, ([], true))
def rdCnt (s : RS) : Nat × RS := if (rdNum s).1 < 0 ∨ (rdNum s).1 > (rdNum s).2.1.length then (0, ([], true)) else ((rdNum s).1.toNat, (rdNum s).2)
def rdMany {α : Type} (f : RS → α × RS) : Nat → RS → List α × RS
  | 0, s => ([], s)
  | n + 1, s => ((rdMany f n s).1 ++ [(f (rdMany f n s).2).1], (f (rdMany f n s).2).2)
def rdIns (s : RS) : Ins × RS := (⟨(rdNum s).1, (rdNum (rdNum s).2).1⟩, (rdNum (rdNum s).2).2)
def rdStr (s : RS) : List UInt8 × RS := ((rdCnt s).2.1.take (rdCnt s).1, ((rdCnt s).2.1.drop (rdCnt s).1, (rdCnt s).2.2))
def rdEnt (s : RS) : Ent × RS :=
  let a := rdNum s; let b := rdNum a.2; let c := rdNum b.2; let d := rdNum c.2
  (⟨a.1, b.1, c.1, d.1⟩, d.2)
def rdNums (s : RS) : List Int × RS := rdMany rdNum (rdCnt s).1 (rdCnt s).2
def rdPrg (s : RS) : Prg × RS :=
  let a := rdMany rdIns (rdCnt s).1 (rdCnt s).2
  let b := rdMany rdStr (rdCnt a.2).1 (rdCnt a.2).2
  let c := rdMany rdEnt (rdCnt b.2).1 (rdCnt b.2).2
  let d := rdNums c.2
  let e := rdNums d.2
  let f := rdNum e.2
  let g := rdNum f.2
  (⟨a.1, b.1, c.1, d.1, e.1, f.1, g.1⟩, g.2)
def Prg.none : Prg := ⟨[], [], [], [], [], 0, 0⟩
def decP (s : List UInt8) : Option Prg := if (rdPrg (s, false)).2.2 = true ∨ validM (rdPrg (s, false)).1 ≠ 0 ∨ encV (rdPrg (s, false)).1 ≠ s then Option.none else some (rdPrg (s, false)).1
def decV : Option Prg → DV
  | Option.none => .tup [Prg.none.v, I64 51]
  | some c => .tup [c.v, I64 0]
abbrev rdB (s : RS) : Blk := ⟨0, true, [.str s.1, .bool s.2]⟩
theorem varL_lt : ∀ (n k z : Nat) (s : List UInt8) (z' : Nat) (r : List UInt8), z < 2 ^ (7 * k) → varL n k z s = some (z', r) → z' < 2 ^ (7 * (k + n)) ∧ r.length < s.length
  | 0, _, _, _, _, _, _, h => by cases h
  | _ + 1, _, _, [], _, _, _, h => by cases h
  | n + 1, k, z, b :: s, z', r, hz, h => by
    have hb : b.toNat % 128 < 128 := Nat.mod_lt _ (by omega)
    have h1 : z + b.toNat % 128 * 2 ^ (7 * k) < 2 ^ (7 * (k + 1)) := by
      have e : 2 ^ (7 * (k + 1)) = 128 * 2 ^ (7 * k) := by rw [Nat.mul_add, Nat.pow_add]; omega
      have : b.toNat % 128 * 2 ^ (7 * k) ≤ 127 * 2 ^ (7 * k) := Nat.mul_le_mul_right _ (by omega)
      omega
    simp only [varL] at h
    split at h
    · cases h
      refine ⟨Nat.lt_of_lt_of_le h1 (Nat.pow_le_pow_right (by omega) (by omega)), by simp⟩
    · obtain ⟨a, b⟩ := varL_lt n (k + 1) _ s z' r h1 h
      refine ⟨by have e : k + 1 + n = k + (n + 1) := by omega
                 rwa [e] at a, by simp only [List.length_cons]; omega⟩
theorem varL_step {n k z : Nat} {s : List UInt8} {b : UInt8} (h : s[k]? = some b) : varL (n + 1) k z (s.drop k) = if b.toNat < 128 then some (z + b.toNat % 128 * 2 ^ (7 * k), s.drop (k + 1)) else varL n (k + 1) (z + b.toNat % 128 * 2 ^ (7 * k)) (s.drop (k + 1)) := by
  have hk : k < s.length := (List.getElem?_eq_some_iff.1 h).1
  rw [List.drop_eq_getElem_cons hk]
  rw [List.getElem?_eq_getElem hk] at h
  cases h
  rfl
theorem varL_end {n k z : Nat} {s : List UInt8} (h : ¬(k < s.length ∧ n ≠ 0)) : varL n k z (s.drop k) = none := by
  cases n with
  | zero => rfl
  | succ n =>
    rw [List.drop_eq_nil_of_le (by omega)]; rfl
theorem pow7 (k : Nat) : 2 ^ (7 * (k + 1)) = 128 * 2 ^ (7 * k) := by rw [Nat.mul_add, Nat.pow_add]; omega
theorem unzig_bd {z : Nat} (h : z < 2 ^ 56) : -36028797018963968 ≤ unzig z ∧ unzig z < 36028797018963968 := by
  unfold unzig; split <;> omega
theorem rdNum_bd (s : RS) : -36028797018963968 ≤ (rdNum s).1 ∧ (rdNum s).1 < 36028797018963968 := by
  unfold rdNum
  split
  · rename_i z r h
    exact unzig_bd (varL_lt 8 0 0 s.1 z r (by decide) h).1
  · simp
theorem rdNum_len (s : RS) : (rdNum s).2.1.length ≤ s.1.length := by
  unfold rdNum
  split
  · rename_i z r h
    have := (varL_lt 8 0 0 s.1 z r (by decide) h).2
    simp only; omega
  · simp
theorem rdCnt_len (s : RS) : (rdCnt s).2.1.length ≤ s.1.length ∧ (rdCnt s).1 ≤ (rdCnt s).2.1.length := by
  have h := rdNum_len s
  unfold rdCnt
  split
  · simp
  · rename_i h1; simp only; omega
theorem rdMany_len {α : Type} {f : RS → α × RS} (hf : ∀ s, (f s).2.1.length ≤ s.1.length) : ∀ (n : Nat) (s : RS), (rdMany f n s).2.1.length ≤ s.1.length ∧ (rdMany f n s).1.length = n
  | 0, s => ⟨Nat.le_refl _, rfl⟩
  | n + 1, s => by
    obtain ⟨a, b⟩ := rdMany_len hf n s
    have := hf (rdMany f n s).2
    simp only [rdMany, List.length_append, List.length_singleton]; omega
theorem rdMany_all {α : Type} {f : RS → α × RS} {p : α → Prop} {m : Nat} (hf : ∀ s : RS, s.1.length ≤ m → p (f s).1 ∧ (f s).2.1.length ≤ s.1.length) : ∀ (n : Nat) (s : RS), s.1.length ≤ m → (∀ x ∈ (rdMany f n s).1, p x) ∧ (rdMany f n s).2.1.length ≤ s.1.length
  | 0, s, _ => ⟨fun x hx => (by cases hx), Nat.le_refl _⟩
  | n + 1, s, h => by
    obtain ⟨a, b⟩ := rdMany_all hf n s h
    obtain ⟨c, d⟩ := hf (rdMany f n s).2 (by omega)
    refine ⟨fun x hx => ?_, by simp only [rdMany]; omega⟩
    simp only [rdMany, List.mem_append, List.mem_singleton] at hx
    rcases hx with hx | rfl
    · exact a x hx
    · exact c
theorem rdIns_len (s : RS) : (rdIns s).2.1.length ≤ s.1.length := by
  have a := rdNum_len s
  have b := rdNum_len (rdNum s).2
  simp only [rdIns]; omega
theorem rdStr_len (s : RS) : (rdStr s).2.1.length ≤ s.1.length := by
  have a := (rdCnt_len s).1
  simp only [rdStr, List.length_drop]; omega
theorem rdEnt_len (s : RS) : (rdEnt s).2.1.length ≤ s.1.length := by
  have a := rdNum_len s
  have b := rdNum_len (rdNum s).2
  have c := rdNum_len (rdNum (rdNum s).2).2
  have d := rdNum_len (rdNum (rdNum (rdNum s).2).2).2
  simp only [rdEnt]; omega
theorem rdNums_len (s : RS) : (rdNums s).2.1.length ≤ s.1.length := by
  have a := (rdCnt_len s).1
  have b := (rdMany_len rdNum_len (rdCnt s).1 (rdCnt s).2).1
  simp only [rdNums]; omega
theorem rdEnt_many (s : RS) : rdMany rdNum 4 s = ([(rdEnt s).1.mode, (rdEnt s).1.trigger, (rdEnt s).1.index, (rdEnt s).1.pos], (rdEnt s).2) := rfl
theorem insC_step (s : RS) (n : Nat) : insC (rdMany rdIns (n + 1) s).1 = insC (rdMany rdIns n s).1 ++ [I64 (rdNum (rdMany rdIns n s).2).1, I64 (rdNum (rdNum (rdMany rdIns n s).2).2).1] := by
  simp only [rdMany, insC_app, insC_one, rdIns]
theorem strC_len (l : List (List UInt8)) : (cellsL (l.map DV.str)).length = l.length * 1 := by
  rw [cellsL_length (u := 1)]
  · simp
  · intro x hx; obtain ⟨y, -, rfl⟩ := List.mem_map.1 hx; rfl
theorem strC_step (s : RS) (n : Nat) : cellsL ((rdMany rdStr (n + 1) s).1.map DV.str) = cellsL ((rdMany rdStr n s).1.map DV.str) ++ [.str (rdStr (rdMany rdStr n s).2).1] := by
  simp only [rdMany, List.map_append, cellsL_append]; rfl
theorem entC_len' (l : List Ent) : (cellsL (l.map Ent.v)).length = l.length * 4 := by
  rw [cellsL_length (u := 4)]
  · simp
  · intro x hx; obtain ⟨y, -, rfl⟩ := List.mem_map.1 hx; rfl
theorem entC_step (s : RS) (n : Nat) : cellsL ((rdMany rdEnt (n + 1) s).1.map Ent.v) = cellsL ((rdMany rdEnt n s).1.map Ent.v) ++ (rdEnt (rdMany rdEnt n s).2).1.v.cells := by
  simp only [rdMany, List.map_append, cellsL_append]; simp [cellsL]
theorem rdStr_all (n : Nat) (s : RS) (h : s.1.length ≤ 1000000) : ∀ x ∈ (rdMany rdStr n s).1, x.length ≤ 1000000 :=
  (rdMany_all (p := fun x => x.length ≤ 1000000) (m := 1000000) (fun s hs => ⟨by
    have := (rdCnt_len s).1
    simp only [rdStr, List.length_take]; omega, rdStr_len s⟩) n s h).1
theorem ins_unit (l : List Ins) : ∀ x ∈ l.map Ins.v, x.cells.length = 2 := by
  intro x hx; obtain ⟨y, -, rfl⟩ := List.mem_map.1 hx; rfl
theorem str_unit (l : List (List UInt8)) : ∀ x ∈ l.map DV.str, x.cells.length = 1 := by
  intro x hx; obtain ⟨y, -, rfl⟩ := List.mem_map.1 hx; rfl
theorem ent_unit (l : List Ent) : ∀ x ∈ l.map Ent.v, x.cells.length = 4 := by
  intro x hx; obtain ⟨y, -, rfl⟩ := List.mem_map.1 hx; rfl
theorem set_fill {l : List Int} {n k : Nat} {a : Int} (hl : l.length = k) (hk : k < n) : (l ++ List.replicate (n - k) 0).set k a = l ++ [a] ++ List.replicate (n - (k + 1)) 0 := by
  obtain ⟨m, hm⟩ : ∃ m, n - k = m + 1 := ⟨n - k - 1, by omega⟩
  have hm2 : n - (k + 1) = m := by omega
  rw [hm, hm2, List.set_append_right _ _ (by omega), hl, Nat.sub_self, List.replicate_succ, List.set_cons_zero]
  simp
def lnM : List Ins → Nat → List (List UInt8)
  | [], _ => []
  | i :: r, k => lineB k i :: lnM r (k + 1)
theorem lnM_flat : ∀ (l : List Ins) (k : Nat), (lnM l k).flatten = lstF l k
  | [], _ => rfl
  | i :: r, k => by simp only [lnM, lstF, List.flatten_cons]; rw [lnM_flat r (k + 1)]
theorem lnM_len : ∀ (l : List Ins) (k : Nat), (lnM l k).length = l.length
  | [], _ => rfl
  | i :: r, k => by simp only [lnM, List.length_cons]; rw [lnM_len r (k + 1)]
theorem lnM_app : ∀ (a b : List Ins) (n : Nat), lnM (a ++ b) n = lnM a n ++ lnM b (n + a.length)
  | [], b, n => by simp [lnM]
  | i :: a, b, n => by
    simp only [List.cons_append, lnM, List.length_cons]
    rw [lnM_app a b (n + 1)]
    congr 3; omega
theorem lnM_step {l : List Ins} {k : Nat} {i : Ins} (h : l[k]? = some i) : lnM (l.take (k + 1)) 0 = lnM (l.take k) 0 ++ [lineB k i] := by
  have hk : k < l.length := (List.getElem?_eq_some_iff.1 h).1
  rw [List.take_add_one, h, lnM_app]
  have : (l.take k).length = k := by simp; omega
  simp [lnM, this]
end Go.Pb
