/-
  HELPERS of the claim: part 5 of its texts.
-/
import Derived.Test.YtcallbfckjlagaaDoorDecd
set_option maxHeartbeats 4000000
set_option maxRecDepth 100000
set_option linter.unusedSimpArgs false
set_option linter.unusedVariables false
namespace Go.Proofs.YtcallbfckjlagaaDoor
open Go.Eng (IC IOper DReg IFn IsFn)
open Go.Sym Go.Pb
theorem c_after (i : Ins) (p : Nat) (h : Int) (hp : p ≤ 4000) (h1 : -100 ≤ h) (h2 : h ≤ 100) (hA : i.op = 12 ∨ i.op = 13 ∨ i.op = 14 → 0 ≤ i.A) : PC Tryd.prog 59 [i.v, I64 (p : Int), I64 h] (.lst ((afterM i p h).map Stp.v)) := by
  obtain ⟨b1, b2, b3, b4⟩ := eff_bd i.op
  have w1 := w64 (n := (p : Int) + 1) (by omega) (by omega)
  have w2 := w64 (n := h - 1) (by omega) (by omega)
  have w3 := w64 (n := h - (effM i.op).1) (by omega) (by omega)
  have w4 := w64 (n := h - (effM i.op).1 + (effM i.op).2.1) (by omega) (by omega)
  have n1 : i.op = 12 → (i.A.toNat : Int) = i.A := by omega
  have n2 : i.op = 13 → (i.A.toNat : Int) = i.A := by omega
  have n3 : i.op = 14 → (i.A.toNat : Int) = i.A := by omega
  refine PC.of mixedU isU59 (Nat.le_of_ble_eq_true rfl) (by simp [DV.nlL, DV.nl, nlL_ints, nlL_strs, nlL_instrs, nlL_entries, nlL_stp]) (by simp [DV.nlL, DV.nl, nlL_ints, nlL_strs, nlL_instrs, nlL_entries, nlL_stp]) ?_
  show IW Tryd.prog 62 u59_1 ⟨argT _, _, _⟩ (rt [.tmp 6] _)
  repeat' ((first | with_reducible refine wr ?_ | ((with_reducible refine wb2 ?_ ?_) <;> (intro hb; try simp only [hb])) | ((with_reducible refine AC.call ((c_eff _).at _ _) ?_); rintro _ _ _ ⟨rfl, rfl, rfl⟩ -) | fail) <;> try simp only [go_sem, seval, w1, w2, w3, w4])
  · have e : afterM i p h = [] := by simp_all [afterM]
    rw [e]; exact pc_snil
  all_goals
    refine pc_slc (u := 2) (by simp [Hp.upd]; rfl) rfl ?_ (stp_unit _) ⟨[], ?_⟩ <;> simp_all [afterM, cellsL, DV.cells]
theorem l_heightsR (c : Prg) (hl : Lim c) (hj : jumpsM c = true) (r : Option (List Int)) (n : Nat) (h : List Int) (st : List (Nat × Int)) (o : Option Nat) (junk : List DV) (cc : Nat) (h2 : 2 ≤ cc) (hlen : h.length = c.instrs.length)
    (hst : ∀ s ∈ st, s.1 ≤ 4000 ∧ 0 ≤ s.2 ∧ s.2 ≤ 50) (hb : st.length + n ≤ 200000) (ho : o = none → st = []) (ho2 : ∀ i, o = some i → 2 ≤ i ∧ i < cc) (hr : hgtR c n h st = some r) :
    IW Tryd.prog 123 (.loop u44_23) ⟨tm [(1, .ptr 0 0), (4, .slc 1 0 c.instrs.length), (6, todoV o st.length)], optH (baseH c h) o ⟨2, true, stC st ++ junk⟩, cc⟩ (bk 4 (sq Tryd.prog 123 u44_48 (rt [.tmp 2, .tmp 3] fun v H' x => ∃ H2, GL H' [v] H2 [hgtV r]))) := by
  have hlI := hl
  obtain ⟨wp, wv, ws, wi, wt, we, li, ls, le, lp, lv⟩ := hl
  have hjI : ∀ i ∈ c.instrs, i.op = 12 ∨ i.op = 13 ∨ i.op = 14 → 0 ≤ i.A ∧ i.A ≤ (c.instrs.length : Int) - 1 := by
    intro i hi hop
    simp only [jumpsM, Bool.and_eq_true, List.all_eq_true] at hj
    have := hj.1 i hi
    have hk : (effM i.op).2.2 = 7 := by rcases hop with e | e | e <;> rw [e] <;> decide
    simpa [jumpI, hk, inM] using this
  refine i_loop (fun q : Nat × List Int × List (Nat × Int) × Option Nat × List DV => [(1, .ptr 0 0), (4, .slc 1 0 c.instrs.length), (6, todoV q.2.2.2.1 q.2.2.1.length)])
    (fun q => optH (baseH c q.2.1) q.2.2.2.1 ⟨2, true, stC q.2.2.1 ++ q.2.2.2.2⟩)
    (fun q cc => 2 ≤ cc ∧ q.2.1.length = c.instrs.length ∧ (∀ s ∈ q.2.2.1, s.1 ≤ 4000 ∧ 0 ≤ s.2 ∧ s.2 ≤ 50) ∧ q.2.2.1.length + q.1 ≤ 200000 ∧ (q.2.2.2.1 = none → q.2.2.1 = []) ∧ (∀ i, q.2.2.2.1 = some i → 2 ≤ i ∧ i < cc) ∧ hgtR c q.1 q.2.1 q.2.2.1 = some r)
    (fun q => q.1) (n, h, st, o, junk) ⟨rfl, rfl, rfl, trivial⟩ (Sub.refl _) ⟨h2, hlen, hst, hb, ho, ho2, hr⟩ ?_
  clear hlen hst hb ho ho2 hr h2
  rintro ⟨n, h, st, o, junk⟩ cc ⟨h2, hlen, hst, hb, ho, ho2, hr⟩
  simp only at hlen hst hb ho ho2 hr
  obtain ⟨m, rfl⟩ : ∃ m, n = m + 1 := by
    cases n with
    | zero => cases hr
    | succ m => exact ⟨m, rfl⟩
  have e0 : ¬ 0 = cc := by omega
  have e1 : ¬ 1 = cc := by omega
  rcases st with _ | ⟨⟨p, x⟩, st⟩
  · -- nothing is left
    simp only [hgtR, Option.some.injEq] at hr
    subst hr
    rcases o with _ | id
    · repeat' ((first | with_reducible refine wr ?_ | ((with_reducible refine wb2 ?_ ?_) <;> (intro hb; try simp only [hb])) | fail) <;> try simp only [go_sem, seval])
      exact pc_slc2 (u := 1) (baseH_1 c h) rfl (by simp [hlen]) (ints_unit h) ⟨[], by rw [cells_ints, List.append_nil]⟩
    · repeat' ((first | with_reducible refine wr ?_ | ((with_reducible refine wb2 ?_ ?_) <;> (intro hb; try simp only [hb])) | fail) <;> try simp only [go_sem, seval, Int.natCast_zero, Int.ofNat_zero, Int.cast_ofNat_Int])
      exact pc_slc2 (u := 1) (blk := ⟨1, true, h.map I64⟩) (by obtain ⟨i2, i3⟩ := ho2 id rfl; simp only [Hp.upd]; rw [if_neg (by omega)]; exact baseH_1 c h) rfl (by simp [hlen]) (ints_unit h) ⟨[], by rw [cells_ints, List.append_nil]⟩
  rcases o with _ | id
  · exact absurd (ho rfl) (by simp)
  obtain ⟨i2, i3⟩ := ho2 id rfl
  have ne0 : ¬ 0 = id := by omega
  have ne1 : ¬ 0 = cc := by omega
  have ne2 : ¬ 0 = cc + 1 := by omega
  have ne3 : ¬ 1 = id := by omega
  have ne4 : ¬ 1 = cc := by omega
  have ne5 : ¬ 1 = cc + 1 := by omega
  have ne6 : ¬ id = 0 := by omega
  have ne7 : ¬ id = 1 := by omega
  have ne8 : ¬ id = cc := by omega
  have ne9 : ¬ id = cc + 1 := by omega
  have ne10 : ¬ cc = 0 := by omega
  have ne11 : ¬ cc = 1 := by omega
  have ne12 : ¬ cc = id := by omega
  have ne13 : ¬ cc = cc + 1 := by omega
  have ne14 : ¬ cc + 1 = 0 := by omega
  have ne15 : ¬ cc + 1 = 1 := by omega
  have ne16 : ¬ cc + 1 = id := by omega
  have ne17 : ¬ cc + 1 = cc := by omega
  rw [List.length_cons] at hb
  have hpos : decide (((st.length + 1 : Nat) : Int) > 0) = true := by simp
  have hw := w64 (n := (((st.length + 1 : Nat) : Int) - 1)) (by omega) (by omega)
  have hw1 : (((st.length + 1 : Nat) : Int) - 1) = (st.length : Int) := by omega
  rw [hw1] at hw
  obtain ⟨s1, s2, s3⟩ := hst (p, x) List.mem_cons_self
  simp only at s1 s2 s3
  have hst' : ∀ s ∈ st, s.1 ≤ 4000 ∧ 0 ≤ s.2 ∧ s.2 ≤ 50 := fun s hs => hst s (List.mem_cons_of_mem _ hs)
  have hsl := stC_len st
  have hcell : ldB 2 true (st.length * 2) (some ⟨2, true, stC ((p, x) :: st) ++ junk⟩) = some (.agg [I64 (p : Int), I64 x]) := by
    rw [b_ldn (by rw [stC_cons]; simp [hsl])]
    rw [stC_cons, List.append_assoc, List.drop_left' hsl]; rfl
  have htake : (stC ((p, x) :: st) ++ junk).take (st.length * 2) = stC st := by rw [stC_cons, List.append_assoc, List.take_left' hsl]
  have hcl : st.length * 2 ≤ (stC ((p, x) :: st) ++ junk).length := by rw [stC_cons]; simp [hsl]
  simp only [hgtR] at hr
  by_cases hp : h.length ≤ p
  · rw [if_pos (.inl hp)] at hr
    cases hr
    have hd : decide ((p : Int) ≥ c.instrs.length) = true := by simp; omega
    repeat' ((first | with_reducible refine wr ?_ | ((with_reducible refine wb2 ?_ ?_) <;> (intro hb; try simp only [hb])) | fail) <;> try simp only [go_sem, seval, List.length_cons, hw1, hw, hpos, hcell, hd, ne0, ne1, ne2, ne3, ne4, ne5, ne6, ne7, ne8, ne9, ne10, ne11, ne12, ne13, ne14, ne15, ne16, ne17, baseH_0, baseH_1, Nat.lt_add_one, Nat.le_add_right])
    all_goals exact pc_snil2
  have hp' : p < h.length := by omega
  have hpi : p < c.instrs.length := by omega
  have hgh := List.getElem?_eq_getElem hp'
  have hgi := List.getElem?_eq_getElem hpi
  have hd : decide ((p : Int) ≥ c.instrs.length) = false := by simp; omega
  have eh : h.getD p 0 = h[p] := by simp [List.getD, hgh]
  have ei : c.instrs.getD p ⟨0, 0⟩ = c.instrs[p] := by simp [List.getD, hgi]
  rw [eh, ei] at hr
  have hput := put_map (f := I64) (l := h) (n := p) (a := x) hp'
  have hle : p + 1 ≤ h.length := hp'
  obtain ⟨b1, b2, b3, b4⟩ := eff_bd c.instrs[p].op
  have hal := afterM_len c.instrs[p] p x
  have hmx : st.length + (afterM c.instrs[p] p x).length ≤ maxLen := by simp only [maxLen]; omega
  repeat' ((first | with_reducible refine wr ?_ | ((with_reducible refine wb2 ?_ ?_) <;> (intro hb; try simp only [hb])) | ((with_reducible refine AC.call ((c_eff _).at _ _) ?_); rintro _ _ _ ⟨rfl, rfl, rfl⟩ -) | ((with_reducible refine AC.call ((c_after c.instrs[p] p x s1 (by omega) (by omega) (fun hop => (hjI _ (List.getElem_mem hpi) hop).1)).at _ _) ?_); rintro _ _ _ ⟨rfl, rfl, rfl⟩ -) | ((with_reducible refine k_eval (b_app hcl (by omega) hmx) ?_)) | fail) <;> try simp only [go_sem, seval, List.length_cons, hw1, hw, hpos, hcell, hd, hgh, hgi, hpi, ne0, ne1, ne2, ne3, ne4, ne5, ne6, ne7, ne8, ne9, ne10, ne11, ne12, ne13, ne14, ne15, ne16, ne17, baseH_0, baseH_1, Nat.lt_add_one, Nat.le_add_right, hput, hle, htake, unit_stp])
  · rw [if_pos (.inr (by simpa using hb))] at hr
    cases hr
    exact pc_snil2
  · rw [if_neg (by simp_all), if_pos (by simp_all), if_pos (by simp_all)] at hr
    cases hr
    exact pc_snil2
  · rw [if_neg (by simp_all), if_pos (by simp_all), if_neg (by simp_all)] at hr
    exact ⟨(m, h, st, some id, [I64 (p : Int), I64 x] ++ junk), rfl, by rw [← List.append_assoc, ← stC_cons]; (intro j b hj; simp only [Hp.upd, Hp.del, Sym.nil, baseH, optH] at hj ⊢; (repeat' split at hj) <;> (repeat' split) <;> first | exact hj | (exfalso; omega) | cases hj), inv ⟨by omega, hlen, hst', by simp only; omega, by simp, fun i hi => by cases hi; omega, hr⟩, by simp⟩
  · rw [if_neg (by simp_all), if_neg (by simp_all), if_pos (.inl (by simpa using hb))] at hr
    cases hr
    exact pc_snil2
  · rw [if_neg (by simp_all), if_neg (by simp_all), if_pos (.inr (by simp_all))] at hr
    cases hr
    exact pc_snil2
  all_goals
    rw [if_neg (by simp_all), if_neg (by simp_all), if_neg (by simp_all)] at hr
    have hbd := afterM_bd (x := x) li hpi (hjI _ (List.getElem_mem hpi)) s2 (by simp_all) (by simp_all)
    exact ⟨(m, h.set p x, (afterM c.instrs[p] p x).reverse ++ st, some (cc + 1 + 1), []), by simp [todoV]; omega, by rw [stC_app, List.append_nil]; (intro j b hj; simp only [Hp.upd, Hp.del, Sym.nil, baseH, optH] at hj ⊢; (repeat' split at hj) <;> (repeat' split) <;> first | exact hj | (exfalso; omega) | cases hj),
      inv ⟨by omega, by simp [hlen], fun s hs => by
        rw [List.mem_append, List.mem_reverse] at hs
        rcases hs with hs | hs
        · exact hbd s hs
        · exact hst' s hs, by simp only [List.length_append, List.length_reverse]; omega, by simp, fun i hi => by cases hi; omega, hr⟩, by simp⟩
theorem c_heightsR (c : Prg) (hl : Lim c) (hj : jumpsM c = true) (n : Nat) (hn0 : n ≤ 100000) (r : Option (List Int)) (hr : hgtR c n (List.replicate c.instrs.length (-1)) (entR c) = some r) : PC Tryd.prog 44 [c.v] (hgtV r) := by
  have hl0 := hl
  obtain ⟨wp, wv, ws, wi, wt, we, li, ls, le, lp, lv⟩ := hl
  have hms := r_msl (sz := 1) (bytes := 8) (z := [I64 0]) (k := .i64) (k' := .i64) (n := c.instrs.length) (by omega) (by omega) rfl rfl
  refine PC.of mixedU isU44 (Nat.le_of_ble_eq_true rfl) (by simp [DV.nlL, DV.nl, nlL_ints, nlL_strs, nlL_instrs, nlL_entries]) (by cases r <;> simp [hgtV, DV.nlL, DV.nl, nlL_ints]) ?_
  show IW Tryd.prog 123 u44_1 ⟨argT _, _, _⟩ (rt [.tmp 2, .tmp 3] _)
  repeat' ((first | with_reducible refine wr ?_ | ((with_reducible refine wb2 ?_ ?_) <;> (intro hb; try simp only [hb])) | fail) <;> try simp only [go_sem, seval, hms, madeL_one])
  -- every height is -1
  refine i_loop (fun k : Nat => [(1, .ptr 0 0), (4, .slc 1 0 c.instrs.length), (5, I64 k)]) (fun k => (nil.upd 0 ⟨0, true, c.cs⟩).upd 1 ⟨1, true, (fillM c.instrs.length k).map I64⟩) (fun k cc => 2 ≤ cc ∧ k ≤ c.instrs.length) (fun k => c.instrs.length - k) 0
    (by simp [tmLe, tm, Tm.upd]) (by simpa [fillM] using Sub.refl _) (by simp) ?_
  rintro k cc ⟨h2c, hk⟩
  by_cases hlt : k < c.instrs.length
  · have hd : decide ((k : Int) < c.instrs.length) = true := by simpa using hlt
    have hw := w64 (n := (k : Int) + 1) (by omega) (by omega)
    have hlen : (fillM c.instrs.length k).length = c.instrs.length := by simp [fillM]; omega
    have hle : k + 1 ≤ c.instrs.length := hlt
    have hput := put_map (f := I64) (l := fillM c.instrs.length k) (n := k) (a := -1) (by rw [hlen]; exact hlt)
    repeat' ((first | with_reducible refine wr ?_ | ((with_reducible refine wb2 ?_ ?_) <;> (intro hb; try simp only [hb])) | fail) <;> try simp only [go_sem, seval, hd, hw, hlen, hle, hlt, hput, h_upd2])
    exact ⟨k + 1, rfl, by rw [fillM_succ hlt]; exact Sub.refl _, inv ⟨h2c, hlt⟩, by omega⟩
  have hd : decide ((k : Int) < c.instrs.length) = false := by simpa using hlt
  have hfull : fillM c.instrs.length k = List.replicate c.instrs.length (-1) := by
    have : c.instrs.length - k = 0 := by omega
    have hk2 : k = c.instrs.length := by omega
    simp [fillM, this, hk2]
  repeat' ((first | with_reducible refine wr ?_ | ((with_reducible refine wb2 ?_ ?_) <;> (intro hb; try simp only [hb])) | fail) <;> try simp only [go_sem, seval, hd, hfull])
  clear hd hfull hlt hk
  -- the entries
  have hjE : ∀ e ∈ c.entries, 0 ≤ e.pos ∧ e.pos ≤ (c.instrs.length : Int) - 1 := by
    intro e he
    simp only [jumpsM, Bool.and_eq_true, List.all_eq_true] at hj
    have := hj.2 e he
    simpa [jumpE, inM] using this
  refine i_loop (fun p : Nat × Option Nat => [(1, .ptr 0 0), (4, .slc 1 0 c.instrs.length), (6, todoV p.2 p.1), (7, I64 p.1)])
    (fun p => optH ((nil.upd 0 ⟨0, true, c.cs⟩).upd 1 ⟨1, true, (List.replicate c.instrs.length (-1)).map I64⟩) p.2 ⟨2, true, entC c p.1⟩)
    (fun p cc => 2 ≤ cc ∧ p.1 ≤ c.entries.length ∧ (p.2 = none → p.1 = 0) ∧ ∀ i, p.2 = some i → 2 ≤ i ∧ i < cc) (fun p => c.entries.length - p.1) (0, none)
    (by simp [tmLe, tm, Tm.upd, todoV]) (Sub.refl _) (by simp; omega) ?_
  rintro ⟨k, o⟩ cc ⟨h2c, hk, hn, hs⟩
  simp only at hk hn hs
  by_cases hlt : k < c.entries.length
  · have hd : decide ((k : Int) < c.entries.length) = true := by simpa using hlt
    have hw := w64 (n := (k : Int) + 1) (by omega) (by omega)
    have hg := List.getElem?_eq_getElem hlt
    obtain ⟨p1, p2⟩ := hjE _ (List.getElem_mem hlt)
    have hpos : c.entries[k].pos = ((c.entries[k].pos.toNat : Nat) : Int) := by omega
    rcases o with _ | id
    · obtain rfl := hn rfl
      have hd0 : decide (0 < (c.entries.length : Int)) = true := by simpa using hlt
      have hw0 := w64 (n := 1) (by omega) (by omega)
      have ne0 : ¬ 0 = cc := by omega
      have ne1 : ¬ 0 = cc + 1 := by omega
      have ne2 : ¬ 1 = cc := by omega
      have ne3 : ¬ 1 = cc + 1 := by omega
      have ne4 : ¬ cc = 0 := by omega
      have ne5 : ¬ cc = 1 := by omega
      have ne6 : ¬ cc = cc + 1 := by omega
      have ne7 : ¬ cc + 1 = 0 := by omega
      have ne8 : ¬ cc + 1 = 1 := by omega
      have ne9 : ¬ cc + 1 = cc := by omega
      repeat' ((first | with_reducible refine wr ?_ | ((with_reducible refine wb2 ?_ ?_) <;> (intro hb; try simp only [hb])) | ((with_reducible refine k_eval (r_appn' (by decide) (by decide) (by decide)) ?_)) | fail) <;> try simp only [go_sem, seval, hd0, hw0, hg, ne0, ne1, ne2, ne3, ne4, ne5, ne6, ne7, ne8, ne9])
      refine ⟨(1, some (cc + 1)), ?_, ?_, inv ⟨by omega, hlt, by simp, by simp; omega⟩, by simp; omega⟩
      · simp [todoV]
      · rw [entC_succ hg, ← hpos]
        have hz : entC c 0 = [] := rfl
        rw [hz, List.nil_append]
        (intro j b hj; simp only [Hp.upd, Hp.del, Sym.nil, baseH, optH] at hj ⊢; (repeat' split at hj) <;> (repeat' split) <;> first | exact hj | (exfalso; omega) | cases hj)
    · obtain ⟨q1, q2⟩ := hs id rfl
      have ne0 : ¬ 0 = id := by omega
      have ne1 : ¬ 0 = cc := by omega
      have ne2 : ¬ 0 = cc + 1 := by omega
      have ne3 : ¬ 1 = id := by omega
      have ne4 : ¬ 1 = cc := by omega
      have ne5 : ¬ 1 = cc + 1 := by omega
      have ne6 : ¬ id = 0 := by omega
      have ne7 : ¬ id = 1 := by omega
      have ne8 : ¬ id = cc := by omega
      have ne9 : ¬ id = cc + 1 := by omega
      have ne10 : ¬ cc = 0 := by omega
      have ne11 : ¬ cc = 1 := by omega
      have ne12 : ¬ cc = id := by omega
      have ne13 : ¬ cc = cc + 1 := by omega
      have ne14 : ¬ cc + 1 = 0 := by omega
      have ne15 : ¬ cc + 1 = 1 := by omega
      have ne16 : ¬ cc + 1 = id := by omega
      have ne17 : ¬ cc + 1 = cc := by omega
      have hel := entC_len hk
      repeat' ((first | with_reducible refine wr ?_ | ((with_reducible refine wb2 ?_ ?_) <;> (intro hb; try simp only [hb])) | ((with_reducible refine k_eval (b_appx (by rw [hel]) (by omega) (by omega)) ?_)) | fail) <;> try simp only [go_sem, seval, hd, hw, hg, ne0, ne1, ne2, ne3, ne4, ne5, ne6, ne7, ne8, ne9, ne10, ne11, ne12, ne13, ne14, ne15, ne16, ne17])
      refine ⟨(k + 1, some (cc + 1)), ?_, ?_, inv ⟨by omega, hlt, by simp, by simp; omega⟩, by simp; omega⟩
      · simp [todoV]
      · rw [entC_succ hg, ← hpos]
        (intro j b hj; simp only [Hp.upd, Hp.del, Sym.nil, baseH, optH] at hj ⊢; (repeat' split at hj) <;> (repeat' split) <;> first | exact hj | (exfalso; omega) | cases hj)
  have hd : decide ((k : Int) < c.entries.length) = false := by simpa using hlt
  obtain rfl : k = c.entries.length := by omega
  have he : entC c c.entries.length = stC (entR c) ++ [] := by simp [entC, entR, stC]
  have hel : (entR c).length = c.entries.length := by simp [entR]
  have hst : ∀ s ∈ entR c, s.1 ≤ 4000 ∧ 0 ≤ s.2 ∧ s.2 ≤ 50 := by
    intro s hs
    simp only [entR, List.mem_reverse, List.mem_map] at hs
    obtain ⟨e, h1, rfl⟩ := hs
    have := hjE e h1
    simp only [entP]; omega
  have key := l_heightsR c hl0 hj r n (List.replicate c.instrs.length (-1)) (entR c) o [] cc h2c (by simp) hst (by omega) (fun h => List.eq_nil_of_length_eq_zero (by rw [hel]; exact hn h)) hs hr
  rw [← he, hel] at key
  rcases o with _ | id
  · repeat' ((first | with_reducible refine wr ?_ | ((with_reducible refine wb2 ?_ ?_) <;> (intro hb; try simp only [hb])) | fail) <;> try simp only [go_sem, seval, hd])
    exact key
  · obtain ⟨q1, q2⟩ := hs id rfl
    have ne0 : ¬ 0 = id := by omega
    have ne1 : ¬ 1 = id := by omega
    have ne2 : ¬ id = 0 := by omega
    have ne3 : ¬ id = 1 := by omega
    repeat' ((first | with_reducible refine wr ?_ | ((with_reducible refine wb2 ?_ ?_) <;> (intro hb; try simp only [hb])) | fail) <;> try simp only [go_sem, seval, hd, ne0, ne1, ne2, ne3])
    exact key
end Go.Proofs.YtcallbfckjlagaaDoor
set_option maxHeartbeats 4000000
set_option maxRecDepth 100000
set_option linter.unusedSimpArgs false
set_option linter.unusedVariables false
namespace Go.Proofs.YtcallbfckjlagaaDoor
open Go.Eng (IC IOper DReg IFn IsFn)
open Go.Sym Go.Pb
theorem c_heightsR' (c : Prg) (hl : Lim c) (hj : jumpsM c = true) : PC Tryd.prog 44 [c.v] (hgtV (hR c)) := by
  have h1 := hl.li
  have h2 := hl.le
  exact c_heightsR c hl hj (fuelR c) (by simp only [fuelR]; omega) _ (hR_eq h1 hj)
theorem hgtV_some {h : List Int} : hgtV (some h) = .tup [ints h, .bool true] := rfl
theorem hgtV_none : hgtV none = .tup [.lst [], .bool false] := rfl
theorem c_validR (c : Prg) (hs : ∀ s ∈ c.strings, s.length ≤ 140737488355328) (n1 : c.instrs.length ≤ 9223372036854775807) : PC Tryd.prog 23 [c.v] (I64 (validM c)) := by
  by_cases hL : limitsM c = true
  · have hl := Lim.of hL
    have hl0 := hl
    obtain ⟨wp, wv, ws, wi, wt, we, li, ls, le, lp, lv⟩ := hl
    have hL' := hL
    simp only [limitsM, Bool.and_eq_true, decide_eq_true_eq] at hL'
    obtain ⟨⟨⟨⟨⟨⟨h1, h2⟩, h3⟩, h4⟩, h5⟩, h6⟩, h7⟩ := hL'
    have d1 : decide ((c.instrs.length : Int) > 4000) = false := by simp; omega
    have d2 : decide ((c.strings.length : Int) > 200) = false := by simp; omega
    have d3 : decide ((c.entries.length : Int) > 512) = false := by simp; omega
    have d4 : decide ((c.prios.length : Int) > 16) = false := by simp; omega
    have d5 : decide ((c.vars.length : Int) > 128) = false := by simp; omega
    by_cases hp : partsM c = true
    · by_cases hj : jumpsM c = true
      · refine PC.of mixedU isU23 (Nat.le_of_ble_eq_true rfl) (by simp [DV.nlL, DV.nl, nlL_ints, nlL_strs, nlL_instrs, nlL_entries, nlL_stp]) (by simp [DV.nlL, DV.nl, nlL_ints, nlL_strs, nlL_instrs, nlL_entries, nlL_stp]) ?_
        show IW Tryd.prog 79 u23_1 ⟨argT _, _, _⟩ (rt [.tmp 2] _)
        repeat' ((first | with_reducible refine wr ?_ | ((with_reducible refine wb2 ?_ ?_) <;> (intro hb; try simp only [hb])) | ((with_reducible refine AC.call ((c_in _ _ _).at _ _) ?_); rintro _ _ _ ⟨rfl, rfl, rfl⟩ -) | ((with_reducible refine AC.call ((c_parts c hl0 hs).at _ _) ?_); rintro _ _ _ ⟨rfl, rfl, rfl⟩ -) | ((with_reducible refine AC.call ((c_jumps c hl0).at _ _) ?_); rintro _ _ _ ⟨rfl, rfl, rfl⟩ -) | fail) <;> try simp only [go_sem, seval, d1, d2, d3, d4, d5, h6, h7, hp, hj])
        refine i_loop (fun k : Nat => [(1, .ptr 0 0), (3, I64 k)]) (fun _ => nil.upd 0 ⟨0, true, c.cs⟩) (fun k cc => 1 ≤ cc ∧ 1 ≤ k ∧ (k ≤ c.entries.length ∨ k = 1) ∧ chainM (c.entries.take k) = true) (fun k => c.entries.length - k) 1 (by simp [tmLe, tm, Tm.upd]) (Sub.refl _) ⟨by omega, by omega, by omega, by cases c.entries <;> rfl⟩ ?_
        rintro k cc ⟨h1c, h1k, hk, he⟩
        by_cases hlt : k < c.entries.length
        · have hd : decide ((k : Int) < c.entries.length) = true := by simpa using hlt
          have hg := List.getElem?_eq_getElem hlt
          have hlt' : k - 1 < c.entries.length := by omega
          have hg' := List.getElem?_eq_getElem hlt'
          have hw := w64 (n := (k : Int) + 1) (by omega) (by omega)
          have hw1 := w64 (n := (k : Int) - 1) (by omega) (by omega)
          have hw2 : (k : Int) - 1 = ((k - 1 : Nat) : Int) := by omega
          rw [hw2] at hw1
          repeat' ((first | with_reducible refine wr ?_ | ((with_reducible refine wb2 ?_ ?_) <;> (intro hb; try simp only [hb])) | ((with_reducible refine AC.call ((c_less _ _).at _ _) ?_); rintro _ _ _ ⟨rfl, rfl, rfl⟩ -) | fail) <;> try simp only [go_sem, seval, hd, hg, hg', hw, hw2, hw1])
          · refine pc_ret ?_
            have hf := chain_fail h1k hg' hg (by simpa using hb)
            simp [validM, hL, hp, hj, hf]
          · exact ⟨k + 1, rfl, Sub.refl _, inv ⟨by omega, by omega, by omega, by rw [chain_take h1k hg' hg he]; simpa using hb⟩, by omega⟩
        · have hd : decide ((k : Int) < c.entries.length) = false := by simp; omega
          have hch : chainM c.entries = true := by
            rw [List.take_of_length_le (by omega)] at he; exact he
          cases hh : hR c with
          | none =>
            have key := c_heightsR' c hl0 hj
            rw [hh, hgtV_none] at key
            repeat' ((first | with_reducible refine wr ?_ | ((with_reducible refine wb2 ?_ ?_) <;> (intro hb; try simp only [hb])) | ((with_reducible refine AC.call ((key).at _ _) ?_); rintro _ _ _ ⟨rfl, rfl, rfl⟩ -) | fail) <;> try simp only [go_sem, seval, hd])
            refine pc_ret ?_
            simp [validM, hL, hp, hj, hch, hh]
          | some h =>
            have key := c_heightsR' c hl0 hj
            rw [hh, hgtV_some] at key
            repeat' ((first | with_reducible refine wr ?_ | ((with_reducible refine wb2 ?_ ?_) <;> (intro hb; try simp only [hb])) | ((with_reducible refine AC.call ((key).at _ _) ?_); rintro _ _ _ ⟨rfl, rfl, rfl⟩ -) | fail) <;> try simp only [go_sem, seval, hd])
            refine pc_ret ?_
            simp [validM, hL, hp, hj, hch, hh]
      · have hj' : jumpsM c = false := by simpa using hj
        refine PC.of mixedU isU23 (Nat.le_of_ble_eq_true rfl) (by simp [DV.nlL, DV.nl, nlL_ints, nlL_strs, nlL_instrs, nlL_entries, nlL_stp]) (by simp [DV.nlL, DV.nl, nlL_ints, nlL_strs, nlL_instrs, nlL_entries, nlL_stp]) ?_
        show IW Tryd.prog 79 u23_1 ⟨argT _, _, _⟩ (rt [.tmp 2] _)
        repeat' ((first | with_reducible refine wr ?_ | ((with_reducible refine wb2 ?_ ?_) <;> (intro hb; try simp only [hb])) | ((with_reducible refine AC.call ((c_in _ _ _).at _ _) ?_); rintro _ _ _ ⟨rfl, rfl, rfl⟩ -) | ((with_reducible refine AC.call ((c_parts c hl0 hs).at _ _) ?_); rintro _ _ _ ⟨rfl, rfl, rfl⟩ -) | ((with_reducible refine AC.call ((c_jumps c hl0).at _ _) ?_); rintro _ _ _ ⟨rfl, rfl, rfl⟩ -) | fail) <;> try simp only [go_sem, seval, d1, d2, d3, d4, d5, h6, h7, hp, hj'])
        refine pc_ret ?_
        simp [validM, hL, hp, hj']
    · have hp' : partsM c = false := by simpa using hp
      refine PC.of mixedU isU23 (Nat.le_of_ble_eq_true rfl) (by simp [DV.nlL, DV.nl, nlL_ints, nlL_strs, nlL_instrs, nlL_entries, nlL_stp]) (by simp [DV.nlL, DV.nl, nlL_ints, nlL_strs, nlL_instrs, nlL_entries, nlL_stp]) ?_
      show IW Tryd.prog 79 u23_1 ⟨argT _, _, _⟩ (rt [.tmp 2] _)
      repeat' ((first | with_reducible refine wr ?_ | ((with_reducible refine wb2 ?_ ?_) <;> (intro hb; try simp only [hb])) | ((with_reducible refine AC.call ((c_in _ _ _).at _ _) ?_); rintro _ _ _ ⟨rfl, rfl, rfl⟩ -) | ((with_reducible refine AC.call ((c_parts c hl0 hs).at _ _) ?_); rintro _ _ _ ⟨rfl, rfl, rfl⟩ -) | ((with_reducible refine AC.call ((c_jumps c hl0).at _ _) ?_); rintro _ _ _ ⟨rfl, rfl, rfl⟩ -) | fail) <;> try simp only [go_sem, seval, d1, d2, d3, d4, d5, h6, h7, hp'])
      refine pc_ret ?_
      simp [validM, hL, hp']
  · have hL' : limitsM c = false := by simpa using hL
    refine PC.of mixedU isU23 (Nat.le_of_ble_eq_true rfl) (by simp [DV.nlL, DV.nl, nlL_ints, nlL_strs, nlL_instrs, nlL_entries, nlL_stp]) (by simp [DV.nlL, DV.nl, nlL_ints, nlL_strs, nlL_instrs, nlL_entries, nlL_stp]) ?_
    show IW Tryd.prog 79 u23_1 ⟨argT _, _, _⟩ (rt [.tmp 2] _)
    repeat' ((first | with_reducible refine wr ?_ | ((with_reducible refine wb2 ?_ ?_) <;> (intro hb; try simp only [hb])) | ((with_reducible refine AC.call ((c_in _ _ _).at _ _) ?_); rintro _ _ _ ⟨rfl, rfl, rfl⟩ -) | fail) <;> try simp only [go_sem, seval])
    all_goals first
      | (refine pc_ret ?_; simp [validM, hL']; done)
      | (exfalso; apply hL; simp_all [limitsM]; omega)
end Go.Proofs.YtcallbfckjlagaaDoor
set_option maxHeartbeats 4000000
set_option maxRecDepth 100000
set_option linter.unusedSimpArgs false
set_option linter.unusedVariables false
namespace Go.Proofs.YtcallbfckjlagaaDoor
open Go.Eng (IC IOper DReg IFn IsFn)
open Go.Sym Go.Pb
noncomputable section
def u18_5r : List IOper := [oP 4 (.mv (.k (.bool false)))]
def u18_5 : IC := .seq (.reg u18_5r) .ret
def u18_4 : IC := .cond (.t 46) u18_5 .skip
def u18_3r : List IOper := [oP 8 (.fad 0 (.t 2)), oP 9 (.ld 1 false (.t 8)), oP 10 (.len (.t 9)), oP 11 (.fad 0 (.t 3)), oP 12 (.ld 1 false (.t 11)), oP 13 (.len (.t 12)), oP 14 (.bin .neq (.t 10) (.t 13)), oP 15 (.mv (.t 14)), ⟨some 16, .pur (.fad 1 (.t 2)), some (15, false)⟩, ⟨some 17, .pur (.ld 1 false (.t 16)), some (15, false)⟩, ⟨some 18, .pur (.len (.t 17)), some (15, false)⟩, ⟨some 19, .pur (.fad 1 (.t 3)), some (15, false)⟩, ⟨some 20, .pur (.ld 1 false (.t 19)), some (15, false)⟩, ⟨some 21, .pur (.len (.t 20)), some (15, false)⟩, ⟨some 22, .pur (.bin .neq (.t 18) (.t 21)), some (15, false)⟩, oP 23 (.pick (.t 15) (.k (.bool true)) (.t 22)), oP 24 (.mv (.t 23)), ⟨some 25, .pur (.fad 2 (.t 2)), some (24, false)⟩, ⟨some 26, .pur (.ld 1 false (.t 25)), some (24, false)⟩, ⟨some 27, .pur (.len (.t 26)), some (24, false)⟩, ⟨some 28, .pur (.fad 2 (.t 3)), some (24, false)⟩, ⟨some 29, .pur (.ld 1 false (.t 28)), some (24, false)⟩, ⟨some 30, .pur (.len (.t 29)), some (24, false)⟩, ⟨some 31, .pur (.bin .neq (.t 27) (.t 30)), some (24, false)⟩, oP 32 (.pick (.t 24) (.k (.bool true)) (.t 31)), oP 33 (.mv (.t 32)), ⟨some 34, .pur (.fad 5 (.t 2)), some (33, false)⟩, ⟨some 35, .pur (.ld 1 false (.t 34)), some (33, false)⟩, ⟨some 36, .pur (.fad 5 (.t 3)), some (33, false)⟩, ⟨some 37, .pur (.ld 1 false (.t 36)), some (33, false)⟩, ⟨some 38, .pur (.bin .neq (.t 35) (.t 37)), some (33, false)⟩, oP 39 (.pick (.t 33) (.k (.bool true)) (.t 38)), oP 40 (.mv (.t 39)), ⟨some 41, .pur (.fad 6 (.t 2)), some (40, false)⟩, ⟨some 42, .pur (.ld 1 false (.t 41)), some (40, false)⟩, ⟨some 43, .pur (.fad 6 (.t 3)), some (40, false)⟩, ⟨some 44, .pur (.ld 1 false (.t 43)), some (40, false)⟩, ⟨some 45, .pur (.bin .neq (.t 42) (.t 44)), some (40, false)⟩, oP 46 (.pick (.t 40) (.k (.bool true)) (.t 45))]
def u18_3 : IC := .seq (.reg u18_3r) u18_4
def u18_11 : IC := .cond (.t 51) .skip (.exit 0)
def u18_10r : List IOper := [oP 47 (.mv (.t 5)), oP 48 (.fad 0 (.t 2)), oP 49 (.ld 1 false (.t 48)), oP 50 (.len (.t 49)), oP 51 (.bin .lss (.t 47) (.t 50))]
def u18_10 : IC := .seq (.reg u18_10r) u18_11
def u18_15r : List IOper := [oP 4 (.mv (.k (.bool false)))]
def u18_15 : IC := .seq (.reg u18_15r) .ret
def u18_14 : IC := .cond (.t 64) u18_15 .skip
def u18_13r : DReg := ⟨[oP 54 (.fad 0 (.t 2)), oP 55 (.ld 1 false (.t 54)), oP 56 (.mv (.t 5)), oP 57 (.iad 2 (.t 55) (.t 56)), oP 58 (.ld 2 true (.t 57)), oP 59 (.fad 0 (.t 3)), oP 60 (.ld 1 false (.t 59)), oP 61 (.mv (.t 5)), oP 62 (.iad 2 (.t 60) (.t 61)), oP 63 (.ld 2 true (.t 62)), oP 64 (.eqa true [0, 0] (.t 58) (.t 63))], [[], [0], [], [1, 2, 0], [3, 1, 2, 0], [], [5], [], [6, 7, 5], [8, 6, 7, 5], [4, 9, 3, 1, 2, 0, 8, 6, 7, 5]], [(0, none), (1, none), (2, none), (3, none), (4, none), (5, none), (6, none), (7, none), (8, none), (9, none), (10, none)]⟩
def u18_13 : IC := .seq (.drw 11 u18_13r) u18_14
def u18_16r : List IOper := [oP 52 (.mv (.t 5)), oP 53 (.bin .add (.t 52) (.k (.int .i64 1))), oP 5 (.mv (.t 53))]
def u18_16 : IC := .reg u18_16r
def u18_12 : IC := .seq (.blk 1 u18_13) u18_16
def u18_9 : IC := .seq u18_10 u18_12
def u18_8 : IC := .blk 0 (.loop u18_9)
def u18_7r : List IOper := [oP 5 (.mv (.k (.int .i64 0)))]
def u18_7 : IC := .seq (.reg u18_7r) u18_8
def u18_22 : IC := .cond (.t 69) .skip (.exit 2)
def u18_21r : List IOper := [oP 65 (.mv (.t 6)), oP 66 (.fad 1 (.t 2)), oP 67 (.ld 1 false (.t 66)), oP 68 (.len (.t 67)), oP 69 (.bin .lss (.t 65) (.t 68))]
def u18_21 : IC := .seq (.reg u18_21r) u18_22
def u18_26r : List IOper := [oP 4 (.mv (.k (.bool false)))]
def u18_26 : IC := .seq (.reg u18_26r) .ret
def u18_25 : IC := .cond (.t 82) u18_26 .skip
def u18_24r : DReg := ⟨[oP 72 (.fad 1 (.t 2)), oP 73 (.ld 1 false (.t 72)), oP 74 (.mv (.t 6)), oP 75 (.iad 1 (.t 73) (.t 74)), oP 76 (.ld 1 false (.t 75)), oP 77 (.fad 1 (.t 3)), oP 78 (.ld 1 false (.t 77)), oP 79 (.mv (.t 6)), oP 80 (.iad 1 (.t 78) (.t 79)), oP 81 (.ld 1 false (.t 80)), oP 82 (.bin .neq (.t 76) (.t 81))], [[], [0], [], [1, 2, 0], [3, 1, 2, 0], [], [5], [], [6, 7, 5], [8, 6, 7, 5], [4, 9, 3, 1, 2, 0, 8, 6, 7, 5]], [(0, none), (1, none), (2, none), (3, none), (4, none), (5, none), (6, none), (7, none), (8, none), (9, none), (10, none)]⟩
def u18_24 : IC := .seq (.drw 11 u18_24r) u18_25
def u18_27r : List IOper := [oP 70 (.mv (.t 6)), oP 71 (.bin .add (.t 70) (.k (.int .i64 1))), oP 6 (.mv (.t 71))]
def u18_27 : IC := .reg u18_27r
def u18_23 : IC := .seq (.blk 3 u18_24) u18_27
def u18_20 : IC := .seq u18_21 u18_23
def u18_19 : IC := .blk 2 (.loop u18_20)
def u18_18r : List IOper := [oP 6 (.mv (.k (.int .i64 0)))]
def u18_18 : IC := .seq (.reg u18_18r) u18_19
def u18_33 : IC := .cond (.t 87) .skip (.exit 4)
def u18_32r : List IOper := [oP 83 (.mv (.t 7)), oP 84 (.fad 2 (.t 2)), oP 85 (.ld 1 false (.t 84)), oP 86 (.len (.t 85)), oP 87 (.bin .lss (.t 83) (.t 86))]
def u18_32 : IC := .seq (.reg u18_32r) u18_33
def u18_37r : List IOper := [oP 4 (.mv (.k (.bool false)))]
def u18_37 : IC := .seq (.reg u18_37r) .ret
def u18_36 : IC := .cond (.t 100) u18_37 .skip
def u18_35r : DReg := ⟨[oP 90 (.fad 2 (.t 2)), oP 91 (.ld 1 false (.t 90)), oP 92 (.mv (.t 7)), oP 93 (.iad 4 (.t 91) (.t 92)), oP 94 (.ld 4 true (.t 93)), oP 95 (.fad 2 (.t 3)), oP 96 (.ld 1 false (.t 95)), oP 97 (.mv (.t 7)), oP 98 (.iad 4 (.t 96) (.t 97)), oP 99 (.ld 4 true (.t 98)), oP 100 (.eqa true [0, 0, 0, 0] (.t 94) (.t 99))], [[], [0], [], [1, 2, 0], [3, 1, 2, 0], [], [5], [], [6, 7, 5], [8, 6, 7, 5], [4, 9, 3, 1, 2, 0, 8, 6, 7, 5]], [(0, none), (1, none), (2, none), (3, none), (4, none), (5, none), (6, none), (7, none), (8, none), (9, none), (10, none)]⟩
def u18_35 : IC := .seq (.drw 11 u18_35r) u18_36
def u18_38r : List IOper := [oP 88 (.mv (.t 7)), oP 89 (.bin .add (.t 88) (.k (.int .i64 1))), oP 7 (.mv (.t 89))]
def u18_38 : IC := .reg u18_38r
def u18_34 : IC := .seq (.blk 5 u18_35) u18_38
def u18_31 : IC := .seq u18_32 u18_34
def u18_30 : IC := .blk 4 (.loop u18_31)
def u18_29r : List IOper := [oP 7 (.mv (.k (.int .i64 0)))]
def u18_29 : IC := .seq (.reg u18_29r) u18_30
def u18_39r : List IOper := [oP 101 (.fad 3 (.t 2)), oP 102 (.ld 1 false (.t 101)), oP 103 (.fad 3 (.t 3)), oP 104 (.ld 1 false (.t 103)), ⟨some 105, .call 24 [.t 102, .t 104], none⟩, oP 106 (.mv (.t 105)), oG 107 (.fad 4 (.t 2)) 106, oG 108 (.ld 1 false (.t 107)) 106, oG 109 (.fad 4 (.t 3)) 106, oG 110 (.ld 1 false (.t 109)) 106, ⟨some 111, .call 24 [.t 108, .t 110], some (106, true)⟩, oP 112 (.pick (.t 106) (.t 111) (.k (.bool false))), oP 4 (.mv (.t 112))]
def u18_39 : IC := .seq (.reg u18_39r) .ret
def u18_28 : IC := .seq u18_29 u18_39
def u18_17 : IC := .seq u18_18 u18_28
def u18_6 : IC := .seq u18_7 u18_17
def u18_2 : IC := .seq u18_3 u18_6
def u18_1r : List IOper := [⟨some 2, .new (.box (.t 0)), none⟩, ⟨some 3, .new (.box (.t 1)), none⟩, oP 4 (.mv (.k (.bool false)))]
def u18_1 : IC := .seq (.reg u18_1r) u18_2
def u18 : IFn := ⟨113, u18_1, [.tmp 4]⟩
end
theorem isU18 : IsFn Tryd.prog 18 u18 := by unfold IsFn; kernel_rfl
instance i18_5 : WR Tryd.prog 113 u18_5 (rS u18_5r .ret []) := ⟨mkS⟩
instance i18_4 : WR Tryd.prog 113 u18_4 (rCE (.t 46) u18_5 .skip [2, 3, 46]) := ⟨mkCE⟩
instance i18_3 : WR Tryd.prog 113 u18_3 (rS u18_3r u18_4 [2, 3]) := ⟨mkS⟩
instance i18_11 : WR Tryd.prog 113 u18_11 (rCE (.t 51) .skip (.exit 0) [2, 3, 5, 51]) := ⟨mkCE⟩
instance i18_10 : WR Tryd.prog 113 u18_10 (rS u18_10r u18_11 [2, 3, 5]) := ⟨mkS⟩
instance i18_15 : WR Tryd.prog 113 u18_15 (rS u18_15r .ret []) := ⟨mkS⟩
instance i18_14 : WR Tryd.prog 113 u18_14 (rCE (.t 64) u18_15 .skip [2, 3, 5, 64]) := ⟨mkCE⟩
instance i18_13 : WR Tryd.prog 113 u18_13 (rP 11 u18_13r u18_14 [2, 3, 5]) := ⟨mkP rfl⟩
instance i18_16 : WR Tryd.prog 113 u18_16 (rE u18_16r [2, 3, 5]) := ⟨mkE⟩
instance i18_12 : WR Tryd.prog 113 u18_12 (rB 1 u18_13 u18_16 [2, 3, 5]) := ⟨mkB⟩
instance i18_9 : WR Tryd.prog 113 u18_9 (rQ u18_10 u18_12 [2, 3, 5]) := ⟨mkQ⟩
instance i18_8 : WR Tryd.prog 113 u18_8 (rBE 0 (.loop u18_9) [2, 3, 5]) := ⟨mkBE⟩
instance i18_7 : WR Tryd.prog 113 u18_7 (rS u18_7r u18_8 [2, 3]) := ⟨mkS⟩
instance i18_22 : WR Tryd.prog 113 u18_22 (rCE (.t 69) .skip (.exit 2) [2, 3, 6, 69]) := ⟨mkCE⟩
instance i18_21 : WR Tryd.prog 113 u18_21 (rS u18_21r u18_22 [2, 3, 6]) := ⟨mkS⟩
instance i18_26 : WR Tryd.prog 113 u18_26 (rS u18_26r .ret []) := ⟨mkS⟩
instance i18_25 : WR Tryd.prog 113 u18_25 (rCE (.t 82) u18_26 .skip [2, 3, 6, 82]) := ⟨mkCE⟩
instance i18_24 : WR Tryd.prog 113 u18_24 (rP 11 u18_24r u18_25 [2, 3, 6]) := ⟨mkP rfl⟩
instance i18_27 : WR Tryd.prog 113 u18_27 (rE u18_27r [2, 3, 6]) := ⟨mkE⟩
instance i18_23 : WR Tryd.prog 113 u18_23 (rB 3 u18_24 u18_27 [2, 3, 6]) := ⟨mkB⟩
instance i18_20 : WR Tryd.prog 113 u18_20 (rQ u18_21 u18_23 [2, 3, 6]) := ⟨mkQ⟩
instance i18_19 : WR Tryd.prog 113 u18_19 (rBE 2 (.loop u18_20) [2, 3, 6]) := ⟨mkBE⟩
instance i18_18 : WR Tryd.prog 113 u18_18 (rS u18_18r u18_19 [2, 3]) := ⟨mkS⟩
instance i18_33 : WR Tryd.prog 113 u18_33 (rCE (.t 87) .skip (.exit 4) [2, 3, 7, 87]) := ⟨mkCE⟩
instance i18_32 : WR Tryd.prog 113 u18_32 (rS u18_32r u18_33 [2, 3, 7]) := ⟨mkS⟩
instance i18_37 : WR Tryd.prog 113 u18_37 (rS u18_37r .ret []) := ⟨mkS⟩
instance i18_36 : WR Tryd.prog 113 u18_36 (rCE (.t 100) u18_37 .skip [2, 3, 7, 100]) := ⟨mkCE⟩
instance i18_35 : WR Tryd.prog 113 u18_35 (rP 11 u18_35r u18_36 [2, 3, 7]) := ⟨mkP rfl⟩
instance i18_38 : WR Tryd.prog 113 u18_38 (rE u18_38r [2, 3, 7]) := ⟨mkE⟩
instance i18_34 : WR Tryd.prog 113 u18_34 (rB 5 u18_35 u18_38 [2, 3, 7]) := ⟨mkB⟩
instance i18_31 : WR Tryd.prog 113 u18_31 (rQ u18_32 u18_34 [2, 3, 7]) := ⟨mkQ⟩
instance i18_30 : WR Tryd.prog 113 u18_30 (rBE 4 (.loop u18_31) [2, 3, 7]) := ⟨mkBE⟩
instance i18_29 : WR Tryd.prog 113 u18_29 (rS u18_29r u18_30 [2, 3]) := ⟨mkS⟩
instance i18_39 : WR Tryd.prog 113 u18_39 (rS u18_39r .ret [2, 3]) := ⟨mkS⟩
instance i18_28 : WR Tryd.prog 113 u18_28 (rQ u18_29 u18_39 [2, 3]) := ⟨mkQ⟩
instance i18_17 : WR Tryd.prog 113 u18_17 (rQ u18_18 u18_28 [2, 3]) := ⟨mkQ⟩
instance i18_6 : WR Tryd.prog 113 u18_6 (rQ u18_7 u18_17 [2, 3]) := ⟨mkQ⟩
instance i18_2 : WR Tryd.prog 113 u18_2 (rQ u18_3 u18_6 [2, 3]) := ⟨mkQ⟩
instance i18_1 : WR Tryd.prog 113 u18_1 (rS u18_1r u18_2 [0, 1]) := ⟨mkS⟩
attribute [go_sem] u18_5r u18_3r u18_10r u18_15r u18_13r u18_16r u18_7r u18_21r u18_26r u18_24r u18_27r u18_18r u18_32r u18_37r u18_35r u18_38r u18_29r u18_39r u18_1r
noncomputable section
def u29_11r : List IOper := [oP 35 (.fad 3 (.t 11)), oP 36 (.ld 1 false (.t 35)), oP 8 (.mv (.t 36)), oP 9 (.mv (.k (.bool true)))]
def u29_11 : IC := .seq (.reg u29_11r) .ret
def u29_10 : IC := .cond (.t 34) u29_11 .skip
def u29_9r : List IOper := [oP 19 (.fad 0 (.t 11)), oP 20 (.ld 1 false (.t 19)), oP 21 (.mv (.t 1)), oP 22 (.bin .eql (.t 20) (.t 21)), oP 23 (.mv (.t 22)), oG 24 (.fad 1 (.t 11)) 23, oG 25 (.ld 1 false (.t 24)) 23, oG 26 (.mv (.t 2)) 23, oG 27 (.bin .eql (.t 25) (.t 26)) 23, oP 28 (.pick (.t 23) (.t 27) (.k (.bool false))), oP 29 (.mv (.t 28)), oG 30 (.fad 2 (.t 11)) 29, oG 31 (.ld 1 false (.t 30)) 29, oG 32 (.mv (.t 3)) 29, oG 33 (.bin .eql (.t 31) (.t 32)) 29, oP 34 (.pick (.t 29) (.t 33) (.k (.bool false)))]
def u29_9 : IC := .seq (.reg u29_9r) u29_10
def u29_8r : List IOper := [oP 17 (.iad 4 (.t 13) (.t 15)), oP 18 (.ld 4 true (.t 17)), ⟨some 11, .new (.box (.k (.agg #[.int .i64 0, .int .i64 0, .int .i64 0, .int .i64 0]))), none⟩, ⟨none, .eff (.st 4 (.t 11) (.t 18)), none⟩]
def u29_8 : IC := .seq (.reg u29_8r) u29_9
def u29_12r : List IOper := [oP 37 (.bin .add (.t 15) (.k (.int .i64 1))), oP 15 (.mv (.t 37))]
def u29_12 : IC := .reg u29_12r
def u29_7 : IC := .seq (.blk 1 u29_8) u29_12
def u29_6 : IC := .seq (.cond (.t 16) .skip (.exit 0)) u29_7
def u29_5r : List IOper := [oP 16 (.bin .lss (.t 15) (.t 14))]
def u29_5 : IC := .seq (.reg u29_5r) u29_6
def u29_4 : IC := .blk 0 (.loop u29_5)
def u29_3r : List IOper := [oP 12 (.fad 2 (.t 4)), oP 13 (.ld 1 false (.t 12)), oP 14 (.len (.t 13)), oP 15 (.mv (.k (.int .i64 0)))]
def u29_3 : IC := .seq (.reg u29_3r) u29_4
def u29_13r : List IOper := [oP 8 (.mv (.k (.int .i64 0))), oP 9 (.mv (.k (.bool false)))]
def u29_13 : IC := .seq (.reg u29_13r) .ret
def u29_2 : IC := .seq u29_3 u29_13
def u29_1r : List IOper := [⟨some 4, .new (.box (.t 0)), none⟩, oP 8 (.mv (.k (.int .i64 0))), oP 9 (.mv (.k (.bool false)))]
def u29_1 : IC := .seq (.reg u29_1r) u29_2
def u29 : IFn := ⟨38, u29_1, [.tmp 8, .tmp 9]⟩
end
theorem isU29 : IsFn Tryd.prog 29 u29 := by unfold IsFn; kernel_rfl
instance i29_11 : WR Tryd.prog 38 u29_11 (rS u29_11r .ret [11]) := ⟨mkS⟩
instance i29_10 : WR Tryd.prog 38 u29_10 (rCE (.t 34) u29_11 .skip [1, 2, 3, 11, 13, 14, 15, 34]) := ⟨mkCE⟩
instance i29_9 : WR Tryd.prog 38 u29_9 (rS u29_9r u29_10 [1, 2, 3, 11, 13, 14, 15]) := ⟨mkS⟩
instance i29_8 : WR Tryd.prog 38 u29_8 (rS u29_8r u29_9 [1, 2, 3, 13, 14, 15]) := ⟨mkS⟩
instance i29_12 : WR Tryd.prog 38 u29_12 (rE u29_12r [1, 2, 3, 13, 14, 15]) := ⟨mkE⟩
instance i29_7 : WR Tryd.prog 38 u29_7 (rB 1 u29_8 u29_12 [1, 2, 3, 13, 14, 15]) := ⟨mkB⟩
instance i29_6 : WR Tryd.prog 38 u29_6 (rC (.t 16) .skip (.exit 0) u29_7 [1, 2, 3, 13, 14, 15, 16]) := ⟨mkC⟩
instance i29_5 : WR Tryd.prog 38 u29_5 (rS u29_5r u29_6 [1, 2, 3, 13, 14, 15]) := ⟨mkS⟩
instance i29_4 : WR Tryd.prog 38 u29_4 (rBE 0 (.loop u29_5) [1, 2, 3, 13, 14, 15]) := ⟨mkBE⟩
instance i29_3 : WR Tryd.prog 38 u29_3 (rS u29_3r u29_4 [1, 2, 3, 4]) := ⟨mkS⟩
instance i29_13 : WR Tryd.prog 38 u29_13 (rS u29_13r .ret []) := ⟨mkS⟩
instance i29_2 : WR Tryd.prog 38 u29_2 (rQ u29_3 u29_13 [1, 2, 3, 4]) := ⟨mkQ⟩
instance i29_1 : WR Tryd.prog 38 u29_1 (rS u29_1r u29_2 [0, 1, 2, 3]) := ⟨mkS⟩
attribute [go_sem] u29_11r u29_9r u29_8r u29_12r u29_5r u29_3r u29_13r u29_1r
theorem c_Find (c : Prg) (n1 : c.entries.length ≤ 9223372036854775807) (m t i : Int) : PC Tryd.prog 29 [c.v, I64 m, I64 t, I64 i] (findV (findM m t i c.entries)) := by
  refine PC.of mixedU isU29 (Nat.le_of_ble_eq_true rfl) (by simp [DV.nlL, DV.nl, nlL_ints, nlL_strs, nlL_instrs, nlL_entries]) (by cases findM m t i c.entries <;> rfl) ?_
  show IW Tryd.prog 38 u29_1 ⟨argT _, _, _⟩ (rt [.tmp 8, .tmp 9] _)
  repeat' ((first | with_reducible refine wr ?_ | ((with_reducible refine wb2 ?_ ?_) <;> (intro hb; try simp only [hb])) | fail) <;> try simp only [go_sem, seval])
  refine i_loop (fun k : Nat => [(1, I64 m), (2, I64 t), (3, I64 i), (13, entsV c.entries), (14, I64 c.entries.length), (15, I64 k)]) (fun _ => nil) (fun k cc => k ≤ c.entries.length ∧ findM m t i (c.entries.drop k) = findM m t i c.entries) (fun k => c.entries.length - k) 0 (by simp [tmLe, tm, Tm.upd]) (Sub.nil _) (by simp) ?_
  rintro k cc ⟨hk, he⟩
  by_cases hlt : k < c.entries.length
  · have hd : decide ((k : Int) < c.entries.length) = true := by simpa using hlt
    have hg := List.getElem?_eq_getElem hlt
    have hw := w64 (n := (k : Int) + 1) (by omega) (by omega)
    rw [findM_step hg] at he
    repeat' ((first | with_reducible refine wr ?_ | ((with_reducible refine wb2 ?_ ?_) <;> (intro hb; try simp only [hb])) | fail) <;> try simp only [go_sem, seval, hd, hg, hw])
    all_goals first
      | exact ⟨k + 1, rfl, Sub.nil _, inv ⟨hlt, by rw [← he, if_neg]; simp_all⟩, by omega⟩
      | (rw [← he, if_pos (by simp_all)]; exact pc_ret rfl)
  have hd : decide ((k : Int) < c.entries.length) = false := by simpa using hlt
  rw [List.drop_eq_nil_of_le (by omega)] at he
  repeat' ((first | with_reducible refine wr ?_ | ((with_reducible refine wb2 ?_ ?_) <;> (intro hb; try simp only [hb])) | fail) <;> try simp only [go_sem, seval, hd])
  rw [← he]; exact pc_ret rfl
theorem c_SameInts (a b : List Int) (n1 : a.length ≤ 9223372036854775807) : PC Tryd.prog 24 [.lst (a.map I64), .lst (b.map I64)] (.bool (decide (a = b))) := by
  refine PC.of mixedU isU24 (Nat.le_of_ble_eq_true rfl) (by simp [DV.nlL, DV.nl, nlL_ints]) rfl ?_
  show IW Tryd.prog 26 u24_1 ⟨argT _, _, _⟩ (rt [.tmp 4] _)
  by_cases hl : a.length = b.length
  case neg =>
    have hne : ((a.length : Int) != (b.length : Int)) = true := by simp; omega
    repeat' ((first | with_reducible refine wr ?_ | ((with_reducible refine wb2 ?_ ?_) <;> (intro hb; try simp only [hb])) | fail) <;> try simp only [go_sem, seval, List.length_map, hne])
    rw [decide_eq_false (fun e => hl (by rw [e]))]; exact pc_ret rfl
  have hne : ((a.length : Int) != (b.length : Int)) = false := by simp; omega
  repeat' ((first | with_reducible refine wr ?_ | ((with_reducible refine wb2 ?_ ?_) <;> (intro hb; try simp only [hb])) | fail) <;> try simp only [go_sem, seval, List.length_map, hne])
  refine i_loop (fun k : Nat => [(0, .lst (a.map I64)), (1, .lst (b.map I64)), (5, I64 k)]) (fun _ => nil) (fun k cc => k ≤ a.length ∧ a.take k = b.take k) (fun k => a.length - k) 0 (by simp [tmLe, tm, Tm.upd]) (Sub.nil _) (by simp) ?_
  rintro k cc ⟨hk, he⟩
  by_cases hlt : k < a.length
  · have hd : decide ((k : Int) < a.length) = true := by simpa using hlt
    have hlt2 : k < b.length := by omega
    have hg := List.getElem?_eq_getElem hlt
    have hg2 := List.getElem?_eq_getElem hlt2
    have hw := w64 (n := (k : Int) + 1) (by omega) (by omega)
    repeat' ((first | with_reducible refine wr ?_ | ((with_reducible refine wb2 ?_ ?_) <;> (intro hb; try simp only [hb])) | fail) <;> try simp only [go_sem, seval, List.length_map, hd, hg, hg2, hw])
    all_goals first
      | (refine ⟨k + 1, rfl, Sub.nil _, inv ⟨hlt, (eqTo_step hg hg2 he).2 ?_⟩, by omega⟩; simpa using hb)
      | (rw [decide_eq_false (eq_fail hg hg2 ?_)]; exact pc_ret rfl; simpa using hb)
  have hd : decide ((k : Int) < a.length) = false := by simpa using hlt
  repeat' ((first | with_reducible refine wr ?_ | ((with_reducible refine wb2 ?_ ?_) <;> (intro hb; try simp only [hb])) | fail) <;> try simp only [go_sem, seval, List.length_map, hd])
  rw [decide_eq_true (eq_done hl (by omega) he)]; exact pc_ret rfl
end Go.Proofs.YtcallbfckjlagaaDoor
set_option maxHeartbeats 4000000
set_option maxRecDepth 100000
set_option linter.unusedSimpArgs false
set_option linter.unusedVariables false
namespace Go.Proofs.YtcallbfckjlagaaDoor
open Go.Eng (IC IOper DReg IFn IsFn)
open Go.Sym Go.Pb
theorem c_SameR (a b : Prg) (n1 : a.instrs.length ≤ 9223372036854775807) (n2 : a.strings.length ≤ 9223372036854775807) (n3 : a.entries.length ≤ 9223372036854775807) (n4 : a.prios.length ≤ 9223372036854775807) (n5 : a.vars.length ≤ 9223372036854775807) :
    PC Tryd.prog 18 [a.v, b.v] (.bool (decide (a = b))) := by
  refine PC.of mixedU isU18 (Nat.le_of_ble_eq_true rfl) (by simp [DV.nlL, DV.nl, nlL_ints, nlL_strs, nlL_instrs, nlL_entries, nlL_stp]) (by simp [DV.nlL, DV.nl, nlL_ints, nlL_strs, nlL_instrs, nlL_entries, nlL_stp]) ?_
  show IW Tryd.prog 113 u18_1 ⟨argT _, _, _⟩ (rt [.tmp 4] _)
  by_cases h : a.instrs.length = b.instrs.length ∧ a.strings.length = b.strings.length ∧ a.entries.length = b.entries.length ∧ a.timers = b.timers ∧ a.events = b.events
  case neg =>
    repeat' ((first | with_reducible refine wr ?_ | ((with_reducible refine wb2 ?_ ?_) <;> (intro hb; try simp only [hb])) | fail) <;> try simp only [go_sem, seval])
    all_goals first
      | (refine pc_ret ?_; congr 1; rw [prg_eq]; simp_all; done)
      | (exfalso; simp only [bne_eq_false_iff_eq] at *; apply h; refine ⟨?_, ?_, ?_, ?_, ?_⟩ <;> first | assumption | omega)
  obtain ⟨l1, l2, l3, l4, l5⟩ := h
  have e1 : ((a.instrs.length : Int) != (b.instrs.length : Int)) = false := by simp; omega
  have e2 : ((a.strings.length : Int) != (b.strings.length : Int)) = false := by simp; omega
  have e3 : ((a.entries.length : Int) != (b.entries.length : Int)) = false := by simp; omega
  have e4 : (a.timers != b.timers) = false := by simp [l4]
  have e5 : (a.events != b.events) = false := by simp [l5]
  repeat' ((first | with_reducible refine wr ?_ | ((with_reducible refine wb2 ?_ ?_) <;> (intro hb; try simp only [hb])) | fail) <;> try simp only [go_sem, seval, e1, e2, e3, e4, e5])
  refine i_loop (fun k : Nat => [(2, .ptr 0 0), (3, .ptr 1 0), (5, I64 k)]) (fun _ => (nil.upd 0 ⟨0, true, a.cs⟩).upd 1 ⟨0, true, b.cs⟩) (fun k cc => 2 ≤ cc ∧ k ≤ a.instrs.length ∧ a.instrs.take k = b.instrs.take k) (fun k => a.instrs.length - k) 0 (by simp [tmLe, tm, Tm.upd]) (Sub.refl _) (by simp) ?_
  rintro k cc ⟨h2, hk, he⟩
  by_cases hlt : k < a.instrs.length
  · have hd : decide ((k : Int) < a.instrs.length) = true := by simpa using hlt
    have hlt2 : k < b.instrs.length := by omega
    have hg := List.getElem?_eq_getElem hlt
    have hg2 := List.getElem?_eq_getElem hlt2
    have hw := w64 (n := (k : Int) + 1) (by omega) (by omega)
    repeat' ((first | with_reducible refine wr ?_ | ((with_reducible refine wb2 ?_ ?_) <;> (intro hb; try simp only [hb])) | fail) <;> try simp only [go_sem, seval, hd, hg, hg2, hw, eqa2])
    all_goals first
      | (refine ⟨k + 1, rfl, Sub.refl _, inv ⟨by omega, hlt, (eqTo_step hg hg2 he).2 ?_⟩, by omega⟩; simpa [ins_eq] using hb)
      | (refine pc_ret ?_; congr 1; rw [prg_eq, decide_eq_false (eq_fail hg hg2 ?_)]; rfl; simpa [ins_eq] using hb)
  have hd : decide ((k : Int) < a.instrs.length) = false := by simpa using hlt
  have g1 := eq_done l1 (by omega) he
  clear he hk
  repeat' ((first | with_reducible refine wr ?_ | ((with_reducible refine wb2 ?_ ?_) <;> (intro hb; try simp only [hb])) | fail) <;> try simp only [go_sem, seval, hd])
  clear hd hlt
  refine i_loop (fun k : Nat => [(2, .ptr 0 0), (3, .ptr 1 0), (6, I64 k)]) (fun _ => (nil.upd 0 ⟨0, true, a.cs⟩).upd 1 ⟨0, true, b.cs⟩) (fun k cc => 2 ≤ cc ∧ k ≤ a.strings.length ∧ a.strings.take k = b.strings.take k) (fun k => a.strings.length - k) 0 (by simp [tmLe, tm, Tm.upd]) (Sub.refl _) (by simp; omega) ?_
  clear k cc h2
  rintro k cc ⟨h2, hk, he⟩
  by_cases hlt : k < a.strings.length
  · have hd : decide ((k : Int) < a.strings.length) = true := by simpa using hlt
    have hlt2 : k < b.strings.length := by omega
    have hg := List.getElem?_eq_getElem hlt
    have hg2 := List.getElem?_eq_getElem hlt2
    have hw := w64 (n := (k : Int) + 1) (by omega) (by omega)
    repeat' ((first | with_reducible refine wr ?_ | ((with_reducible refine wb2 ?_ ?_) <;> (intro hb; try simp only [hb])) | fail) <;> try simp only [go_sem, seval, hd, hg, hg2, hw, eqa2])
    all_goals first
      | (refine ⟨k + 1, rfl, Sub.refl _, inv ⟨by omega, hlt, (eqTo_step hg hg2 he).2 ?_⟩, by omega⟩; simpa using hb)
      | (refine pc_ret ?_; congr 1; rw [prg_eq, decide_eq_false (eq_fail hg hg2 (by simpa using hb))]; simp)
  have hd : decide ((k : Int) < a.strings.length) = false := by simpa using hlt
  have g2 := eq_done l2 (by omega) he
  clear he hk
  repeat' ((first | with_reducible refine wr ?_ | ((with_reducible refine wb2 ?_ ?_) <;> (intro hb; try simp only [hb])) | fail) <;> try simp only [go_sem, seval, hd])
  clear hd hlt
  refine i_loop (fun k : Nat => [(2, .ptr 0 0), (3, .ptr 1 0), (7, I64 k)]) (fun _ => (nil.upd 0 ⟨0, true, a.cs⟩).upd 1 ⟨0, true, b.cs⟩) (fun k cc => 2 ≤ cc ∧ k ≤ a.entries.length ∧ a.entries.take k = b.entries.take k) (fun k => a.entries.length - k) 0 (by simp [tmLe, tm, Tm.upd]) (Sub.refl _) (by simp; omega) ?_
  clear k cc h2
  rintro k cc ⟨h2, hk, he⟩
  by_cases hlt : k < a.entries.length
  · have hd : decide ((k : Int) < a.entries.length) = true := by simpa using hlt
    have hlt2 : k < b.entries.length := by omega
    have hg := List.getElem?_eq_getElem hlt
    have hg2 := List.getElem?_eq_getElem hlt2
    have hw := w64 (n := (k : Int) + 1) (by omega) (by omega)
    repeat' ((first | with_reducible refine wr ?_ | ((with_reducible refine wb2 ?_ ?_) <;> (intro hb; try simp only [hb])) | fail) <;> try simp only [go_sem, seval, hd, hg, hg2, hw, eqa4])
    all_goals first
      | (refine ⟨k + 1, rfl, Sub.refl _, inv ⟨by omega, hlt, (eqTo_step hg hg2 he).2 ?_⟩, by omega⟩; simpa [ent_eq] using hb)
      | (refine pc_ret ?_; congr 1; rw [prg_eq, decide_eq_false (eq_fail hg hg2 (by simpa [ent_eq] using hb))]; simp)
  have hd : decide ((k : Int) < a.entries.length) = false := by simpa using hlt
  have g3 := eq_done l3 (by omega) he
  clear he hk
  repeat' ((first | with_reducible refine wr ?_ | ((with_reducible refine wb2 ?_ ?_) <;> (intro hb; try simp only [hb])) | ((with_reducible refine AC.call ((c_SameInts _ _ n4).at _ _) ?_); rintro _ _ _ ⟨rfl, rfl, rfl⟩ -) | ((with_reducible refine AC.call ((c_SameInts _ _ n5).at _ _) ?_); rintro _ _ _ ⟨rfl, rfl, rfl⟩ -) | fail) <;> try simp only [go_sem, seval, hd])
  all_goals refine pc_ret ?_
  all_goals (congr 1; rw [prg_eq]; simp_all)
end Go.Proofs.YtcallbfckjlagaaDoor
set_option linter.unusedVariables false
set_option linter.unusedSimpArgs false
namespace Go.Pb
open Go.Sym
abbrev Sm (n : Int) : Prop := -4611686018427387904 ≤ n ∧ n ≤ 4611686018427387903
structure Bnd (c : Prg) : Prop where
  ins : ∀ i ∈ c.instrs, Sm i.op ∧ Sm i.A
  ent : ∀ e ∈ c.entries, Sm e.mode ∧ Sm e.trigger ∧ Sm e.index ∧ Sm e.pos
  pri : ∀ n ∈ c.prios, Sm n
  var : ∀ n ∈ c.vars, Sm n
  tim : Sm c.timers
  evt : Sm c.events
  str : ∀ s ∈ c.strings, s.length ≤ 32
theorem sm_in {n lo hi : Int} (h : inM n lo hi = true) (h1 : -4611686018427387904 ≤ lo) (h2 : hi ≤ 4611686018427387903) : Sm n := by
  simp only [inM, Bool.and_eq_true, decide_eq_true_eq] at h
  exact ⟨by omega, by omega⟩
theorem op_bd {op : Int} (h : (effM op).2.2 ≠ -1) : 1 ≤ op ∧ op ≤ 31 := by
  by_cases h2 : 1 ≤ op ∧ op ≤ 31
  · exact h2
  · exfalso; apply h
    have h101 : ¬op = 1 := by omega
    have h102 : ¬op = 2 := by omega
    have h103 : ¬op = 3 := by omega
    have h104 : ¬op = 4 := by omega
    have h105 : ¬op = 5 := by omega
    have h106 : ¬op = 6 := by omega
    have h107 : ¬op = 7 := by omega
    have h108 : ¬op = 8 := by omega
    have h109 : ¬op = 9 := by omega
    have h110 : ¬op = 10 := by omega
    have h111 : ¬op = 11 := by omega
    have h112 : ¬op = 12 := by omega
    have h113 : ¬op = 13 := by omega
    have h114 : ¬op = 14 := by omega
    have h115 : ¬op = 15 := by omega
    have h116 : ¬op = 16 := by omega
    have h117 : ¬op = 17 := by omega
    have h118 : ¬op = 18 := by omega
    have h119 : ¬op = 19 := by omega
    have h120 : ¬op = 20 := by omega
    have h121 : ¬op = 21 := by omega
    have h122 : ¬op = 22 := by omega
    have h123 : ¬op = 23 := by omega
    have h124 : ¬op = 24 := by omega
    have h125 : ¬op = 25 := by omega
    have h126 : ¬op = 26 := by omega
    have h127 : ¬op = 27 := by omega
    have h128 : ¬op = 28 := by omega
    have h129 : ¬op = 29 := by omega
    have h130 : ¬op = 30 := by omega
    have h131 : ¬op = 31 := by omega
    have e : effM op = (0, 0, -1) := by
      unfold effM
      rw [if_neg h101, if_neg h102, if_neg h103, if_neg h104, if_neg h105, if_neg h106, if_neg h107, if_neg h108, if_neg h109, if_neg h110, if_neg h111, if_neg h112, if_neg h113, if_neg h114, if_neg h115, if_neg h116, if_neg h117, if_neg h118, if_neg h119, if_neg h120, if_neg h121, if_neg h122, if_neg h123, if_neg h124, if_neg h125, if_neg h126, if_neg h127, if_neg h128, if_neg h129, if_neg h130, if_neg h131]
    rw [e]
theorem Lim.dims {c : Prg} (h : limitsM c = true) : c.instrs.length ≤ 4000 ∧ c.strings.length ≤ 200 ∧ c.entries.length ≤ 512 ∧ c.prios.length ≤ 16 ∧ c.vars.length ≤ 128 ∧ 0 ≤ c.timers ∧ c.timers ≤ 128 ∧ 0 ≤ c.events ∧ c.events ≤ 128 := by
  simp only [limitsM, inM, Bool.and_eq_true, decide_eq_true_eq] at h
  omega
theorem kind_sm {c : Prg} (hL : limitsM c = true) {k a : Int} (hJ : k ≠ 7) (h : kindM c k a = true) : Sm a := by
  obtain ⟨d1, d2, d3, d4, d5, d6, d7, d8, d9⟩ := Lim.dims hL
  by_cases e0 : k = 0
  · subst e0
    have h' : decide (a = 0) = true := h
    simp only [decide_eq_true_eq] at h'; exact ⟨by omega, by omega⟩
  by_cases e1 : k = 1
  · subst e1; exact sm_in (lo := (-2147483647)) (hi := 2147483647) h (by omega) (by omega)
  by_cases e2 : k = 2
  · subst e2; exact sm_in (lo := 0) (hi := (c.vars.length - 1)) h (by omega) (by omega)
  by_cases e3 : k = 3
  · subst e3; exact sm_in (lo := 0) (hi := 63) h (by omega) (by omega)
  by_cases e9 : k = 9
  · subst e9; exact sm_in (lo := 0) (hi := 63) h (by omega) (by omega)
  by_cases e4 : k = 4
  · subst e4; exact sm_in (lo := 0) (hi := (c.prios.length - 1)) h (by omega) (by omega)
  by_cases e5 : k = 5
  · subst e5; exact sm_in (lo := 0) (hi := (c.timers - 1)) h (by omega) (by omega)
  by_cases e6 : k = 6
  · subst e6; exact sm_in (lo := 12) (hi := 24) h (by omega) (by omega)
  by_cases e8 : k = 8
  · subst e8; exact sm_in (lo := 0) (hi := 31) h (by omega) (by omega)
  by_cases e10 : k = 10
  · subst e10; exact sm_in (lo := 0) (hi := (c.events - 1)) h (by omega) (by omega)
  by_cases e11 : k = 11
  · subst e11; exact sm_in (lo := 0) (hi := (c.strings.length - 1)) h (by omega) (by omega)
  have : kindM c k a = false := by
    unfold kindM
    rw [if_neg e0, if_neg e1, if_neg e2, if_neg e3, if_neg e9, if_neg e4, if_neg e5, if_neg e6, if_neg hJ, if_neg e8, if_neg e10, if_neg e11]
  rw [this] at h; cases h
theorem Bnd.of {c : Prg} (hL : limitsM c = true) (hp : partsM c = true) (hj : jumpsM c = true) : Bnd c := by
  obtain ⟨d1, d2, d3, d4, d5, d6, d7, d8, d9⟩ := Lim.dims hL
  simp only [partsM, Bool.and_eq_true, List.all_eq_true] at hp
  obtain ⟨⟨⟨⟨p1, p2⟩, p3⟩, p4⟩, p5⟩ := hp
  refine ⟨fun i hi => ?_, fun e he => ?_, fun n hn => sm_in (p2 n hn) (by omega) (by omega), fun n hn => sm_in (p3 n hn) (by omega) (by omega), ⟨by omega, by omega⟩, ⟨by omega, by omega⟩, fun s hs => ?_⟩
  · have h := p5 i hi
    have h7 := jump_bd hj i hi
    have hk : (effM i.op).2.2 ≠ -1 := by
      intro e; rw [numberM, e] at h; simp [kindM] at h
    obtain ⟨o1, o2⟩ := op_bd hk
    refine ⟨⟨by omega, by omega⟩, ?_⟩
    by_cases hJ : (effM i.op).2.2 = 7
    · have hop : i.op = 12 ∨ i.op = 13 ∨ i.op = 14 := by
        have := isJ_kind i.op
        rw [hJ] at this
        simpa [isJ] using this
      have := h7 hop
      exact ⟨by omega, by omega⟩
    · exact kind_sm hL hJ h
  · have h := p4 e he
    have h7 := ent_bd hj e he
    simp only [entryM, Bool.and_eq_true] at h
    obtain ⟨h1, h2⟩ := h
    refine ⟨sm_in h1 (by omega) (by omega), ?_, ?_, ⟨by omega, by omega⟩⟩
    · repeat' split at h2
      all_goals first
        | cases h2; done
        | exact ⟨by omega, by omega⟩
    · repeat' split at h2
      all_goals first
        | exact sm_in h2 (by omega) (by omega)
        | (simp only [decide_eq_true_eq] at h2; exact ⟨by omega, by omega⟩)
        | cases h2
  · have h := p1 s hs
    simp only [printM, Bool.and_eq_true, decide_eq_true_eq] at h
    exact h.2
theorem valid_all {c : Prg} (h0 : validM c = 0) : limitsM c = true ∧ partsM c = true ∧ jumpsM c = true ∧ chainM c.entries = true ∧ ∃ h, hR c = some h := by
  unfold validM at h0
  split at h0
  · exact absurd h0 (by decide)
  split at h0
  · exact absurd h0 (by decide)
  split at h0
  · exact absurd h0 (by decide)
  split at h0
  · exact absurd h0 (by decide)
  split at h0
  · exact absurd h0 (by decide)
  · rename_i h1 h2 h3 h4 h5
    refine ⟨by simpa using h1, by simpa using h2, by simpa using h3, by simpa using h4, ?_⟩
    cases hh : hR c with
    | none => rw [hh] at h5; exact absurd rfl h5
    | some h => exact ⟨h, rfl⟩
theorem Bnd.valid {c : Prg} (h0 : validM c = 0) : Bnd c :=
  let ⟨a, b, d, _⟩ := valid_all h0
  Bnd.of a b d
theorem numI_len {n : Int} (h : Sm n) : (numI n).length ≤ 10 := numB_len 9 _ (by have := zig_lt h.1 h.2; omega)
theorem numI_ne (n : Int) : numI n ≠ [] := by
  unfold numI
  by_cases h : zig n < 128
  · rw [numB_lt h]; simp
  · rw [numB_ge h]; simp
def numsB (l : List Int) : List UInt8 := numI l.length ++ l.flatMap numI
def insB (i : Ins) : List UInt8 := numI i.op ++ numI i.A
def strB (s : List UInt8) : List UInt8 := numI s.length ++ s
def entB (e : Ent) : List UInt8 := numI e.mode ++ numI e.trigger ++ numI e.index ++ numI e.pos
def encM (c : Prg) : List UInt8 :=
  numI c.instrs.length ++ c.instrs.flatMap insB ++ numI c.strings.length ++ c.strings.flatMap strB ++ numI c.entries.length ++ c.entries.flatMap entB ++ numsB c.prios ++ numsB c.vars ++ numI c.timers ++ numI c.events
theorem flat_len {α : Type} (f : α → List UInt8) (m : Nat) : ∀ (l : List α), (∀ x ∈ l, (f x).length ≤ m) → (l.flatMap f).length ≤ m * l.length
  | [], _ => by simp
  | x :: l, h => by
    have h1 := h x List.mem_cons_self
    have h2 := flat_len f m l (fun y hy => h y (List.mem_cons_of_mem _ hy))
    rw [List.flatMap_cons, List.length_append, List.length_cons, Nat.mul_succ]
    omega
theorem flat_take {α : Type} (f : α → List UInt8) (m : Nat) (l : List α) (h : ∀ x ∈ l, (f x).length ≤ m) (k : Nat) : ((l.take k).flatMap f).length ≤ m * l.length := by
  have h1 := flat_len f m (l.take k) (fun x hx => h x (List.mem_of_mem_take hx))
  have h2 : m * (l.take k).length ≤ m * l.length := Nat.mul_le_mul_left _ (by simp; omega)
  omega
theorem flat_step {α : Type} (f : α → List UInt8) {l : List α} {k : Nat} {x : α} (h : l[k]? = some x) : (l.take (k + 1)).flatMap f = (l.take k).flatMap f ++ f x := by
  rw [List.take_add_one, h, List.flatMap_append]; simp
theorem sadd {s t : List UInt8} (h : s.length + t.length ≤ 9223372036854775807) : binR .add (.str s) (.str t) = some (.str (s ++ t)) := r_sadd (by simpa [maxLen] using h)
theorem numsB_len {l : List Int} (h : ∀ n ∈ l, Sm n) (hl : l.length ≤ 100000) : (numsB l).length ≤ 10 + 10 * l.length := by
  have h1 := numI_len (n := (l.length : Int)) ⟨by omega, by omega⟩
  have h2 := flat_len numI 10 l (fun x hx => numI_len (h x hx))
  rw [numsB, List.length_append]; omega
def encV (c : Prg) : List UInt8 := if validM c = 0 then encM c else []
def EH (c : Prg) (o : Option Nat) (bs : List UInt8) : Hp :=
  optH ((Sym.nil.upd 0 ⟨0, true, c.cs⟩).upd 1 ⟨0, true, [todoV o bs.length]⟩) o ⟨1, true, bytesC bs⟩
theorem EH_0 {c : Prg} {o : Option Nat} {bs : List UInt8} {cc : Nat} (h : ∀ i, o = some i → 2 ≤ i ∧ i < cc) : EH c o bs 0 = some ⟨0, true, c.cs⟩ := by
  cases o with
  | none => rfl
  | some i => have := h i rfl; simp only [EH, optH]; rw [h_ne (by omega)]; rfl
theorem EH_n {c : Prg} {o : Option Nat} {bs : List UInt8} {x : Nat} (h0 : 2 ≤ x) (h : o ≠ some x) : EH c o bs x = none := by
  cases o with
  | none => simp only [EH, optH]; rw [h_ne (by omega), h_ne (by omega)]; rfl
  | some i =>
    have : ¬x = i := fun e => h (by rw [e])
    simp only [EH, optH]; rw [h_ne this, h_ne (by omega), h_ne (by omega)]; rfl
theorem EH_one {c : Prg} {o : Option Nat} {bs : List UInt8} : ∀ j bj, EH c o bs j = some bj → ∀ d ∈ bj.cells, d.one = true := by
  intro j bj h d hd
  have hB : ∀ d ∈ bytesC bs, d.one = true := fun d hd => by obtain ⟨b, -, rfl⟩ := List.mem_map.1 hd; rfl
  have hT : (todoV o bs.length).one = true := by cases o <;> rfl
  have hC : ∀ d ∈ c.cs, d.one = true := fun d hd => by
    simp only [Prg.cs, List.mem_cons, List.not_mem_nil, or_false] at hd
    rcases hd with rfl | rfl | rfl | rfl | rfl | rfl | rfl <;> rfl
  have base : ∀ bj, ((Sym.nil.upd 0 ⟨0, true, c.cs⟩).upd 1 ⟨0, true, [todoV o bs.length]⟩) j = some bj → ∀ d ∈ bj.cells, d.one = true := by
    intro bj h d hd
    simp only [Hp.upd, Sym.nil] at h
    split at h
    · cases h; simp only [List.mem_singleton] at hd; subst hd; exact hT
    · split at h
      · cases h; exact hC d hd
      · cases h
  cases o with
  | none => exact base bj h d hd
  | some i =>
    simp only [EH, optH] at h
    by_cases e : j = i
    · subst e; rw [h_same] at h; cases h; exact hB d hd
    · rw [h_ne e] at h; exact base bj h d hd
theorem g_put {c : Prg} {o : Option Nat} {bs : List UInt8} {H : Hp} {x : Nat} {l : List Int} (hS : Sub (EH c o bs) H) (hx : H x = some ⟨1, true, l.map I64⟩) (h0 : 2 ≤ x) (ho : o ≠ some x) :
    GL H [.ptr 1 0, .slc x 0 l.length] (EH c o bs) [.ptr 1 0, ints l] := by
  refine GL.frz hx rfl (FzH.less (fun j => ?_) EH_one) (.cons _ _ _ _ (.same _) (.cons _ _ _ _ (.slc 0 l.length 1 (l.map I64) (by simp) (ints_unit l) (by simp) (by rw [cells_ints, List.drop_zero, Nat.mul_one, List.take_of_length_le (by simp)])) .nil))
  cases hj : EH c o bs j with
  | none => exact .inl rfl
  | some b =>
    refine .inr ⟨fun e => ?_, (hS j b hj).symm⟩
    subst e; rw [EH_n h0 ho] at hj; cases hj
end Go.Pb
set_option maxHeartbeats 4000000
set_option maxRecDepth 100000
set_option linter.unusedSimpArgs false
set_option linter.unusedVariables false
namespace Go.Proofs.YtcallbfckjlagaaDoor
open Go.Eng (IC IOper DReg IFn IsFn)
open Go.Sym Go.Pb
noncomputable section
def u31_6r : List IOper := [oP 10 (.mv (.t 3)), oP 11 (.un .xor (.t 10)), oP 3 (.mv (.t 11))]
def u31_6 : IC := .reg u31_6r
def u31_5 : IC := .cond (.t 9) u31_6 .skip
def u31_4r : List IOper := [oP 8 (.mv (.t 0)), oP 9 (.bin .lss (.t 8) (.k (.int .i64 0)))]
def u31_4 : IC := .seq (.reg u31_4r) u31_5
def u31_11 : IC := .cond (.t 13) .skip (.exit 0)
def u31_10r : List IOper := [oP 12 (.mv (.t 3)), oP 13 (.bin .geq (.t 12) (.k (.int .u64 128)))]
def u31_10 : IC := .seq (.reg u31_10r) u31_11
def u31_14r : List IOper := [oP 21 (.mv (.t 3)), oP 22 (.bin .quo (.t 21) (.k (.int .u64 128))), oP 3 (.mv (.t 22))]
def u31_14 : IC := .reg u31_14r
def u31_13r : List IOper := [oP 14 (.mv (.t 4)), oP 15 (.mv (.t 3)), oP 16 (.bin .rem (.t 15) (.k (.int .u64 128))), oP 17 (.cvi .u8 (.t 16)), oP 18 (.bin .add (.t 17) (.k (.int .u8 128))), ⟨some 19, .new (.bsl 1 1 #[.int .u8 0] [(0, .t 18)]), none⟩, ⟨some 20, .eff (.app 1 1 (.t 14) (.t 19)), none⟩, oP 4 (.mv (.t 20))]
def u31_13 : IC := .seq (.reg u31_13r) u31_14
def u31_12 : IC := .blk 1 u31_13
def u31_9 : IC := .seq u31_10 u31_12
def u31_15r : List IOper := [oP 23 (.mv (.t 4)), oP 24 (.mv (.t 3)), oP 25 (.cvi .u8 (.t 24)), ⟨some 26, .new (.bsl 1 1 #[.int .u8 0] [(0, .t 25)]), none⟩, ⟨some 27, .eff (.app 1 1 (.t 23) (.t 26)), none⟩, oP 28 (.cvbs (.t 27)), oP 2 (.mv (.t 28))]
def u31_15 : IC := .seq (.reg u31_15r) .ret
def u31_8 : IC := .seq (.blk 0 (.loop u31_9)) u31_15
def u31_7r : List IOper := [oP 4 (.mv (.k (.slice none 0 0)))]
def u31_7 : IC := .seq (.reg u31_7r) u31_8
def u31_3 : IC := .seq u31_4 u31_7
def u31_2r : List IOper := [oP 5 (.mv (.t 0)), oP 6 (.cvi .u64 (.t 5)), oP 7 (.bin .shl (.t 6) (.k (.int .u64 1))), oP 3 (.mv (.t 7))]
def u31_2 : IC := .seq (.reg u31_2r) u31_3
def u31_1r : List IOper := [oP 2 (.mv (.k (.string ⟨#[]⟩)))]
def u31_1 : IC := .seq (.reg u31_1r) u31_2
def u31 : IFn := ⟨29, u31_1, [.tmp 2]⟩
end
theorem isU31 : IsFn Tryd.prog 31 u31 := by unfold IsFn; kernel_rfl
instance i31_6 : WR Tryd.prog 29 u31_6 (rE u31_6r [3]) := ⟨mkE⟩
instance i31_5 : WR Tryd.prog 29 u31_5 (rCE (.t 9) u31_6 .skip [3, 9]) := ⟨mkCE⟩
instance i31_4 : WR Tryd.prog 29 u31_4 (rS u31_4r u31_5 [0, 3]) := ⟨mkS⟩
instance i31_11 : WR Tryd.prog 29 u31_11 (rCE (.t 13) .skip (.exit 0) [3, 4, 13]) := ⟨mkCE⟩
instance i31_10 : WR Tryd.prog 29 u31_10 (rS u31_10r u31_11 [3, 4]) := ⟨mkS⟩
instance i31_14 : WR Tryd.prog 29 u31_14 (rE u31_14r [3, 4]) := ⟨mkE⟩
instance i31_13 : WR Tryd.prog 29 u31_13 (rS u31_13r u31_14 [3, 4]) := ⟨mkS⟩
instance i31_12 : WR Tryd.prog 29 u31_12 (rBE 1 u31_13 [3, 4]) := ⟨mkBE⟩
instance i31_9 : WR Tryd.prog 29 u31_9 (rQ u31_10 u31_12 [3, 4]) := ⟨mkQ⟩
instance i31_15 : WR Tryd.prog 29 u31_15 (rS u31_15r .ret [3, 4]) := ⟨mkS⟩
instance i31_8 : WR Tryd.prog 29 u31_8 (rB 0 (.loop u31_9) u31_15 [3, 4]) := ⟨mkB⟩
instance i31_7 : WR Tryd.prog 29 u31_7 (rS u31_7r u31_8 [3]) := ⟨mkS⟩
instance i31_3 : WR Tryd.prog 29 u31_3 (rQ u31_4 u31_7 [0, 3]) := ⟨mkQ⟩
instance i31_2 : WR Tryd.prog 29 u31_2 (rS u31_2r u31_3 [0]) := ⟨mkS⟩
instance i31_1 : WR Tryd.prog 29 u31_1 (rS u31_1r u31_2 [0]) := ⟨mkS⟩
attribute [go_sem] u31_6r u31_4r u31_10r u31_14r u31_13r u31_15r u31_7r u31_2r u31_1r
noncomputable section
def u32_8 : IC := .cond (.t 11) .skip (.exit 0)
def u32_7r : List IOper := [oP 8 (.mv (.t 4)), oP 9 (.mv (.t 0)), oP 10 (.len (.t 9)), oP 11 (.bin .lss (.t 8) (.t 10))]
def u32_7 : IC := .seq (.reg u32_7r) u32_8
def u32_10r : List IOper := [oP 14 (.mv (.t 3)), oP 15 (.mv (.t 0)), oP 16 (.mv (.t 4)), oP 17 (.iad 1 (.t 15) (.t 16)), oP 18 (.ld 1 false (.t 17)), ⟨some 19, .call 31 [.t 18], none⟩, oP 20 (.bin .add (.t 14) (.t 19)), oP 3 (.mv (.t 20))]
def u32_10 : IC := .reg u32_10r
def u32_11r : List IOper := [oP 12 (.mv (.t 4)), oP 13 (.bin .add (.t 12) (.k (.int .i64 1))), oP 4 (.mv (.t 13))]
def u32_11 : IC := .reg u32_11r
def u32_9 : IC := .seq (.blk 1 u32_10) u32_11
def u32_6 : IC := .seq u32_7 u32_9
def u32_5 : IC := .blk 0 (.loop u32_6)
def u32_4r : List IOper := [oP 4 (.mv (.k (.int .i64 0)))]
def u32_4 : IC := .seq (.reg u32_4r) u32_5
def u32_12r : List IOper := [oP 21 (.mv (.t 3)), oP 2 (.mv (.t 21))]
def u32_12 : IC := .seq (.reg u32_12r) .ret
def u32_3 : IC := .seq u32_4 u32_12
def u32_2r : List IOper := [oP 5 (.mv (.t 0)), oP 6 (.len (.t 5)), ⟨some 7, .call 31 [.t 6], none⟩, oP 3 (.mv (.t 7))]
def u32_2 : IC := .seq (.reg u32_2r) u32_3
def u32_1r : List IOper := [oP 2 (.mv (.k (.string ⟨#[]⟩)))]
def u32_1 : IC := .seq (.reg u32_1r) u32_2
def u32 : IFn := ⟨22, u32_1, [.tmp 2]⟩
end
theorem isU32 : IsFn Tryd.prog 32 u32 := by unfold IsFn; kernel_rfl
instance i32_8 : WR Tryd.prog 22 u32_8 (rCE (.t 11) .skip (.exit 0) [0, 3, 4, 11]) := ⟨mkCE⟩
instance i32_7 : WR Tryd.prog 22 u32_7 (rS u32_7r u32_8 [0, 3, 4]) := ⟨mkS⟩
instance i32_10 : WR Tryd.prog 22 u32_10 (rE u32_10r [0, 3, 4]) := ⟨mkE⟩
instance i32_11 : WR Tryd.prog 22 u32_11 (rE u32_11r [0, 3, 4]) := ⟨mkE⟩
instance i32_9 : WR Tryd.prog 22 u32_9 (rB 1 u32_10 u32_11 [0, 3, 4]) := ⟨mkB⟩
instance i32_6 : WR Tryd.prog 22 u32_6 (rQ u32_7 u32_9 [0, 3, 4]) := ⟨mkQ⟩
instance i32_5 : WR Tryd.prog 22 u32_5 (rBE 0 (.loop u32_6) [0, 3, 4]) := ⟨mkBE⟩
instance i32_4 : WR Tryd.prog 22 u32_4 (rS u32_4r u32_5 [0, 3]) := ⟨mkS⟩
instance i32_12 : WR Tryd.prog 22 u32_12 (rS u32_12r .ret [3]) := ⟨mkS⟩
instance i32_3 : WR Tryd.prog 22 u32_3 (rQ u32_4 u32_12 [0, 3]) := ⟨mkQ⟩
instance i32_2 : WR Tryd.prog 22 u32_2 (rS u32_2r u32_3 [0]) := ⟨mkS⟩
instance i32_1 : WR Tryd.prog 22 u32_1 (rS u32_1r u32_2 [0]) := ⟨mkS⟩
attribute [go_sem] u32_7r u32_10r u32_11r u32_4r u32_12r u32_2r u32_1r
noncomputable section
def u15_6r : List IOper := [oP 14 (.mv (.t 4)), oP 2 (.mv (.k (.string ⟨#[]⟩))), oP 3 (.mv (.t 14))]
def u15_6 : IC := .seq (.reg u15_6r) .ret
def u15_5 : IC := .cond (.t 13) u15_6 .skip
def u15_4r : List IOper := [oP 12 (.mv (.t 4)), oP 13 (.bin .neq (.t 12) (.k (.int .i64 0)))]
def u15_4 : IC := .seq (.reg u15_4r) u15_5
def u15_3r : List IOper := [oP 10 (.ld 7 true (.t 1)), ⟨some 11, .call 23 [.t 10], none⟩, oP 4 (.mv (.t 11))]
def u15_3 : IC := .seq (.reg u15_3r) u15_4
def u15_13 : IC := .cond (.t 23) .skip (.exit 0)
def u15_12r : List IOper := [oP 19 (.mv (.t 6)), oP 20 (.fad 0 (.t 1)), oP 21 (.ld 1 false (.t 20)), oP 22 (.len (.t 21)), oP 23 (.bin .lss (.t 19) (.t 22))]
def u15_12 : IC := .seq (.reg u15_12r) u15_13
def u15_15r : DReg := ⟨[oP 26 (.mv (.t 5)), oP 27 (.fad 0 (.t 1)), oP 28 (.ld 1 false (.t 27)), oP 29 (.mv (.t 6)), oP 30 (.iad 2 (.t 28) (.t 29)), oP 31 (.fad 0 (.t 30)), oP 32 (.ld 1 false (.t 31)), ⟨some 33, .call 31 [.t 32], none⟩, oP 34 (.bin .add (.t 26) (.t 33)), oP 35 (.fad 0 (.t 1)), oP 36 (.ld 1 false (.t 35)), oP 37 (.mv (.t 6)), oP 38 (.iad 2 (.t 36) (.t 37)), oP 39 (.fad 1 (.t 38)), oP 40 (.ld 1 false (.t 39)), ⟨some 41, .call 31 [.t 40], none⟩, oP 42 (.bin .add (.t 34) (.t 41)), oP 5 (.mv (.t 42))], [[], [], [1], [], [2, 3, 1], [4, 2, 3, 1], [5, 4, 2, 3, 1], [6, 5, 4, 2, 3, 1], [0, 7, 6, 5, 4, 2, 3, 1], [], [9], [], [10, 11, 9], [12, 10, 11, 9], [13, 12, 10, 11, 9], [14, 7, 13, 12, 10, 11, 9, 6, 5, 4, 2, 3, 1], [8, 15, 0, 7, 6, 5, 4, 2, 3, 1, 14, 13, 12, 10, 11, 9], [16, 15, 0, 1, 2, 3, 4, 5, 6, 7, 8, 9, 10, 11, 12, 13, 14]], [(0, none), (1, none), (2, none), (3, none), (4, none), (5, none), (6, none), (9, none), (10, none), (11, none), (12, none), (13, none), (14, none), (7, some [0, 9, 10, 11, 12, 13, 14]), (8, none), (15, some [0, 8]), (16, none), (17, some [])]⟩
def u15_15 : IC := .drw 18 u15_15r
def u15_16r : List IOper := [oP 24 (.mv (.t 6)), oP 25 (.bin .add (.t 24) (.k (.int .i64 1))), oP 6 (.mv (.t 25))]
def u15_16 : IC := .reg u15_16r
def u15_14 : IC := .seq (.blk 1 u15_15) u15_16
def u15_11 : IC := .seq u15_12 u15_14
def u15_10 : IC := .blk 0 (.loop u15_11)
def u15_9r : List IOper := [oP 6 (.mv (.k (.int .i64 0)))]
def u15_9 : IC := .seq (.reg u15_9r) u15_10
def u15_23 : IC := .cond (.t 53) .skip (.exit 2)
def u15_22r : List IOper := [oP 49 (.mv (.t 7)), oP 50 (.fad 1 (.t 1)), oP 51 (.ld 1 false (.t 50)), oP 52 (.len (.t 51)), oP 53 (.bin .lss (.t 49) (.t 52))]
def u15_22 : IC := .seq (.reg u15_22r) u15_23
def u15_25r : DReg := ⟨[oP 56 (.mv (.t 5)), oP 57 (.fad 1 (.t 1)), oP 58 (.ld 1 false (.t 57)), oP 59 (.mv (.t 7)), oP 60 (.iad 1 (.t 58) (.t 59)), oP 61 (.ld 1 false (.t 60)), oP 62 (.lens (.t 61)), ⟨some 63, .call 31 [.t 62], none⟩, oP 64 (.bin .add (.t 56) (.t 63)), oP 65 (.fad 1 (.t 1)), oP 66 (.ld 1 false (.t 65)), oP 67 (.mv (.t 7)), oP 68 (.iad 1 (.t 66) (.t 67)), oP 69 (.ld 1 false (.t 68)), oP 70 (.bin .add (.t 64) (.t 69)), oP 5 (.mv (.t 70))], [[], [], [1], [], [2, 3, 1], [4, 2, 3, 1], [5, 4, 2, 3, 1], [6, 5, 4, 2, 3, 1], [0, 7, 6, 5, 4, 2, 3, 1], [], [9], [], [10, 11, 9], [12, 10, 11, 9], [8, 13, 0, 7, 6, 5, 4, 2, 3, 1, 12, 10, 11, 9], [14, 7, 0, 1, 2, 3, 4, 5, 6, 8, 9, 10, 11, 12, 13]], [(0, none), (1, none), (2, none), (3, none), (4, none), (5, none), (6, none), (9, none), (10, none), (11, none), (12, none), (13, none), (7, some [0, 9, 10, 11, 12, 13]), (8, none), (14, none), (15, some [])]⟩
def u15_25 : IC := .drw 16 u15_25r
def u15_26r : List IOper := [oP 54 (.mv (.t 7)), oP 55 (.bin .add (.t 54) (.k (.int .i64 1))), oP 7 (.mv (.t 55))]
def u15_26 : IC := .reg u15_26r
def u15_24 : IC := .seq (.blk 3 u15_25) u15_26
def u15_21 : IC := .seq u15_22 u15_24
def u15_20 : IC := .blk 2 (.loop u15_21)
def u15_19r : List IOper := [oP 7 (.mv (.k (.int .i64 0)))]
def u15_19 : IC := .seq (.reg u15_19r) u15_20
def u15_33 : IC := .cond (.t 81) .skip (.exit 4)
def u15_32r : List IOper := [oP 77 (.mv (.t 8)), oP 78 (.fad 2 (.t 1)), oP 79 (.ld 1 false (.t 78)), oP 80 (.len (.t 79)), oP 81 (.bin .lss (.t 77) (.t 80))]
def u15_32 : IC := .seq (.reg u15_32r) u15_33
def u15_36r : DReg := ⟨[oP 89 (.mv (.t 5)), oP 90 (.fad 0 (.t 9)), oP 91 (.ld 1 false (.t 90)), ⟨some 92, .call 31 [.t 91], none⟩, oP 93 (.bin .add (.t 89) (.t 92)), oP 94 (.fad 1 (.t 9)), oP 95 (.ld 1 false (.t 94)), ⟨some 96, .call 31 [.t 95], none⟩, oP 97 (.bin .add (.t 93) (.t 96)), oP 98 (.fad 2 (.t 9)), oP 99 (.ld 1 false (.t 98)), ⟨some 100, .call 31 [.t 99], none⟩, oP 101 (.bin .add (.t 97) (.t 100)), oP 102 (.fad 3 (.t 9)), oP 103 (.ld 1 false (.t 102)), ⟨some 104, .call 31 [.t 103], none⟩, oP 105 (.bin .add (.t 101) (.t 104)), oP 5 (.mv (.t 105))], [[], [], [1], [2, 1], [0, 3, 2, 1], [], [5], [6, 3, 5, 2, 1], [4, 7, 0, 3, 2, 1, 6, 5], [], [9], [10, 7, 9, 6, 3, 5, 2, 1], [8, 11, 4, 7, 0, 3, 2, 1, 6, 5, 10, 9], [], [13], [14, 11, 13, 10, 7, 9, 6, 3, 5, 2, 1], [12, 15, 8, 11, 4, 7, 0, 3, 2, 1, 6, 5, 10, 9, 14, 13], [16, 15, 0, 1, 2, 3, 4, 5, 6, 7, 8, 9, 10, 11, 12, 13, 14]], [(0, none), (1, none), (2, none), (5, none), (6, none), (9, none), (10, none), (13, none), (14, none), (3, some [0, 5, 6, 9, 10, 13, 14]), (4, none), (7, some [0, 9, 10, 13, 14, 4]), (8, none), (11, some [0, 13, 14, 4, 8]), (12, none), (15, some [0, 4, 8, 12]), (16, none), (17, some [])]⟩
def u15_36 : IC := .drw 18 u15_36r
def u15_35r : List IOper := [oP 84 (.fad 2 (.t 1)), oP 85 (.ld 1 false (.t 84)), oP 86 (.mv (.t 8)), oP 87 (.iad 4 (.t 85) (.t 86)), oP 88 (.ld 4 true (.t 87)), ⟨some 9, .new (.box (.k (.agg #[.int .i64 0, .int .i64 0, .int .i64 0, .int .i64 0]))), none⟩, ⟨none, .eff (.st 4 (.t 9) (.t 88)), none⟩]
def u15_35 : IC := .seq (.reg u15_35r) u15_36
def u15_37r : List IOper := [oP 82 (.mv (.t 8)), oP 83 (.bin .add (.t 82) (.k (.int .i64 1))), oP 8 (.mv (.t 83))]
def u15_37 : IC := .reg u15_37r
def u15_34 : IC := .seq (.blk 5 u15_35) u15_37
def u15_31 : IC := .seq u15_32 u15_34
def u15_30 : IC := .blk 4 (.loop u15_31)
def u15_29r : List IOper := [oP 8 (.mv (.k (.int .i64 0)))]
def u15_29 : IC := .seq (.reg u15_29r) u15_30
def u15_38r : DReg := ⟨[oP 106 (.mv (.t 5)), oP 107 (.fad 3 (.t 1)), oP 108 (.ld 1 false (.t 107)), ⟨some 109, .call 32 [.t 108], none⟩, oP 110 (.bin .add (.t 106) (.t 109)), oP 111 (.fad 4 (.t 1)), oP 112 (.ld 1 false (.t 111)), ⟨some 113, .call 32 [.t 112], none⟩, oP 114 (.bin .add (.t 110) (.t 113)), oP 115 (.fad 5 (.t 1)), oP 116 (.ld 1 false (.t 115)), ⟨some 117, .call 31 [.t 116], none⟩, oP 118 (.bin .add (.t 114) (.t 117)), oP 119 (.fad 6 (.t 1)), oP 120 (.ld 1 false (.t 119)), ⟨some 121, .call 31 [.t 120], none⟩, oP 122 (.bin .add (.t 118) (.t 121)), oP 2 (.mv (.t 122)), oP 3 (.mv (.k (.int .i64 0)))], [[], [], [1], [2, 1], [0, 3, 2, 1], [], [5], [6, 3, 5, 2, 1], [4, 7, 0, 3, 2, 1, 6, 5], [], [9], [10, 7, 9, 6, 3, 5, 2, 1], [8, 11, 4, 7, 0, 3, 2, 1, 6, 5, 10, 9], [], [13], [14, 11, 13, 10, 7, 9, 6, 3, 5, 2, 1], [12, 15, 8, 11, 4, 7, 0, 3, 2, 1, 6, 5, 10, 9, 14, 13], [16, 15, 0, 1, 2, 3, 4, 5, 6, 7, 8, 9, 10, 11, 12, 13, 14], [17, 0, 1, 2, 3, 4, 5, 6, 7, 8, 9, 10, 11, 12, 13, 14, 15, 16]], [(0, none), (1, none), (2, none), (5, none), (6, none), (9, none), (10, none), (13, none), (14, none), (3, some [0, 5, 6, 9, 10, 13, 14]), (4, none), (7, some [0, 9, 10, 13, 14, 4]), (8, none), (11, some [0, 13, 14, 4, 8]), (12, none), (15, some [0, 4, 8, 12]), (16, none), (17, some []), (18, some [])]⟩
def u15_38 : IC := .seq (.drw 19 u15_38r) .ret
def u15_28 : IC := .seq u15_29 u15_38
def u15_27r : List IOper := [oP 71 (.mv (.t 5)), oP 72 (.fad 2 (.t 1)), oP 73 (.ld 1 false (.t 72)), oP 74 (.len (.t 73)), ⟨some 75, .call 31 [.t 74], none⟩, oP 76 (.bin .add (.t 71) (.t 75)), oP 5 (.mv (.t 76))]
def u15_27 : IC := .seq (.reg u15_27r) u15_28
def u15_18 : IC := .seq u15_19 u15_27
def u15_17r : List IOper := [oP 43 (.mv (.t 5)), oP 44 (.fad 1 (.t 1)), oP 45 (.ld 1 false (.t 44)), oP 46 (.len (.t 45)), ⟨some 47, .call 31 [.t 46], none⟩, oP 48 (.bin .add (.t 43) (.t 47)), oP 5 (.mv (.t 48))]
def u15_17 : IC := .seq (.reg u15_17r) u15_18
def u15_8 : IC := .seq u15_9 u15_17
def u15_7r : List IOper := [oP 15 (.fad 0 (.t 1)), oP 16 (.ld 1 false (.t 15)), oP 17 (.len (.t 16)), ⟨some 18, .call 31 [.t 17], none⟩, oP 5 (.mv (.t 18))]
def u15_7 : IC := .seq (.reg u15_7r) u15_8
def u15_2 : IC := .seq u15_3 u15_7
def u15_1r : List IOper := [⟨some 1, .new (.box (.t 0)), none⟩, oP 2 (.mv (.k (.string ⟨#[]⟩))), oP 3 (.mv (.k (.int .i64 0)))]
def u15_1 : IC := .seq (.reg u15_1r) u15_2
def u15 : IFn := ⟨123, u15_1, [.tmp 2, .tmp 3]⟩
end
theorem isU15 : IsFn Tryd.prog 15 u15 := by unfold IsFn; kernel_rfl
instance i15_6 : WR Tryd.prog 123 u15_6 (rS u15_6r .ret [4]) := ⟨mkS⟩
instance i15_5 : WR Tryd.prog 123 u15_5 (rCE (.t 13) u15_6 .skip [1, 4, 13]) := ⟨mkCE⟩
instance i15_4 : WR Tryd.prog 123 u15_4 (rS u15_4r u15_5 [1, 4]) := ⟨mkS⟩
instance i15_3 : WR Tryd.prog 123 u15_3 (rS u15_3r u15_4 [1]) := ⟨mkS⟩
instance i15_13 : WR Tryd.prog 123 u15_13 (rCE (.t 23) .skip (.exit 0) [1, 5, 6, 23]) := ⟨mkCE⟩
instance i15_12 : WR Tryd.prog 123 u15_12 (rS u15_12r u15_13 [1, 5, 6]) := ⟨mkS⟩
instance i15_15 : WR Tryd.prog 123 u15_15 (rDE 18 u15_15r [1, 5, 6]) := ⟨mkDE⟩
instance i15_16 : WR Tryd.prog 123 u15_16 (rE u15_16r [1, 5, 6]) := ⟨mkE⟩
instance i15_14 : WR Tryd.prog 123 u15_14 (rB 1 u15_15 u15_16 [1, 5, 6]) := ⟨mkB⟩
instance i15_11 : WR Tryd.prog 123 u15_11 (rQ u15_12 u15_14 [1, 5, 6]) := ⟨mkQ⟩
instance i15_10 : WR Tryd.prog 123 u15_10 (rBE 0 (.loop u15_11) [1, 5, 6]) := ⟨mkBE⟩
instance i15_9 : WR Tryd.prog 123 u15_9 (rS u15_9r u15_10 [1, 5]) := ⟨mkS⟩
instance i15_23 : WR Tryd.prog 123 u15_23 (rCE (.t 53) .skip (.exit 2) [1, 5, 7, 53]) := ⟨mkCE⟩
instance i15_22 : WR Tryd.prog 123 u15_22 (rS u15_22r u15_23 [1, 5, 7]) := ⟨mkS⟩
instance i15_25 : WR Tryd.prog 123 u15_25 (rDE 16 u15_25r [1, 5, 7]) := ⟨mkDE⟩
instance i15_26 : WR Tryd.prog 123 u15_26 (rE u15_26r [1, 5, 7]) := ⟨mkE⟩
instance i15_24 : WR Tryd.prog 123 u15_24 (rB 3 u15_25 u15_26 [1, 5, 7]) := ⟨mkB⟩
instance i15_21 : WR Tryd.prog 123 u15_21 (rQ u15_22 u15_24 [1, 5, 7]) := ⟨mkQ⟩
instance i15_20 : WR Tryd.prog 123 u15_20 (rBE 2 (.loop u15_21) [1, 5, 7]) := ⟨mkBE⟩
instance i15_19 : WR Tryd.prog 123 u15_19 (rS u15_19r u15_20 [1, 5]) := ⟨mkS⟩
instance i15_33 : WR Tryd.prog 123 u15_33 (rCE (.t 81) .skip (.exit 4) [1, 5, 8, 81]) := ⟨mkCE⟩
instance i15_32 : WR Tryd.prog 123 u15_32 (rS u15_32r u15_33 [1, 5, 8]) := ⟨mkS⟩
instance i15_36 : WR Tryd.prog 123 u15_36 (rDE 18 u15_36r [1, 5, 8, 9]) := ⟨mkDE⟩
instance i15_35 : WR Tryd.prog 123 u15_35 (rS u15_35r u15_36 [1, 5, 8]) := ⟨mkS⟩
instance i15_37 : WR Tryd.prog 123 u15_37 (rE u15_37r [1, 5, 8]) := ⟨mkE⟩
instance i15_34 : WR Tryd.prog 123 u15_34 (rB 5 u15_35 u15_37 [1, 5, 8]) := ⟨mkB⟩
instance i15_31 : WR Tryd.prog 123 u15_31 (rQ u15_32 u15_34 [1, 5, 8]) := ⟨mkQ⟩
instance i15_30 : WR Tryd.prog 123 u15_30 (rBE 4 (.loop u15_31) [1, 5, 8]) := ⟨mkBE⟩
instance i15_29 : WR Tryd.prog 123 u15_29 (rS u15_29r u15_30 [1, 5]) := ⟨mkS⟩
instance i15_38 : WR Tryd.prog 123 u15_38 (rD 19 u15_38r .ret [1, 5]) := ⟨mkD⟩
instance i15_28 : WR Tryd.prog 123 u15_28 (rQ u15_29 u15_38 [1, 5]) := ⟨mkQ⟩
instance i15_27 : WR Tryd.prog 123 u15_27 (rS u15_27r u15_28 [1, 5]) := ⟨mkS⟩
instance i15_18 : WR Tryd.prog 123 u15_18 (rQ u15_19 u15_27 [1, 5]) := ⟨mkQ⟩
instance i15_17 : WR Tryd.prog 123 u15_17 (rS u15_17r u15_18 [1, 5]) := ⟨mkS⟩
instance i15_8 : WR Tryd.prog 123 u15_8 (rQ u15_9 u15_17 [1, 5]) := ⟨mkQ⟩
instance i15_7 : WR Tryd.prog 123 u15_7 (rS u15_7r u15_8 [1]) := ⟨mkS⟩
instance i15_2 : WR Tryd.prog 123 u15_2 (rQ u15_3 u15_7 [1]) := ⟨mkQ⟩
instance i15_1 : WR Tryd.prog 123 u15_1 (rS u15_1r u15_2 [0]) := ⟨mkS⟩
attribute [go_sem] u15_6r u15_4r u15_3r u15_12r u15_15r u15_16r u15_9r u15_22r u15_25r u15_26r u15_19r u15_32r u15_36r u15_35r u15_37r u15_29r u15_38r u15_27r u15_17r u15_7r u15_1r
theorem l_num (z0 : Nat) (hz0 : z0 < 18446744073709551616) : IW Tryd.prog 29 (.loop u31_9) ⟨tm [(3, .int .u64 (z0 : Int)), (4, .snil)], nil, 0⟩ (bk 0 (sq Tryd.prog 29 u31_15 (rt [.tmp 2] fun v H' x => ∃ H2, GL H' [v] H2 [.str (numB z0)]))) := by
  refine i_loop (fun q : Nat × List UInt8 × Option Nat => [(3, .int .u64 (q.1 : Int)), (4, todoV q.2.2 q.2.1.length)]) (fun q => optH nil q.2.2 ⟨1, true, bytesC q.2.1⟩)
    (fun q cc => q.1 < 18446744073709551616 ∧ (q.2.2 = none → q.2.1 = []) ∧ (∀ i, q.2.2 = some i → i < cc) ∧ q.2.1.length ≤ 20 ∧ q.2.1 ++ numB q.1 = numB z0) (fun q => q.1) (z0, [], none) ⟨rfl, rfl, trivial⟩ (Sub.refl _) ⟨hz0, fun _ => rfl, by simp, by simp, rfl⟩ ?_
  rintro ⟨z, pre, o⟩ cc ⟨hz, hn, hs, hl, he⟩
  simp only at hz hn hs hl he
  have hll : pre.length + (numB z).length ≤ 10 := by
    rw [← List.length_append, he]
    exact numB_len 9 z0 (by omega)
  by_cases hb : z < 128
  · have hd : decide ((z : Int) ≥ 128) = false := by simp; omega
    rw [numB_lt hb] at he hll
    have hlo := byte_lo hb
    rcases o with _ | id
    · obtain rfl := hn rfl
      repeat' ((first | with_reducible refine wr ?_ | ((with_reducible refine wb2 ?_ ?_) <;> (intro hb; try simp only [hb])) | ((with_reducible refine k_eval (r_appn' (by decide) (by decide) (by decide)) ?_)) | ((with_reducible refine k_val (cv_own (l := [UInt8.ofNat z]) h_same rfl rfl) ?_)) | fail) <;> try simp only [go_sem, seval, hd, hlo])
      rw [← he]; exact pc_ret rfl
    · have hi := hs id rfl
      simp only [List.length_singleton] at hll
      have ne0 : ¬ id = cc := by omega
      have ne1 : ¬ id = cc + 1 := by omega
      have ne2 : ¬ cc = id := by omega
      have ne3 : ¬ cc = cc + 1 := by omega
      have ne4 : ¬ cc + 1 = id := by omega
      have ne5 : ¬ cc + 1 = cc := by omega
      repeat' ((first | with_reducible refine wr ?_ | ((with_reducible refine wb2 ?_ ?_) <;> (intro hb; try simp only [hb])) | ((with_reducible refine k_eval (b_appx (bytesC_len1 _) (by omega) (by omega)) ?_)) | ((with_reducible refine k_val (cv_app h_same) ?_)) | fail) <;> try simp only [go_sem, seval, hd, hlo, ne0, ne1, ne2, ne3, ne4, ne5])
      rw [← he]; exact pc_ret rfl
  have hd : decide ((z : Int) ≥ 128) = true := by simp; omega
  rw [numB_ge hb] at he hll
  have hhi := byte_hi z
  have hq := quo128 hz
  rcases o with _ | id
  · obtain rfl := hn rfl
    repeat' ((first | with_reducible refine wr ?_ | ((with_reducible refine wb2 ?_ ?_) <;> (intro hb; try simp only [hb])) | ((with_reducible refine k_eval (r_appn' (by decide) (by decide) (by decide)) ?_)) | fail) <;> try simp only [go_sem, seval, hd, hhi, hq, r_rem, r_quo])
    refine ⟨(z / 128, [UInt8.ofNat (z % 128 + 128)], some (cc + 1)), ⟨rfl, rfl⟩, ?_, inv ⟨by simp only; omega, by simp, fun i hi => by cases hi; omega, by simp, he⟩, by simp only; omega⟩
    (intro j b hj; simp only [Hp.upd, Hp.del, Sym.nil, baseH, optH] at hj ⊢; (repeat' split at hj) <;> (repeat' split) <;> first | exact hj | (exfalso; omega) | cases hj)
  · have hi := hs id rfl
    simp only [List.length_cons] at hll
    have ne0 : ¬ id = cc := by omega
    have ne1 : ¬ id = cc + 1 := by omega
    have ne2 : ¬ cc = id := by omega
    have ne3 : ¬ cc = cc + 1 := by omega
    have ne4 : ¬ cc + 1 = id := by omega
    have ne5 : ¬ cc + 1 = cc := by omega
    repeat' ((first | with_reducible refine wr ?_ | ((with_reducible refine wb2 ?_ ?_) <;> (intro hb; try simp only [hb])) | ((with_reducible refine k_eval (b_appx (bytesC_len1 _) (by omega) (by omega)) ?_)) | fail) <;> try simp only [go_sem, seval, hd, hhi, hq, r_rem, r_quo, ne0, ne1, ne2, ne3, ne4, ne5])
    refine ⟨(z / 128, pre ++ [UInt8.ofNat (z % 128 + 128)], some (cc + 1)), ?_, ?_, inv ⟨by simp only; omega, by simp, fun i hi => by cases hi; omega, by simp only [List.length_append, List.length_singleton]; omega, by simp only [List.append_assoc, List.singleton_append]; exact he⟩, by simp only; omega⟩
    · simp [todoV]
    · rw [bytesC_app]; (intro j b hj; simp only [Hp.upd, Hp.del, Sym.nil, baseH, optH] at hj ⊢; (repeat' split at hj) <;> (repeat' split) <;> first | exact hj | (exfalso; omega) | cases hj)
theorem c_num (n : Int) (h1 : -4611686018427387904 ≤ n) (h2 : n ≤ 4611686018427387903) : PC Tryd.prog 31 [I64 n] (.str (numI n)) := by
  have hz := zig_lt h1 h2
  refine PC.of mixedU isU31 (Nat.le_of_ble_eq_true rfl) rfl rfl ?_
  show IW Tryd.prog 29 u31_1 ⟨argT _, _, _⟩ (rt [.tmp 2] _)
  by_cases h0 : n < 0
  · have hd : decide (n < 0) = true := by simpa using h0
    have hx := zigR_neg h0 h1
    repeat' ((first | with_reducible refine wr ?_ | ((with_reducible refine wb2 ?_ ?_) <;> (intro hb; try simp only [hb])) | fail) <;> try simp only [go_sem, seval, r_shl, hd, hx, un_xor])
    exact l_num _ hz
  · have hd : decide (n < 0) = false := by simpa using h0
    have hx := zigR_pos (by omega) h2
    repeat' ((first | with_reducible refine wr ?_ | ((with_reducible refine wb2 ?_ ?_) <;> (intro hb; try simp only [hb])) | fail) <;> try simp only [go_sem, seval, r_shl, hd, hx])
    exact l_num _ hz
theorem c_nums (l : List Int) (h : ∀ n ∈ l, Sm n) (hl : l.length ≤ 100000) : PC Tryd.prog 32 [ints l] (.str (numsB l)) := by
  have q0 := numI_len (n := (l.length : Int)) ⟨by omega, by omega⟩
  refine PC.of mixedU isU32 (Nat.le_of_ble_eq_true rfl) (by simp [DV.nlL, DV.nl, nlL_ints, nlL_strs, nlL_instrs, nlL_entries, nlL_stp]) (by simp [DV.nlL, DV.nl, nlL_ints, nlL_strs, nlL_instrs, nlL_entries, nlL_stp]) ?_
  show IW Tryd.prog 22 u32_1 ⟨argT _, _, _⟩ (rt [.tmp 2] _)
  repeat' ((first | with_reducible refine wr ?_ | ((with_reducible refine wb2 ?_ ?_) <;> (intro hb; try simp only [hb])) | ((with_reducible refine AC.call ((c_num (l.length : Int) (by omega) (by omega)).at _ _) ?_); rintro _ _ _ ⟨rfl, rfl, rfl⟩ -) | fail) <;> try simp only [go_sem, seval])
  refine i_loop (fun k : Nat => [(0, ints l), (3, .str (numI l.length ++ (l.take k).flatMap numI)), (4, I64 k)]) (fun _ => nil) (fun k cc => k ≤ l.length) (fun k => l.length - k) 0 (by simp [tmLe, tm, Tm.upd]) (Sub.nil _) (by simp) ?_
  rintro k cc hk
  by_cases hlt : k < l.length
  · have hd : decide ((k : Int) < l.length) = true := by simpa using hlt
    have hg := List.getElem?_eq_getElem hlt
    have hw := w64 (n := (k : Int) + 1) (by omega) (by omega)
    have hx := h _ (List.getElem_mem hlt)
    have q1 := numI_len hx
    have q2 := flat_take numI 10 l (fun x hx => numI_len (h x hx)) k
    repeat' ((first | with_reducible refine wr ?_ | ((with_reducible refine wb2 ?_ ?_) <;> (intro hb; try simp only [hb])) | ((with_reducible refine AC.call ((c_num _ hx.1 hx.2).at _ _) ?_); rintro _ _ _ ⟨rfl, rfl, rfl⟩ -) | ((with_reducible refine k_val (sadd (by first | omega | (simp only [List.length_append] <;> omega))) ?_)) | fail) <;> try simp only [go_sem, seval, hd, hg, hw])
    exact ⟨k + 1, by rw [flat_step numI hg, ← List.append_assoc]; simp, Sub.nil _, inv hlt, by omega⟩
  have hd : decide ((k : Int) < l.length) = false := by simpa using hlt
  repeat' ((first | with_reducible refine wr ?_ | ((with_reducible refine wb2 ?_ ?_) <;> (intro hb; try simp only [hb])) | fail) <;> try simp only [go_sem, seval, hd])
  rw [List.take_of_length_le (by omega)]
  exact pc_ret rfl
end Go.Proofs.YtcallbfckjlagaaDoor
set_option maxHeartbeats 4000000
set_option maxRecDepth 100000
set_option linter.unusedSimpArgs false
set_option linter.unusedVariables false
namespace Go.Proofs.YtcallbfckjlagaaDoor
open Go.Eng (IC IOper DReg IFn IsFn)
open Go.Sym Go.Pb
theorem c_EncodeR (c : Prg) (hs : ∀ s ∈ c.strings, s.length ≤ 140737488355328) (n1 : c.instrs.length ≤ 9223372036854775807) : PC Tryd.prog 15 [c.v] (.tup [.str (encV c), I64 (validM c)]) := by
  by_cases h0 : validM c = 0
  case neg =>
    have hz : (validM c != 0) = true := by simpa using h0
    refine PC.of mixedU isU15 (Nat.le_of_ble_eq_true rfl) (by simp [DV.nlL, DV.nl, nlL_ints, nlL_strs, nlL_instrs, nlL_entries, nlL_stp]) (by simp [DV.nlL, DV.nl, nlL_ints, nlL_strs, nlL_instrs, nlL_entries, nlL_stp]) ?_
    show IW Tryd.prog 123 u15_1 ⟨argT _, _, _⟩ (rt [.tmp 2, .tmp 3] _)
    repeat' ((first | with_reducible refine wr ?_ | ((with_reducible refine wb2 ?_ ?_) <;> (intro hb; try simp only [hb])) | ((with_reducible refine AC.call ((c_validR c hs n1).at _ _) ?_); rintro _ _ _ ⟨rfl, rfl, rfl⟩ -) | fail) <;> try simp only [go_sem, seval, hz])
    refine pc_ret ?_
    simp [encV, h0]
  have hz : (validM c != 0) = false := by simp [h0]
  have B := Bnd.valid h0
  obtain ⟨d1, d2, d3, d4, d5, d6, d7, d8, d9⟩ := Lim.dims (valid_all h0).1
  have hf6 : ∀ i ∈ c.instrs, (insB i).length ≤ 20 := fun i hi => by
    have a := numI_len (B.ins i hi).1
    have b := numI_len (B.ins i hi).2
    simp only [insB, List.length_append]; omega
  have hf7 : ∀ s ∈ c.strings, (strB s).length ≤ 42 := fun s hi => by
    have a := B.str s hi
    have b := numI_len (n := (s.length : Int)) ⟨by omega, by omega⟩
    simp only [strB, List.length_append]; omega
  have hf8 : ∀ e ∈ c.entries, (entB e).length ≤ 40 := fun e hi => by
    have a := numI_len (B.ent e hi).1
    have b := numI_len (B.ent e hi).2.1
    have d := numI_len (B.ent e hi).2.2.1
    have g := numI_len (B.ent e hi).2.2.2
    simp only [entB, List.length_append]; omega
  have L1 := numI_len (n := (c.instrs.length : Int)) ⟨by omega, by omega⟩
  have L2 := numI_len (n := (c.strings.length : Int)) ⟨by omega, by omega⟩
  have L3 := numI_len (n := (c.entries.length : Int)) ⟨by omega, by omega⟩
  have L4 := flat_len insB 20 c.instrs hf6
  have L5 := flat_len strB 42 c.strings hf7
  have L6 := flat_len entB 40 c.entries hf8
  have L7 := numsB_len B.pri (by omega)
  have L8 := numsB_len B.var (by omega)
  have L9 := numI_len B.tim
  have L10 := numI_len B.evt
  refine PC.of mixedU isU15 (Nat.le_of_ble_eq_true rfl) (by simp [DV.nlL, DV.nl, nlL_ints, nlL_strs, nlL_instrs, nlL_entries, nlL_stp]) (by simp [DV.nlL, DV.nl, nlL_ints, nlL_strs, nlL_instrs, nlL_entries, nlL_stp]) ?_
  show IW Tryd.prog 123 u15_1 ⟨argT _, _, _⟩ (rt [.tmp 2, .tmp 3] _)
  repeat' ((first | with_reducible refine wr ?_ | ((with_reducible refine wb2 ?_ ?_) <;> (intro hb; try simp only [hb])) | ((with_reducible refine AC.call ((c_validR c hs n1).at _ _) ?_); rintro _ _ _ ⟨rfl, rfl, rfl⟩ -) | ((with_reducible refine AC.call ((c_num (c.instrs.length : Int) (by omega) (by omega)).at _ _) ?_); rintro _ _ _ ⟨rfl, rfl, rfl⟩ -) | fail) <;> try simp only [go_sem, seval, hz, h0])
  refine i_loop (fun k : Nat => [(1, .ptr 0 0), (5, .str (numI c.instrs.length ++ (c.instrs.take k).flatMap insB)), (6, I64 k)]) (fun _ => nil.upd 0 ⟨0, true, c.cs⟩) (fun k cc => 1 ≤ cc ∧ k ≤ c.instrs.length) (fun k => c.instrs.length - k) 0 (by simp [tmLe, tm, Tm.upd]) (Sub.refl _) (by simp <;> omega) ?_
  rintro k cc ⟨h1c, hk⟩
  by_cases hlt : k < c.instrs.length
  · have hd : decide ((k : Int) < c.instrs.length) = true := by simpa using hlt
    have hg := List.getElem?_eq_getElem hlt
    have hw := w64 (n := (k : Int) + 1) (by omega) (by omega)
    have q2 := flat_take insB 20 c.instrs hf6 k
    have hx := B.ins _ (List.getElem_mem hlt)
    have q3 := numI_len hx.1
    have q4 := numI_len hx.2
    have a0 := sadd (s := numI c.instrs.length ++ (c.instrs.take k).flatMap insB) (t := numI c.instrs[k].op) (by first | omega | (simp only [List.length_append] <;> omega))
    have a1 := sadd (s := numI c.instrs.length ++ (c.instrs.take k).flatMap insB ++ numI c.instrs[k].op) (t := numI c.instrs[k].A) (by first | omega | (simp only [List.length_append] <;> omega))
    have ne0 : ¬ 0 = cc := by omega
    have ne1 : ¬ cc = 0 := by omega
    repeat' ((first | with_reducible refine wr ?_ | ((with_reducible refine wb2 ?_ ?_) <;> (intro hb; try simp only [hb])) | ((with_reducible refine AC.call ((c_num _ hx.1.1 hx.1.2).at _ _) ?_); rintro _ _ _ ⟨rfl, rfl, rfl⟩ -) | ((with_reducible refine AC.call ((c_num _ hx.2.1 hx.2.2).at _ _) ?_); rintro _ _ _ ⟨rfl, rfl, rfl⟩ -) | ((with_reducible refine k_val (sadd (by first | omega | (simp only [List.length_append] <;> omega))) ?_)) | fail) <;> try simp only [go_sem, seval, hd, hg, hw, ne0, ne1, a0, a1])
    exact ⟨k + 1, by rw [flat_step insB hg]; simp [insB, List.append_assoc], by (intro j b hj; simp only [Hp.upd, Hp.del, Sym.nil, baseH, optH] at hj ⊢; (repeat' split at hj) <;> (repeat' split) <;> first | exact hj | (exfalso; omega) | cases hj), inv ⟨by omega, hlt⟩, by omega⟩
  have hd : decide ((k : Int) < c.instrs.length) = false := by simpa using hlt
  rw [List.take_of_length_le (by omega)]
  obtain ⟨P, hP⟩ : ∃ P, P = numI c.instrs.length ++ c.instrs.flatMap insB ++ numI c.strings.length := ⟨_, rfl⟩
  have hPl : P.length ≤ 100000 := by rw [hP]; simp only [List.length_append]; omega
  repeat' ((first | with_reducible refine wr ?_ | ((with_reducible refine wb2 ?_ ?_) <;> (intro hb; try simp only [hb])) | ((with_reducible refine AC.call ((c_num (c.strings.length : Int) (by omega) (by omega)).at _ _) ?_); rintro _ _ _ ⟨rfl, rfl, rfl⟩ -) | ((with_reducible refine k_val (sadd (by first | omega | (simp only [List.length_append] <;> omega))) ?_)) | fail) <;> try simp only [go_sem, seval, hd])
  rw [← hP]
  clear hd hlt hk
  refine i_loop (fun k : Nat => [(1, .ptr 0 0), (5, .str (P ++ (c.strings.take k).flatMap strB)), (7, I64 k)]) (fun _ => nil.upd 0 ⟨0, true, c.cs⟩) (fun k cc => 1 ≤ cc ∧ k ≤ c.strings.length) (fun k => c.strings.length - k) 0 (by simp [tmLe, tm, Tm.upd]) (Sub.refl _) (by simp <;> omega) ?_
  rintro k cc ⟨h1c, hk⟩
  by_cases hlt : k < c.strings.length
  · have hd : decide ((k : Int) < c.strings.length) = true := by simpa using hlt
    have hg := List.getElem?_eq_getElem hlt
    have hw := w64 (n := (k : Int) + 1) (by omega) (by omega)
    have q2 := flat_take strB 42 c.strings hf7 k
    have hx := B.str _ (List.getElem_mem hlt)
    have hy : Sm (c.strings[k].length : Int) := ⟨by omega, by omega⟩
    have q3 := numI_len hy
    have a0 := sadd (s := P ++ (c.strings.take k).flatMap strB) (t := numI c.strings[k].length) (by first | omega | (simp only [List.length_append] <;> omega))
    have a1 := sadd (s := P ++ (c.strings.take k).flatMap strB ++ numI c.strings[k].length) (t := c.strings[k]) (by first | omega | (simp only [List.length_append] <;> omega))
    have ne0 : ¬ 0 = cc := by omega
    have ne1 : ¬ cc = 0 := by omega
    repeat' ((first | with_reducible refine wr ?_ | ((with_reducible refine wb2 ?_ ?_) <;> (intro hb; try simp only [hb])) | ((with_reducible refine AC.call ((c_num _ hy.1 hy.2).at _ _) ?_); rintro _ _ _ ⟨rfl, rfl, rfl⟩ -) | ((with_reducible refine k_val (sadd (by first | omega | (simp only [List.length_append] <;> omega))) ?_)) | fail) <;> try simp only [go_sem, seval, hd, hg, hw, ne0, ne1, a0, a1])
    exact ⟨k + 1, by rw [flat_step strB hg]; simp [strB, List.append_assoc], by (intro j b hj; simp only [Hp.upd, Hp.del, Sym.nil, baseH, optH] at hj ⊢; (repeat' split at hj) <;> (repeat' split) <;> first | exact hj | (exfalso; omega) | cases hj), inv ⟨by omega, hlt⟩, by omega⟩
  have hd : decide ((k : Int) < c.strings.length) = false := by simpa using hlt
  rw [List.take_of_length_le (by omega)]
  obtain ⟨Q, hQ⟩ : ∃ Q, Q = P ++ c.strings.flatMap strB ++ numI c.entries.length := ⟨_, rfl⟩
  have hQl : Q.length ≤ 200000 := by rw [hQ]; simp only [List.length_append]; omega
  repeat' ((first | with_reducible refine wr ?_ | ((with_reducible refine wb2 ?_ ?_) <;> (intro hb; try simp only [hb])) | ((with_reducible refine AC.call ((c_num (c.entries.length : Int) (by omega) (by omega)).at _ _) ?_); rintro _ _ _ ⟨rfl, rfl, rfl⟩ -) | ((with_reducible refine k_val (sadd (by first | omega | (simp only [List.length_append] <;> omega))) ?_)) | fail) <;> try simp only [go_sem, seval, hd])
  rw [← hQ]
  clear hd hlt hk
  refine i_loop (fun k : Nat => [(1, .ptr 0 0), (5, .str (Q ++ (c.entries.take k).flatMap entB)), (8, I64 k)]) (fun _ => nil.upd 0 ⟨0, true, c.cs⟩) (fun k cc => 1 ≤ cc ∧ k ≤ c.entries.length) (fun k => c.entries.length - k) 0 (by simp [tmLe, tm, Tm.upd]) (Sub.refl _) (by simp <;> omega) ?_
  rintro k cc ⟨h1c, hk⟩
  by_cases hlt : k < c.entries.length
  · have hd : decide ((k : Int) < c.entries.length) = true := by simpa using hlt
    have hg := List.getElem?_eq_getElem hlt
    have hw := w64 (n := (k : Int) + 1) (by omega) (by omega)
    have q2 := flat_take entB 40 c.entries hf8 k
    have hx := B.ent _ (List.getElem_mem hlt)
    have q3 := numI_len hx.1
    have q4 := numI_len hx.2.1
    have q5 := numI_len hx.2.2.1
    have q6 := numI_len hx.2.2.2
    have a0 := sadd (s := Q ++ (c.entries.take k).flatMap entB) (t := numI c.entries[k].mode) (by first | omega | (simp only [List.length_append] <;> omega))
    have a1 := sadd (s := Q ++ (c.entries.take k).flatMap entB ++ numI c.entries[k].mode) (t := numI c.entries[k].trigger) (by first | omega | (simp only [List.length_append] <;> omega))
    have a2 := sadd (s := Q ++ (c.entries.take k).flatMap entB ++ numI c.entries[k].mode ++ numI c.entries[k].trigger) (t := numI c.entries[k].index) (by first | omega | (simp only [List.length_append] <;> omega))
    have a3 := sadd (s := Q ++ (c.entries.take k).flatMap entB ++ numI c.entries[k].mode ++ numI c.entries[k].trigger ++ numI c.entries[k].index) (t := numI c.entries[k].pos) (by first | omega | (simp only [List.length_append] <;> omega))
    have fa1 : ¬cc + 1 + 1 = 0 := by omega
    have fb1 : ¬cc + 1 + 1 = cc := by omega
    have fa2 : ¬cc + 1 + 2 = 0 := by omega
    have fb2 : ¬cc + 1 + 2 = cc := by omega
    have fa3 : ¬cc + 1 + 3 = 0 := by omega
    have fb3 : ¬cc + 1 + 3 = cc := by omega
    have fa4 : ¬cc + 1 + 4 = 0 := by omega
    have fb4 : ¬cc + 1 + 4 = cc := by omega
    have fa5 : ¬cc + 1 + 5 = 0 := by omega
    have fb5 : ¬cc + 1 + 5 = cc := by omega
    have fa6 : ¬cc + 1 + 6 = 0 := by omega
    have fb6 : ¬cc + 1 + 6 = cc := by omega
    have fa7 : ¬cc + 1 + 7 = 0 := by omega
    have fb7 : ¬cc + 1 + 7 = cc := by omega
    have fa8 : ¬cc + 1 + 8 = 0 := by omega
    have fb8 : ¬cc + 1 + 8 = cc := by omega
    have fa9 : ¬cc + 1 + 9 = 0 := by omega
    have fb9 : ¬cc + 1 + 9 = cc := by omega
    have fa10 : ¬cc + 1 + 10 = 0 := by omega
    have fb10 : ¬cc + 1 + 10 = cc := by omega
    have fa11 : ¬cc + 1 + 11 = 0 := by omega
    have fb11 : ¬cc + 1 + 11 = cc := by omega
    have fa12 : ¬cc + 1 + 12 = 0 := by omega
    have fb12 : ¬cc + 1 + 12 = cc := by omega
    have fa13 : ¬cc + 1 + 13 = 0 := by omega
    have fb13 : ¬cc + 1 + 13 = cc := by omega
    have fa14 : ¬cc + 1 + 14 = 0 := by omega
    have fb14 : ¬cc + 1 + 14 = cc := by omega
    have fa15 : ¬cc + 1 + 15 = 0 := by omega
    have fb15 : ¬cc + 1 + 15 = cc := by omega
    have fa16 : ¬cc + 1 + 16 = 0 := by omega
    have fb16 : ¬cc + 1 + 16 = cc := by omega
    have fa17 : ¬cc + 1 + 17 = 0 := by omega
    have fb17 : ¬cc + 1 + 17 = cc := by omega
    have fa18 : ¬cc + 1 + 18 = 0 := by omega
    have fb18 : ¬cc + 1 + 18 = cc := by omega
    have fa19 : ¬cc + 1 + 19 = 0 := by omega
    have fb19 : ¬cc + 1 + 19 = cc := by omega
    have ne0 : ¬ 0 = cc := by omega
    have ne1 : ¬ 0 = cc + 1 := by omega
    have ne2 : ¬ cc = 0 := by omega
    have ne3 : ¬ cc = cc + 1 := by omega
    have ne4 : ¬ cc + 1 = 0 := by omega
    have ne5 : ¬ cc + 1 = cc := by omega
    repeat' ((first | with_reducible refine wr ?_ | ((with_reducible refine wb2 ?_ ?_) <;> (intro hb; try simp only [hb])) | ((with_reducible refine AC.call ((c_num _ hx.1.1 hx.1.2).at _ _) ?_); rintro _ _ _ ⟨rfl, rfl, rfl⟩ -) | ((with_reducible refine AC.call ((c_num _ hx.2.1.1 hx.2.1.2).at _ _) ?_); rintro _ _ _ ⟨rfl, rfl, rfl⟩ -) | ((with_reducible refine AC.call ((c_num _ hx.2.2.1.1 hx.2.2.1.2).at _ _) ?_); rintro _ _ _ ⟨rfl, rfl, rfl⟩ -) | ((with_reducible refine AC.call ((c_num _ hx.2.2.2.1 hx.2.2.2.2).at _ _) ?_); rintro _ _ _ ⟨rfl, rfl, rfl⟩ -) | ((with_reducible refine k_val (sadd (by first | omega | (simp only [List.length_append] <;> omega))) ?_)) | fail) <;> try simp only [go_sem, seval, hd, hg, hw, ne0, ne1, ne2, ne3, ne4, ne5, a0, a1, a2, a3, fa1, fb1, fa2, fb2, fa3, fb3, fa4, fb4, fa5, fb5, fa6, fb6, fa7, fb7, fa8, fb8, fa9, fb9, fa10, fb10, fa11, fb11, fa12, fb12, fa13, fb13, fa14, fb14, fa15, fb15, fa16, fb16, fa17, fb17, fa18, fb18, fa19, fb19])
    exact ⟨k + 1, by rw [flat_step entB hg]; simp [entB, List.append_assoc], by (intro j b hj; simp only [Hp.upd, Hp.del, Sym.nil, baseH, optH] at hj ⊢; (repeat' split at hj) <;> (repeat' split) <;> first | exact hj | (exfalso; omega) | cases hj), inv ⟨by omega, hlt⟩, by omega⟩
  have hd : decide ((k : Int) < c.entries.length) = false := by simpa using hlt
  rw [List.take_of_length_le (by omega)]
  have a0 := sadd (s := Q ++ c.entries.flatMap entB) (t := numsB c.prios) (by first | omega | (simp only [List.length_append] <;> omega))
  have a1 := sadd (s := Q ++ c.entries.flatMap entB ++ numsB c.prios) (t := numsB c.vars) (by first | omega | (simp only [List.length_append] <;> omega))
  have a2 := sadd (s := Q ++ c.entries.flatMap entB ++ numsB c.prios ++ numsB c.vars) (t := numI c.timers) (by first | omega | (simp only [List.length_append] <;> omega))
  have a3 := sadd (s := Q ++ c.entries.flatMap entB ++ numsB c.prios ++ numsB c.vars ++ numI c.timers) (t := numI c.events) (by first | omega | (simp only [List.length_append] <;> omega))
  have fa1 : ¬cc + 1 = 0 := by omega
  have fa2 : ¬cc + 2 = 0 := by omega
  have fa3 : ¬cc + 3 = 0 := by omega
  have fa4 : ¬cc + 4 = 0 := by omega
  have fa5 : ¬cc + 5 = 0 := by omega
  have fa6 : ¬cc + 6 = 0 := by omega
  have fa7 : ¬cc + 7 = 0 := by omega
  have fa8 : ¬cc + 8 = 0 := by omega
  have fa9 : ¬cc + 9 = 0 := by omega
  have fa10 : ¬cc + 10 = 0 := by omega
  have fa11 : ¬cc + 11 = 0 := by omega
  have fa12 : ¬cc + 12 = 0 := by omega
  have fa13 : ¬cc + 13 = 0 := by omega
  have fa14 : ¬cc + 14 = 0 := by omega
  have fa15 : ¬cc + 15 = 0 := by omega
  have fa16 : ¬cc + 16 = 0 := by omega
  have fa17 : ¬cc + 17 = 0 := by omega
  have fa18 : ¬cc + 18 = 0 := by omega
  have fa19 : ¬cc + 19 = 0 := by omega
  have fa0 : ¬cc = 0 := by omega
  repeat' ((first | with_reducible refine wr ?_ | ((with_reducible refine wb2 ?_ ?_) <;> (intro hb; try simp only [hb])) | ((with_reducible refine AC.call ((c_nums _ B.pri (by omega)).at _ _) ?_); rintro _ _ _ ⟨rfl, rfl, rfl⟩ -) | ((with_reducible refine AC.call ((c_nums _ B.var (by omega)).at _ _) ?_); rintro _ _ _ ⟨rfl, rfl, rfl⟩ -) | ((with_reducible refine AC.call ((c_num _ B.tim.1 B.tim.2).at _ _) ?_); rintro _ _ _ ⟨rfl, rfl, rfl⟩ -) | ((with_reducible refine AC.call ((c_num _ B.evt.1 B.evt.2).at _ _) ?_); rintro _ _ _ ⟨rfl, rfl, rfl⟩ -) | ((with_reducible refine k_val (sadd (by first | omega | (simp only [List.length_append] <;> omega))) ?_)) | fail) <;> try simp only [go_sem, seval, hd, a0, a1, a2, a3, fa0, fa1, fa2, fa3, fa4, fa5, fa6, fa7, fa8, fa9, fa10, fa11, fa12, fa13, fa14, fa15, fa16, fa17, fa18, fa19])
  refine pc_ret ?_
  rw [encV, if_pos h0, encM, hQ, hP]
end Go.Proofs.YtcallbfckjlagaaDoor
set_option maxHeartbeats 4000000
set_option maxRecDepth 100000
set_option linter.unusedSimpArgs false
set_option linter.unusedVariables false
namespace Go.Proofs.YtcallbfckjlagaaDoor
open Go.Eng (IC IOper DReg IFn IsFn)
open Go.Sym Go.Pb
noncomputable section
def u39_11r : List IOper := [oP 18 (.mv (.t 5)), oP 19 (.bin .mul (.k (.int .i64 (-2))) (.t 18)), oP 20 (.bin .sub (.t 19) (.k (.int .i64 1))), oP 21 (.cvi .u64 (.t 20)), oP 6 (.mv (.t 21))]
def u39_11 : IC := .reg u39_11r
def u39_10 : IC := .cond (.t 17) u39_11 .skip
def u39_9r : List IOper := [oP 16 (.mv (.t 5)), oP 17 (.bin .lss (.t 16) (.k (.int .i64 0)))]
def u39_9 : IC := .seq (.reg u39_9r) u39_10
def u39_15 : IC := .cond (.t 23) .skip (.exit 2)
def u39_14r : List IOper := [oP 22 (.mv (.t 6)), oP 23 (.bin .gtr (.t 22) (.k (.int .u64 127)))]
def u39_14 : IC := .seq (.reg u39_14r) u39_15
def u39_17r : List IOper := [oP 26 (.mv (.t 0)), oP 27 (.mv (.t 0)), oP 28 (.nck (.t 27)), oP 29 (.fad 0 (.t 28)), oP 30 (.ld 1 false (.t 29)), oP 31 (.mv (.t 6)), oP 32 (.bin .rem (.t 31) (.k (.int .u64 128))), oP 33 (.bin .add (.t 32) (.k (.int .u64 128))), oP 34 (.cvi .u8 (.t 33)), ⟨some 35, .new (.bsl 1 1 #[.int .u8 0] [(0, .t 34)]), none⟩, ⟨some 36, .eff (.app 1 1 (.t 30) (.t 35)), none⟩, oP 37 (.nck (.t 26)), oP 38 (.fad 0 (.t 37)), ⟨none, .eff (.st 1 (.t 38) (.t 36)), none⟩]
def u39_17 : IC := .reg u39_17r
def u39_18r : List IOper := [oP 24 (.mv (.t 6)), oP 25 (.bin .quo (.t 24) (.k (.int .u64 128))), oP 6 (.mv (.t 25))]
def u39_18 : IC := .reg u39_18r
def u39_16 : IC := .seq (.blk 3 u39_17) u39_18
def u39_13 : IC := .seq u39_14 u39_16
def u39_19r : List IOper := [oP 39 (.mv (.t 0)), oP 40 (.mv (.t 0)), oP 41 (.nck (.t 40)), oP 42 (.fad 0 (.t 41)), oP 43 (.ld 1 false (.t 42)), oP 44 (.mv (.t 6)), oP 45 (.cvi .u8 (.t 44)), ⟨some 46, .new (.bsl 1 1 #[.int .u8 0] [(0, .t 45)]), none⟩, ⟨some 47, .eff (.app 1 1 (.t 43) (.t 46)), none⟩, oP 48 (.nck (.t 39)), oP 49 (.fad 0 (.t 48)), ⟨none, .eff (.st 1 (.t 49) (.t 47)), none⟩]
def u39_19 : IC := .reg u39_19r
def u39_12 : IC := .seq (.blk 2 (.loop u39_13)) u39_19
def u39_8 : IC := .seq u39_9 u39_12
def u39_7r : List IOper := [oP 13 (.mv (.t 5)), oP 14 (.bin .mul (.k (.int .i64 2)) (.t 13)), oP 15 (.cvi .u64 (.t 14)), oP 6 (.mv (.t 15))]
def u39_7 : IC := .seq (.reg u39_7r) u39_8
def u39_6r : List IOper := [oP 11 (.iad 1 (.t 7) (.t 9)), oP 12 (.ld 1 false (.t 11)), oP 5 (.mv (.t 12))]
def u39_6 : IC := .seq (.reg u39_6r) u39_7
def u39_20r : List IOper := [oP 50 (.bin .add (.t 9) (.k (.int .i64 1))), oP 9 (.mv (.t 50))]
def u39_20 : IC := .reg u39_20r
def u39_5 : IC := .seq (.blk 1 u39_6) u39_20
def u39_4 : IC := .seq (.cond (.t 10) .skip (.exit 0)) u39_5
def u39_3r : List IOper := [oP 10 (.bin .lss (.t 9) (.t 8))]
def u39_3 : IC := .seq (.reg u39_3r) u39_4
def u39_2 : IC := .blk 0 (.loop u39_3)
def u39_1r : List IOper := [oP 7 (.mv (.t 1)), oP 8 (.len (.t 7)), oP 9 (.mv (.k (.int .i64 0)))]
def u39_1 : IC := .seq (.reg u39_1r) u39_2
def u39 : IFn := ⟨51, u39_1, []⟩
end
theorem isU39 : IsFn Tryd.prog 39 u39 := by unfold IsFn; kernel_rfl
instance i39_11 : WR Tryd.prog 51 u39_11 (rE u39_11r [0, 5, 7, 8, 9]) := ⟨mkE⟩
instance i39_10 : WR Tryd.prog 51 u39_10 (rCE (.t 17) u39_11 .skip [0, 5, 6, 7, 8, 9, 17]) := ⟨mkCE⟩
instance i39_9 : WR Tryd.prog 51 u39_9 (rS u39_9r u39_10 [0, 5, 6, 7, 8, 9]) := ⟨mkS⟩
instance i39_15 : WR Tryd.prog 51 u39_15 (rCE (.t 23) .skip (.exit 2) [0, 6, 7, 8, 9, 23]) := ⟨mkCE⟩
instance i39_14 : WR Tryd.prog 51 u39_14 (rS u39_14r u39_15 [0, 6, 7, 8, 9]) := ⟨mkS⟩
instance i39_17 : WR Tryd.prog 51 u39_17 (rE u39_17r [0, 6, 7, 8, 9]) := ⟨mkE⟩
instance i39_18 : WR Tryd.prog 51 u39_18 (rE u39_18r [0, 6, 7, 8, 9]) := ⟨mkE⟩
instance i39_16 : WR Tryd.prog 51 u39_16 (rB 3 u39_17 u39_18 [0, 6, 7, 8, 9]) := ⟨mkB⟩
instance i39_13 : WR Tryd.prog 51 u39_13 (rQ u39_14 u39_16 [0, 6, 7, 8, 9]) := ⟨mkQ⟩
instance i39_19 : WR Tryd.prog 51 u39_19 (rE u39_19r [0, 6, 7, 8, 9]) := ⟨mkE⟩
instance i39_12 : WR Tryd.prog 51 u39_12 (rB 2 (.loop u39_13) u39_19 [0, 6, 7, 8, 9]) := ⟨mkB⟩
instance i39_8 : WR Tryd.prog 51 u39_8 (rQ u39_9 u39_12 [0, 5, 6, 7, 8, 9]) := ⟨mkQ⟩
instance i39_7 : WR Tryd.prog 51 u39_7 (rS u39_7r u39_8 [0, 5, 7, 8, 9]) := ⟨mkS⟩
instance i39_6 : WR Tryd.prog 51 u39_6 (rS u39_6r u39_7 [0, 7, 8, 9]) := ⟨mkS⟩
instance i39_20 : WR Tryd.prog 51 u39_20 (rE u39_20r [0, 7, 8, 9]) := ⟨mkE⟩
instance i39_5 : WR Tryd.prog 51 u39_5 (rB 1 u39_6 u39_20 [0, 7, 8, 9]) := ⟨mkB⟩
instance i39_4 : WR Tryd.prog 51 u39_4 (rC (.t 10) .skip (.exit 0) u39_5 [0, 7, 8, 9, 10]) := ⟨mkC⟩
instance i39_3 : WR Tryd.prog 51 u39_3 (rS u39_3r u39_4 [0, 7, 8, 9]) := ⟨mkS⟩
instance i39_2 : WR Tryd.prog 51 u39_2 (rBE 0 (.loop u39_3) [0, 7, 8, 9]) := ⟨mkBE⟩
instance i39_1 : WR Tryd.prog 51 u39_1 (rS u39_1r u39_2 [0, 1]) := ⟨mkS⟩
attribute [go_sem] u39_11r u39_9r u39_14r u39_17r u39_18r u39_19r u39_7r u39_6r u39_20r u39_3r u39_1r
noncomputable section
def u19_6r : List IOper := [oP 16 (.mv (.t 4)), oP 2 (.mv (.k (.string ⟨#[]⟩))), oP 3 (.mv (.t 16))]
def u19_6 : IC := .seq (.reg u19_6r) .ret
def u19_5 : IC := .cond (.t 15) u19_6 .skip
def u19_4r : List IOper := [oP 14 (.mv (.t 4)), oP 15 (.bin .neq (.t 14) (.k (.int .i64 0)))]
def u19_4 : IC := .seq (.reg u19_4r) u19_5
def u19_3r : List IOper := [oP 12 (.ld 7 true (.t 1)), ⟨some 13, .call 14 [.t 12], none⟩, oP 4 (.mv (.t 13))]
def u19_3 : IC := .seq (.reg u19_3r) u19_4
def u19_16r : List IOper := [oP 32 (.mv (.t 5)), oP 33 (.fad 0 (.t 7)), oP 34 (.ld 1 false (.t 33)), oP 35 (.fad 1 (.t 7)), oP 36 (.ld 1 false (.t 35)), ⟨some 37, .new (.bsl 1 2 #[.int .i64 0] [(0, .t 34), (1, .t 36)]), none⟩, ⟨some 38, .call 39 [.t 32, .t 37], none⟩]
def u19_16 : IC := .reg u19_16r
def u19_15r : List IOper := [oP 30 (.iad 2 (.t 26) (.t 28)), oP 31 (.ld 2 true (.t 30)), ⟨some 7, .new (.box (.k (.agg #[.int .i64 0, .int .i64 0]))), none⟩, ⟨none, .eff (.st 2 (.t 7) (.t 31)), none⟩]
def u19_15 : IC := .seq (.reg u19_15r) u19_16
def u19_17r : List IOper := [oP 39 (.bin .add (.t 28) (.k (.int .i64 1))), oP 28 (.mv (.t 39))]
def u19_17 : IC := .reg u19_17r
def u19_14 : IC := .seq (.blk 1 u19_15) u19_17
def u19_13 : IC := .seq (.cond (.t 29) .skip (.exit 0)) u19_14
def u19_12r : List IOper := [oP 29 (.bin .lss (.t 28) (.t 27))]
def u19_12 : IC := .seq (.reg u19_12r) u19_13
def u19_11 : IC := .blk 0 (.loop u19_12)
def u19_10r : List IOper := [oP 25 (.fad 0 (.t 1)), oP 26 (.ld 1 false (.t 25)), oP 27 (.len (.t 26)), oP 28 (.mv (.k (.int .i64 0)))]
def u19_10 : IC := .seq (.reg u19_10r) u19_11
def u19_27r : List IOper := [oP 58 (.mv (.t 5)), oP 59 (.mv (.t 5)), oP 60 (.nck (.t 59)), oP 61 (.fad 0 (.t 60)), oP 62 (.ld 1 false (.t 61)), oP 63 (.mv (.t 9)), ⟨some 64, .eff (.apps (.t 62) (.t 63)), none⟩, oP 65 (.nck (.t 58)), oP 66 (.fad 0 (.t 65)), ⟨none, .eff (.st 1 (.t 66) (.t 64)), none⟩]
def u19_27 : IC := .reg u19_27r
def u19_26r : List IOper := [oP 53 (.mv (.t 5)), oP 54 (.mv (.t 9)), oP 55 (.lens (.t 54)), ⟨some 56, .new (.bsl 1 1 #[.int .i64 0] [(0, .t 55)]), none⟩, ⟨some 57, .call 39 [.t 53, .t 56], none⟩]
def u19_26 : IC := .seq (.reg u19_26r) u19_27
def u19_25r : List IOper := [oP 51 (.iad 1 (.t 47) (.t 49)), oP 52 (.ld 1 false (.t 51)), oP 9 (.mv (.t 52))]
def u19_25 : IC := .seq (.reg u19_25r) u19_26
def u19_28r : List IOper := [oP 67 (.bin .add (.t 49) (.k (.int .i64 1))), oP 49 (.mv (.t 67))]
def u19_28 : IC := .reg u19_28r
def u19_24 : IC := .seq (.blk 3 u19_25) u19_28
def u19_23 : IC := .seq (.cond (.t 50) .skip (.exit 2)) u19_24
def u19_22r : List IOper := [oP 50 (.bin .lss (.t 49) (.t 48))]
def u19_22 : IC := .seq (.reg u19_22r) u19_23
def u19_21 : IC := .blk 2 (.loop u19_22)
def u19_20r : List IOper := [oP 46 (.fad 1 (.t 1)), oP 47 (.ld 1 false (.t 46)), oP 48 (.len (.t 47)), oP 49 (.mv (.k (.int .i64 0)))]
def u19_20 : IC := .seq (.reg u19_20r) u19_21
def u19_37r : List IOper := [oP 81 (.mv (.t 5)), oP 82 (.fad 0 (.t 11)), oP 83 (.ld 1 false (.t 82)), oP 84 (.fad 1 (.t 11)), oP 85 (.ld 1 false (.t 84)), oP 86 (.fad 2 (.t 11)), oP 87 (.ld 1 false (.t 86)), oP 88 (.fad 3 (.t 11)), oP 89 (.ld 1 false (.t 88)), ⟨some 90, .new (.bsl 1 4 #[.int .i64 0] [(0, .t 83), (1, .t 85), (2, .t 87), (3, .t 89)]), none⟩, ⟨some 91, .call 39 [.t 81, .t 90], none⟩]
def u19_37 : IC := .reg u19_37r
def u19_36r : List IOper := [oP 79 (.iad 4 (.t 75) (.t 77)), oP 80 (.ld 4 true (.t 79)), ⟨some 11, .new (.box (.k (.agg #[.int .i64 0, .int .i64 0, .int .i64 0, .int .i64 0]))), none⟩, ⟨none, .eff (.st 4 (.t 11) (.t 80)), none⟩]
def u19_36 : IC := .seq (.reg u19_36r) u19_37
def u19_38r : List IOper := [oP 92 (.bin .add (.t 77) (.k (.int .i64 1))), oP 77 (.mv (.t 92))]
def u19_38 : IC := .reg u19_38r
def u19_35 : IC := .seq (.blk 5 u19_36) u19_38
def u19_34 : IC := .seq (.cond (.t 78) .skip (.exit 4)) u19_35
def u19_33r : List IOper := [oP 78 (.bin .lss (.t 77) (.t 76))]
def u19_33 : IC := .seq (.reg u19_33r) u19_34
def u19_32 : IC := .blk 4 (.loop u19_33)
def u19_31r : List IOper := [oP 74 (.fad 2 (.t 1)), oP 75 (.ld 1 false (.t 74)), oP 76 (.len (.t 75)), oP 77 (.mv (.k (.int .i64 0)))]
def u19_31 : IC := .seq (.reg u19_31r) u19_32
def u19_44r : List IOper := [oP 120 (.mv (.t 5)), oP 121 (.nck (.t 120)), oP 122 (.fad 0 (.t 121)), oP 123 (.ld 1 false (.t 122)), oP 124 (.cvbs (.t 123)), oP 2 (.mv (.t 124)), oP 3 (.mv (.k (.int .i64 0)))]
def u19_44 : IC := .seq (.reg u19_44r) .ret
def u19_43r : List IOper := [oP 113 (.mv (.t 5)), oP 114 (.fad 5 (.t 1)), oP 115 (.ld 1 false (.t 114)), oP 116 (.fad 6 (.t 1)), oP 117 (.ld 1 false (.t 116)), ⟨some 118, .new (.bsl 1 2 #[.int .i64 0] [(0, .t 115), (1, .t 117)]), none⟩, ⟨some 119, .call 39 [.t 113, .t 118], none⟩]
def u19_43 : IC := .seq (.reg u19_43r) u19_44
def u19_42r : List IOper := [oP 109 (.mv (.t 5)), oP 110 (.fad 4 (.t 1)), oP 111 (.ld 1 false (.t 110)), ⟨some 112, .call 39 [.t 109, .t 111], none⟩]
def u19_42 : IC := .seq (.reg u19_42r) u19_43
def u19_41r : List IOper := [oP 103 (.mv (.t 5)), oP 104 (.fad 4 (.t 1)), oP 105 (.ld 1 false (.t 104)), oP 106 (.len (.t 105)), ⟨some 107, .new (.bsl 1 1 #[.int .i64 0] [(0, .t 106)]), none⟩, ⟨some 108, .call 39 [.t 103, .t 107], none⟩]
def u19_41 : IC := .seq (.reg u19_41r) u19_42
def u19_40r : List IOper := [oP 99 (.mv (.t 5)), oP 100 (.fad 3 (.t 1)), oP 101 (.ld 1 false (.t 100)), ⟨some 102, .call 39 [.t 99, .t 101], none⟩]
def u19_40 : IC := .seq (.reg u19_40r) u19_41
def u19_39r : List IOper := [oP 93 (.mv (.t 5)), oP 94 (.fad 3 (.t 1)), oP 95 (.ld 1 false (.t 94)), oP 96 (.len (.t 95)), ⟨some 97, .new (.bsl 1 1 #[.int .i64 0] [(0, .t 96)]), none⟩, ⟨some 98, .call 39 [.t 93, .t 97], none⟩]
def u19_39 : IC := .seq (.reg u19_39r) u19_40
def u19_30 : IC := .seq u19_31 u19_39
def u19_29r : List IOper := [oP 68 (.mv (.t 5)), oP 69 (.fad 2 (.t 1)), oP 70 (.ld 1 false (.t 69)), oP 71 (.len (.t 70)), ⟨some 72, .new (.bsl 1 1 #[.int .i64 0] [(0, .t 71)]), none⟩, ⟨some 73, .call 39 [.t 68, .t 72], none⟩]
def u19_29 : IC := .seq (.reg u19_29r) u19_30
def u19_19 : IC := .seq u19_20 u19_29
def u19_18r : List IOper := [oP 40 (.mv (.t 5)), oP 41 (.fad 1 (.t 1)), oP 42 (.ld 1 false (.t 41)), oP 43 (.len (.t 42)), ⟨some 44, .new (.bsl 1 1 #[.int .i64 0] [(0, .t 43)]), none⟩, ⟨some 45, .call 39 [.t 40, .t 44], none⟩]
def u19_18 : IC := .seq (.reg u19_18r) u19_19
def u19_9 : IC := .seq u19_10 u19_18
def u19_8r : List IOper := [oP 19 (.mv (.t 5)), oP 20 (.fad 0 (.t 1)), oP 21 (.ld 1 false (.t 20)), oP 22 (.len (.t 21)), ⟨some 23, .new (.bsl 1 1 #[.int .i64 0] [(0, .t 22)]), none⟩, ⟨some 24, .call 39 [.t 19, .t 23], none⟩]
def u19_8 : IC := .seq (.reg u19_8r) u19_9
def u19_7r : List IOper := [oP 17 (.bld #[.slice none 0 0] [(0, 1)] []), ⟨some 18, .new (.box (.t 17)), none⟩, oP 5 (.mv (.t 18))]
def u19_7 : IC := .seq (.reg u19_7r) u19_8
def u19_2 : IC := .seq u19_3 u19_7
def u19_1r : List IOper := [⟨some 1, .new (.box (.t 0)), none⟩, oP 2 (.mv (.k (.string ⟨#[]⟩))), oP 3 (.mv (.k (.int .i64 0)))]
def u19_1 : IC := .seq (.reg u19_1r) u19_2
def u19 : IFn := ⟨125, u19_1, [.tmp 2, .tmp 3]⟩
end
theorem isU19 : IsFn Tryd.prog 19 u19 := by unfold IsFn; kernel_rfl
instance i19_6 : WR Tryd.prog 125 u19_6 (rS u19_6r .ret [4]) := ⟨mkS⟩
instance i19_5 : WR Tryd.prog 125 u19_5 (rCE (.t 15) u19_6 .skip [1, 4, 15]) := ⟨mkCE⟩
instance i19_4 : WR Tryd.prog 125 u19_4 (rS u19_4r u19_5 [1, 4]) := ⟨mkS⟩
instance i19_3 : WR Tryd.prog 125 u19_3 (rS u19_3r u19_4 [1]) := ⟨mkS⟩
instance i19_16 : WR Tryd.prog 125 u19_16 (rE u19_16r [1, 5, 7, 26, 27, 28]) := ⟨mkE⟩
instance i19_15 : WR Tryd.prog 125 u19_15 (rS u19_15r u19_16 [1, 5, 26, 27, 28]) := ⟨mkS⟩
instance i19_17 : WR Tryd.prog 125 u19_17 (rE u19_17r [1, 5, 26, 27, 28]) := ⟨mkE⟩
instance i19_14 : WR Tryd.prog 125 u19_14 (rB 1 u19_15 u19_17 [1, 5, 26, 27, 28]) := ⟨mkB⟩
instance i19_13 : WR Tryd.prog 125 u19_13 (rC (.t 29) .skip (.exit 0) u19_14 [1, 5, 26, 27, 28, 29]) := ⟨mkC⟩
instance i19_12 : WR Tryd.prog 125 u19_12 (rS u19_12r u19_13 [1, 5, 26, 27, 28]) := ⟨mkS⟩
instance i19_11 : WR Tryd.prog 125 u19_11 (rBE 0 (.loop u19_12) [1, 5, 26, 27, 28]) := ⟨mkBE⟩
instance i19_10 : WR Tryd.prog 125 u19_10 (rS u19_10r u19_11 [1, 5]) := ⟨mkS⟩
instance i19_27 : WR Tryd.prog 125 u19_27 (rE u19_27r [1, 5, 9, 47, 48, 49]) := ⟨mkE⟩
instance i19_26 : WR Tryd.prog 125 u19_26 (rS u19_26r u19_27 [1, 5, 9, 47, 48, 49]) := ⟨mkS⟩
instance i19_25 : WR Tryd.prog 125 u19_25 (rS u19_25r u19_26 [1, 5, 47, 48, 49]) := ⟨mkS⟩
instance i19_28 : WR Tryd.prog 125 u19_28 (rE u19_28r [1, 5, 47, 48, 49]) := ⟨mkE⟩
instance i19_24 : WR Tryd.prog 125 u19_24 (rB 3 u19_25 u19_28 [1, 5, 47, 48, 49]) := ⟨mkB⟩
instance i19_23 : WR Tryd.prog 125 u19_23 (rC (.t 50) .skip (.exit 2) u19_24 [1, 5, 47, 48, 49, 50]) := ⟨mkC⟩
instance i19_22 : WR Tryd.prog 125 u19_22 (rS u19_22r u19_23 [1, 5, 47, 48, 49]) := ⟨mkS⟩
instance i19_21 : WR Tryd.prog 125 u19_21 (rBE 2 (.loop u19_22) [1, 5, 47, 48, 49]) := ⟨mkBE⟩
instance i19_20 : WR Tryd.prog 125 u19_20 (rS u19_20r u19_21 [1, 5]) := ⟨mkS⟩
instance i19_37 : WR Tryd.prog 125 u19_37 (rE u19_37r [1, 5, 11, 75, 76, 77]) := ⟨mkE⟩
instance i19_36 : WR Tryd.prog 125 u19_36 (rS u19_36r u19_37 [1, 5, 75, 76, 77]) := ⟨mkS⟩
instance i19_38 : WR Tryd.prog 125 u19_38 (rE u19_38r [1, 5, 75, 76, 77]) := ⟨mkE⟩
instance i19_35 : WR Tryd.prog 125 u19_35 (rB 5 u19_36 u19_38 [1, 5, 75, 76, 77]) := ⟨mkB⟩
instance i19_34 : WR Tryd.prog 125 u19_34 (rC (.t 78) .skip (.exit 4) u19_35 [1, 5, 75, 76, 77, 78]) := ⟨mkC⟩
instance i19_33 : WR Tryd.prog 125 u19_33 (rS u19_33r u19_34 [1, 5, 75, 76, 77]) := ⟨mkS⟩
instance i19_32 : WR Tryd.prog 125 u19_32 (rBE 4 (.loop u19_33) [1, 5, 75, 76, 77]) := ⟨mkBE⟩
instance i19_31 : WR Tryd.prog 125 u19_31 (rS u19_31r u19_32 [1, 5]) := ⟨mkS⟩
instance i19_44 : WR Tryd.prog 125 u19_44 (rS u19_44r .ret [5]) := ⟨mkS⟩
instance i19_43 : WR Tryd.prog 125 u19_43 (rS u19_43r u19_44 [1, 5]) := ⟨mkS⟩
instance i19_42 : WR Tryd.prog 125 u19_42 (rS u19_42r u19_43 [1, 5]) := ⟨mkS⟩
instance i19_41 : WR Tryd.prog 125 u19_41 (rS u19_41r u19_42 [1, 5]) := ⟨mkS⟩
instance i19_40 : WR Tryd.prog 125 u19_40 (rS u19_40r u19_41 [1, 5]) := ⟨mkS⟩
instance i19_39 : WR Tryd.prog 125 u19_39 (rS u19_39r u19_40 [1, 5]) := ⟨mkS⟩
instance i19_30 : WR Tryd.prog 125 u19_30 (rQ u19_31 u19_39 [1, 5]) := ⟨mkQ⟩
instance i19_29 : WR Tryd.prog 125 u19_29 (rS u19_29r u19_30 [1, 5]) := ⟨mkS⟩
instance i19_19 : WR Tryd.prog 125 u19_19 (rQ u19_20 u19_29 [1, 5]) := ⟨mkQ⟩
instance i19_18 : WR Tryd.prog 125 u19_18 (rS u19_18r u19_19 [1, 5]) := ⟨mkS⟩
instance i19_9 : WR Tryd.prog 125 u19_9 (rQ u19_10 u19_18 [1, 5]) := ⟨mkQ⟩
instance i19_8 : WR Tryd.prog 125 u19_8 (rS u19_8r u19_9 [1, 5]) := ⟨mkS⟩
instance i19_7 : WR Tryd.prog 125 u19_7 (rS u19_7r u19_8 [1]) := ⟨mkS⟩
instance i19_2 : WR Tryd.prog 125 u19_2 (rQ u19_3 u19_7 [1]) := ⟨mkQ⟩
instance i19_1 : WR Tryd.prog 125 u19_1 (rS u19_1r u19_2 [0]) := ⟨mkS⟩
attribute [go_sem] u19_6r u19_4r u19_3r u19_16r u19_15r u19_17r u19_12r u19_10r u19_27r u19_26r u19_25r u19_28r u19_22r u19_20r u19_37r u19_36r u19_38r u19_33r u19_31r u19_44r u19_43r u19_42r u19_41r u19_40r u19_39r u19_29r u19_18r u19_8r u19_7r u19_1r
theorem c_put (c : Prg) (bs : List UInt8) (o : Option Nat) (cc : Nat) (l : List Int) (h2 : 2 ≤ cc) (hn : o = none → bs = []) (hs : ∀ i, o = some i → 2 ≤ i ∧ i < cc) (hl : ∀ n ∈ l, Sm n) (hl1 : l.length ≤ 100000) (hl2 : bs.length ≤ 100000000) :
    AC Tryd.prog 39 [.ptr 1 0, ints l] (EH c o bs) cc (fun v H' c' => ∃ o', H' = EH c o' (bs ++ l.flatMap numI) ∧ (o' = none → bs ++ l.flatMap numI = []) ∧ (∀ i, o' = some i → 2 ≤ i ∧ i < c')) := by
  refine AC.body mixedU isU39 (Nat.le_of_ble_eq_true rfl) fun hfr => ?_
  show IW Tryd.prog 51 u39_1 ⟨argT _, _, _⟩ (rt [] _)
  repeat' ((first | with_reducible refine wr ?_ | ((with_reducible refine wb2 ?_ ?_) <;> (intro hb; try simp only [hb])) | fail) <;> try simp only [go_sem, seval])
  refine i_loop (fun q : Nat × Option Nat => [(0, .ptr 1 0), (7, ints l), (8, I64 l.length), (9, I64 q.1)]) (fun q => EH c q.2 (bs ++ (l.take q.1).flatMap numI)) (fun q cc => 2 ≤ cc ∧ q.1 ≤ l.length ∧ (q.2 = none → bs ++ (l.take q.1).flatMap numI = []) ∧ ∀ i, q.2 = some i → 2 ≤ i ∧ i < cc) (fun q => l.length - q.1) (0, o)
    (by simp [tmLe, tm, Tm.upd]) (by simpa using Sub.refl _) ⟨h2, by simp, by simpa using hn, hs⟩ ?_
  clear h2 hn hs
  rintro ⟨k, o⟩ cc ⟨h2, hk, hn, hs⟩
  simp only at hk hn hs
  by_cases hlt : k < l.length
  · have hd : decide ((k : Int) < l.length) = true := by simpa using hlt
    have hg := List.getElem?_eq_getElem hlt
    have hw := w64 (n := (k : Int) + 1) (by omega) (by omega)
    have hx := hl _ (List.getElem_mem hlt)
    have hz := zig_lt hx.1 hx.2
    have q2 := flat_take numI 10 l (fun x hx => numI_len (hl x hx)) k
    have q3 := numI_len hx
    have hsgn : (decide (l[k] < 0) = true ∧ IntKind.u64.wrap (IntKind.i64.wrap (IntKind.i64.wrap (-2 * l[k]) - 1)) = (zig l[k] : Int)) ∨ (decide (l[k] < 0) = false ∧ IntKind.u64.wrap (IntKind.i64.wrap (2 * l[k])) = (zig l[k] : Int)) := by
      by_cases h0 : l[k] < 0
      · exact .inl ⟨by simpa using h0, zigP_neg h0 hx.1⟩
      · exact .inr ⟨by simpa using h0, zigP_pos (by omega) hx.2⟩
    rcases hsgn with ⟨hd0, hzz⟩ | ⟨hd0, hzz⟩
    all_goals
      repeat' ((first | with_reducible refine wr ?_ | ((with_reducible refine wb2 ?_ ?_) <;> (intro hb; try simp only [hb])) | fail) <;> try simp only [go_sem, seval, hd, hg, hw, hd0, hzz])
    all_goals
      refine i_loop (fun q : Nat × List UInt8 × Option Nat => [(0, .ptr 1 0), (6, .int .u64 (q.1 : Int)), (7, ints l), (8, I64 l.length), (9, I64 k)]) (fun q => EH c q.2.2 q.2.1)
        (fun q cc => 2 ≤ cc ∧ q.1 < 18446744073709551616 ∧ (q.2.2 = none → q.2.1 = []) ∧ (∀ i, q.2.2 = some i → 2 ≤ i ∧ i < cc) ∧ q.2.1 ++ numB q.1 = bs ++ (l.take k).flatMap numI ++ numI l[k]) (fun q => q.1) (zig l[k], bs ++ (l.take k).flatMap numI, o) ⟨rfl, rfl, rfl, rfl, rfl, trivial⟩ (Sub.refl _) ⟨h2, hz, hn, hs, rfl⟩ ?_
      clear hd0 hzz h2 hn hs hz o cc
      rintro ⟨z, pre, o⟩ cc ⟨h2, hz, hn, hs, he⟩
      simp only at hz hn hs he
      have hlen : pre.length + (numB z).length ≤ 200000000 := by
        rw [← List.length_append, he]
        simp only [List.length_append]; omega
      by_cases hb : z < 128
      · have hd1 : decide ((z : Int) > 127) = false := by simp; omega
        rw [numB_lt hb] at he hlen
        have hlo := byte_lo hb
        have hfin : bs ++ (l.take (k + 1)).flatMap numI = pre ++ [UInt8.ofNat z] := by rw [flat_step numI hg, ← List.append_assoc, ← he]
        rcases o with _ | id
        · obtain rfl := hn rfl
          have ne0 : ¬ 0 = cc := by omega
          have ne1 : ¬ 0 = cc + 1 := by omega
          have ne2 : ¬ 1 = cc := by omega
          have ne3 : ¬ 1 = cc + 1 := by omega
          have ne4 : ¬ cc = 0 := by omega
          have ne5 : ¬ cc = 1 := by omega
          have ne6 : ¬ cc = cc + 1 := by omega
          have ne7 : ¬ cc + 1 = 0 := by omega
          have ne8 : ¬ cc + 1 = 1 := by omega
          have ne9 : ¬ cc + 1 = cc := by omega
          repeat' ((first | with_reducible refine wr ?_ | ((with_reducible refine wb2 ?_ ?_) <;> (intro hb; try simp only [hb])) | ((with_reducible refine k_eval (r_appn' (by decide) (by decide) (by decide)) ?_)) | fail) <;> try simp only [go_sem, seval, hd1, hlo, hw, EH, optH, ne0, ne1, ne2, ne3, ne4, ne5, ne6, ne7, ne8, ne9])
          exact ⟨(k + 1, some (cc + 1)), rfl, by simp only [hfin, EH, optH, todoV, bytesC_app, List.length_append, List.length_singleton]; (intro j b hj; simp only [Hp.upd, Hp.del, Sym.nil, baseH, optH, EH] at hj ⊢; (repeat' split at hj) <;> (repeat' split) <;> first | exact hj | (exfalso; omega) | cases hj), inv ⟨by omega, hlt, by simp, fun i hi => by cases hi; omega⟩, by simp only; omega⟩
        · obtain ⟨i1, i2⟩ := hs id rfl
          simp only [List.length_singleton] at hlen
          have ne0 : ¬ 0 = id := by omega
          have ne1 : ¬ 0 = cc := by omega
          have ne2 : ¬ 0 = cc + 1 := by omega
          have ne3 : ¬ 1 = id := by omega
          have ne4 : ¬ 1 = cc := by omega
          have ne5 : ¬ 1 = cc + 1 := by omega
          have ne6 : ¬ id = 0 := by omega
          have ne7 : ¬ id = 1 := by omega
          have ne8 : ¬ id = cc := by omega
          have ne9 : ¬ id = cc + 1 := by omega
          have ne10 : ¬ cc = 0 := by omega
          have ne11 : ¬ cc = 1 := by omega
          have ne12 : ¬ cc = id := by omega
          have ne13 : ¬ cc = cc + 1 := by omega
          have ne14 : ¬ cc + 1 = 0 := by omega
          have ne15 : ¬ cc + 1 = 1 := by omega
          have ne16 : ¬ cc + 1 = id := by omega
          have ne17 : ¬ cc + 1 = cc := by omega
          repeat' ((first | with_reducible refine wr ?_ | ((with_reducible refine wb2 ?_ ?_) <;> (intro hb; try simp only [hb])) | ((with_reducible refine k_eval (b_appx (bytesC_len1 _) (by omega) (by omega)) ?_)) | fail) <;> try simp only [go_sem, seval, hd1, hlo, hw, EH, optH, ne0, ne1, ne2, ne3, ne4, ne5, ne6, ne7, ne8, ne9, ne10, ne11, ne12, ne13, ne14, ne15, ne16, ne17])
          exact ⟨(k + 1, some (cc + 1)), rfl, by simp only [hfin, EH, optH, todoV, bytesC_app, List.length_append, List.length_singleton]; (intro j b hj; simp only [Hp.upd, Hp.del, Sym.nil, baseH, optH, EH] at hj ⊢; (repeat' split at hj) <;> (repeat' split) <;> first | exact hj | (exfalso; omega) | cases hj), inv ⟨by omega, hlt, by simp, fun i hi => by cases hi; omega⟩, by simp only; omega⟩
      have hd1 : decide ((z : Int) > 127) = true := by simp; omega
      rw [numB_ge hb] at he hlen
      have hhi := byte_hi' z
      have hq := quo128 hz
      rcases o with _ | id
      · obtain rfl := hn rfl
        have ne0 : ¬ 0 = cc := by omega
        have ne1 : ¬ 0 = cc + 1 := by omega
        have ne2 : ¬ 1 = cc := by omega
        have ne3 : ¬ 1 = cc + 1 := by omega
        have ne4 : ¬ cc = 0 := by omega
        have ne5 : ¬ cc = 1 := by omega
        have ne6 : ¬ cc = cc + 1 := by omega
        have ne7 : ¬ cc + 1 = 0 := by omega
        have ne8 : ¬ cc + 1 = 1 := by omega
        have ne9 : ¬ cc + 1 = cc := by omega
        repeat' ((first | with_reducible refine wr ?_ | ((with_reducible refine wb2 ?_ ?_) <;> (intro hb; try simp only [hb])) | ((with_reducible refine k_eval (r_appn' (by decide) (by decide) (by decide)) ?_)) | fail) <;> try simp only [go_sem, seval, hd1, hhi, hq, r_rem, r_quo, EH, optH, ne0, ne1, ne2, ne3, ne4, ne5, ne6, ne7, ne8, ne9])
        exact ⟨(z / 128, [] ++ [UInt8.ofNat (z % 128 + 128)], some (cc + 1)), rfl, by simp only [EH, optH, todoV, bytesC_app, List.length_append, List.length_singleton]; (intro j b hj; simp only [Hp.upd, Hp.del, Sym.nil, baseH, optH, EH] at hj ⊢; (repeat' split at hj) <;> (repeat' split) <;> first | exact hj | (exfalso; omega) | cases hj), inv ⟨by omega, by simp only; omega, by simp, fun i hi => by cases hi; omega, by simp only [List.append_assoc, List.singleton_append] at he ⊢; exact he⟩, by simp only; omega⟩
      · obtain ⟨i1, i2⟩ := hs id rfl
        simp only [List.length_cons] at hlen
        have ne0 : ¬ 0 = id := by omega
        have ne1 : ¬ 0 = cc := by omega
        have ne2 : ¬ 0 = cc + 1 := by omega
        have ne3 : ¬ 1 = id := by omega
        have ne4 : ¬ 1 = cc := by omega
        have ne5 : ¬ 1 = cc + 1 := by omega
        have ne6 : ¬ id = 0 := by omega
        have ne7 : ¬ id = 1 := by omega
        have ne8 : ¬ id = cc := by omega
        have ne9 : ¬ id = cc + 1 := by omega
        have ne10 : ¬ cc = 0 := by omega
        have ne11 : ¬ cc = 1 := by omega
        have ne12 : ¬ cc = id := by omega
        have ne13 : ¬ cc = cc + 1 := by omega
        have ne14 : ¬ cc + 1 = 0 := by omega
        have ne15 : ¬ cc + 1 = 1 := by omega
        have ne16 : ¬ cc + 1 = id := by omega
        have ne17 : ¬ cc + 1 = cc := by omega
        repeat' ((first | with_reducible refine wr ?_ | ((with_reducible refine wb2 ?_ ?_) <;> (intro hb; try simp only [hb])) | ((with_reducible refine k_eval (b_appx (bytesC_len1 _) (by omega) (by omega)) ?_)) | fail) <;> try simp only [go_sem, seval, hd1, hhi, hq, r_rem, r_quo, EH, optH, ne0, ne1, ne2, ne3, ne4, ne5, ne6, ne7, ne8, ne9, ne10, ne11, ne12, ne13, ne14, ne15, ne16, ne17])
        exact ⟨(z / 128, pre ++ [UInt8.ofNat (z % 128 + 128)], some (cc + 1)), rfl, by simp only [EH, optH, todoV, bytesC_app, List.length_append, List.length_singleton]; (intro j b hj; simp only [Hp.upd, Hp.del, Sym.nil, baseH, optH, EH] at hj ⊢; (repeat' split at hj) <;> (repeat' split) <;> first | exact hj | (exfalso; omega) | cases hj), inv ⟨by omega, by simp only; omega, by simp, fun i hi => by cases hi; omega, by simp only [List.append_assoc, List.singleton_append] at he ⊢; exact he⟩, by simp only; omega⟩
  have hd : decide ((k : Int) < l.length) = false := by simpa using hlt
  rw [List.take_of_length_le (by omega)] at hn
  repeat' ((first | with_reducible refine wr ?_ | ((with_reducible refine wb2 ?_ ?_) <;> (intro hb; try simp only [hb])) | fail) <;> try simp only [go_sem, seval, hd])
  rw [List.take_of_length_le (by omega)]
  exact ⟨_, _, GL.refl _ _, o, rfl, hn, hs⟩
end Go.Proofs.YtcallbfckjlagaaDoor
set_option maxHeartbeats 4000000
set_option maxRecDepth 100000
set_option linter.unusedSimpArgs false
set_option linter.unusedVariables false
namespace Go.Proofs.YtcallbfckjlagaaDoor
open Go.Eng (IC IOper DReg IFn IsFn)
open Go.Sym Go.Pb
theorem c_put' (c : Prg) (bs : List UInt8) (o : Option Nat) (H : Hp) (cc x : Nat) (l : List Int) (hS : Sub (EH c o bs) H) (hx : H x = some ⟨1, true, l.map I64⟩) (h0 : 2 ≤ x) (hox : o ≠ some x) (hn : o = none → bs = []) (hs : ∀ i, o = some i → 2 ≤ i ∧ i < cc) (hcc : 2 ≤ cc) (hl : ∀ n ∈ l, Sm n) (hl1 : l.length ≤ 100000) (hl2 : bs.length ≤ 100000000) :
    AC Tryd.prog 39 [.ptr 1 0, .slc x 0 l.length] H cc (fun v H' c' => ∃ o', H' = EH c o' (bs ++ l.flatMap numI) ∧ (o' = none → bs ++ l.flatMap numI = []) ∧ (∀ i, o' = some i → 2 ≤ i ∧ i < c')) :=
  AC.ghost (g_put hS hx h0 hox) (c_put c bs o cc l hcc hn hs hl hl1 hl2)
theorem c_Encode (c : Prg) (hs : ∀ s ∈ c.strings, s.length ≤ 140737488355328) (n1 : c.instrs.length ≤ 9223372036854775807) : PC Tryd.prog 19 [c.v] (.tup [.str (encV c), I64 (validM c)]) := by
  by_cases h0 : validM c = 0
  case neg =>
    have hz : (validM c != 0) = true := by simpa using h0
    refine PC.of mixedU isU19 (Nat.le_of_ble_eq_true rfl) (by simp [DV.nlL, DV.nl, nlL_ints, nlL_strs, nlL_instrs, nlL_entries, nlL_stp]) (by simp [DV.nlL, DV.nl, nlL_ints, nlL_strs, nlL_instrs, nlL_entries, nlL_stp]) ?_
    show IW Tryd.prog 125 u19_1 ⟨argT _, _, _⟩ (rt [.tmp 2, .tmp 3] _)
    repeat' ((first | with_reducible refine wr ?_ | ((with_reducible refine wb2 ?_ ?_) <;> (intro hb; try simp only [hb])) | ((with_reducible refine AC.call ((c_valid c hs n1).at _ _) ?_); rintro _ _ _ ⟨rfl, rfl, rfl⟩ -) | fail) <;> try simp only [go_sem, seval, hz])
    refine pc_ret ?_
    simp [encV, h0]
  have hz : (validM c != 0) = false := by simp [h0]
  have B := Bnd.valid h0
  obtain ⟨d1, d2, d3, d4, d5, d6, d7, d8, d9⟩ := Lim.dims (valid_all h0).1
  refine PC.of mixedU isU19 (Nat.le_of_ble_eq_true rfl) (by simp [DV.nlL, DV.nl, nlL_ints, nlL_strs, nlL_instrs, nlL_entries, nlL_stp]) (by simp [DV.nlL, DV.nl, nlL_ints, nlL_strs, nlL_instrs, nlL_entries, nlL_stp]) ?_
  show IW Tryd.prog 125 u19_1 ⟨argT _, _, _⟩ (rt [.tmp 2, .tmp 3] _)
  repeat' ((first | with_reducible refine wr ?_ | ((with_reducible refine wb2 ?_ ?_) <;> (intro hb; try simp only [hb])) | ((with_reducible refine AC.call ((c_valid c hs n1).at _ _) ?_); rintro _ _ _ ⟨rfl, rfl, rfl⟩ -) | fail) <;> try simp only [go_sem, seval, hz, h0])
  have S1 : Sm (c.instrs.length : Int) := ⟨by omega, by omega⟩
  have S2 : Sm (c.strings.length : Int) := ⟨by omega, by omega⟩
  have S3 : Sm (c.entries.length : Int) := ⟨by omega, by omega⟩
  have S4 : Sm (c.prios.length : Int) := ⟨by omega, by omega⟩
  have S5 : Sm (c.vars.length : Int) := ⟨by omega, by omega⟩
  have hf6 : ∀ i ∈ c.instrs, (insB i).length ≤ 20 := fun i hi => by
    have a := numI_len (B.ins i hi).1
    have b := numI_len (B.ins i hi).2
    simp only [insB, List.length_append]; omega
  have hf7 : ∀ s ∈ c.strings, (strB s).length ≤ 42 := fun s hi => by
    have a := B.str s hi
    have b := numI_len (n := (s.length : Int)) ⟨by omega, by omega⟩
    simp only [strB, List.length_append]; omega
  have hf8 : ∀ e ∈ c.entries, (entB e).length ≤ 40 := fun e hi => by
    have a := numI_len (B.ent e hi).1
    have b := numI_len (B.ent e hi).2.1
    have d := numI_len (B.ent e hi).2.2.1
    have g := numI_len (B.ent e hi).2.2.2
    simp only [entB, List.length_append]; omega
  have L1 := numI_len S1
  have L2 := numI_len S2
  have L3 := numI_len S3
  have L4 := flat_len insB 20 c.instrs hf6
  have L5 := flat_len strB 42 c.strings hf7
  have L6 := flat_len entB 40 c.entries hf8
  refine AC.call (c_put' c [] none _ _ 2 [(c.instrs.length : Int)] ((Sub.refl _).upd _ (EH_n (by omega) (by simp))) h_same (by omega) (by simp) (fun _ => rfl) (by simp) (by omega) (by simpa using S1) (by simp) (by simp)) ?_
  rintro v H' c' ⟨o, rfl, hn, hs⟩ hcc
  have e : ([] ++ [(c.instrs.length : Int)].flatMap numI) = numI c.instrs.length := by simp
  rw [e] at hn ⊢
  simp only [go_sem, seval]
  repeat' ((first | with_reducible refine wr ?_ | ((with_reducible refine wb2 ?_ ?_) <;> (intro hb; try simp only [hb])) | fail) <;> try simp only [go_sem, seval, EH_0 hs])
  refine i_loop (fun q : Nat × Option Nat => [(1, .ptr 0 0), (5, .ptr 1 0), (26, inssV c.instrs), (27, I64 c.instrs.length), (28, I64 q.1)]) (fun q => EH c q.2 (numI c.instrs.length ++ (c.instrs.take q.1).flatMap insB)) (fun q cc => 2 ≤ cc ∧ q.1 ≤ c.instrs.length ∧ (q.2 = none → numI c.instrs.length ++ (c.instrs.take q.1).flatMap insB = []) ∧ ∀ i, q.2 = some i → 2 ≤ i ∧ i < cc) (fun q => c.instrs.length - q.1) (0, o)
    (by simp [tmLe, tm, Tm.upd]) (by simpa using Sub.refl _) ⟨by omega, by simp, by simpa using hn, hs⟩ ?_
  rintro ⟨k, o⟩ cc ⟨h2, hk, hn, hs⟩
  simp only at hk hn hs
  by_cases hlt : k < c.instrs.length
  · have hd : decide ((k : Int) < c.instrs.length) = true := by simpa using hlt
    have hg := List.getElem?_eq_getElem hlt
    have hw := w64 (n := (k : Int) + 1) (by omega) (by omega)
    have hx := B.ins _ (List.getElem_mem hlt)
    have q2 := flat_take insB 20 c.instrs hf6 k
    have ne0 : ¬ 0 = cc := by omega
    have ne1 : ¬ 0 = cc + 1 := by omega
    have ne2 : ¬ 1 = cc := by omega
    have ne3 : ¬ 1 = cc + 1 := by omega
    have ne4 : ¬ cc = 0 := by omega
    have ne5 : ¬ cc = 1 := by omega
    have ne6 : ¬ cc = cc + 1 := by omega
    have ne7 : ¬ cc + 1 = 0 := by omega
    have ne8 : ¬ cc + 1 = 1 := by omega
    have ne9 : ¬ cc + 1 = cc := by omega
    repeat' ((first | with_reducible refine wr ?_ | ((with_reducible refine wb2 ?_ ?_) <;> (intro hb; try simp only [hb])) | fail) <;> try simp only [go_sem, seval, EH_0 hs, hd, hg, hw, ne0, ne1, ne2, ne3, ne4, ne5, ne6, ne7, ne8, ne9])
    have hc0 : EH c o (numI c.instrs.length ++ (c.instrs.take k).flatMap insB) cc = none := EH_n (by omega) (fun e => absurd (hs _ e).2 (by omega))
    have hc1 : EH c o (numI c.instrs.length ++ (c.instrs.take k).flatMap insB) (cc + 1) = none := EH_n (by omega) (fun e => absurd (hs _ e).2 (by omega))
    rw [h_upd2]
    refine AC.call (c_put' c _ o _ _ (cc + 1) [c.instrs[k].op, c.instrs[k].A] (((Sub.refl _).upd _ hc0).upd _ hc1) h_same (by omega) (fun e => absurd (hs _ e).2 (by omega)) hn (fun i e => ⟨(hs i e).1, by have := (hs i e).2; omega⟩) (by omega) (by simpa using hx) (by simp) (by simp only [List.length_append]; omega)) ?_
    rintro v H' c' ⟨o, rfl, hn, hs⟩ hcc
    have e : numI c.instrs.length ++ (c.instrs.take k).flatMap insB ++ [c.instrs[k].op, c.instrs[k].A].flatMap numI = numI c.instrs.length ++ (c.instrs.take (k + 1)).flatMap insB := by rw [flat_step insB hg]; simp [insB, List.append_assoc]
    rw [e] at hn ⊢
    simp only [go_sem, seval]
    repeat' ((first | with_reducible refine wr ?_ | ((with_reducible refine wb2 ?_ ?_) <;> (intro hb; try simp only [hb])) | fail) <;> try simp only [go_sem, seval, hw])
    exact ⟨(k + 1, o), rfl, Sub.refl _, inv ⟨by omega, hlt, hn, hs⟩, by simp only; omega⟩
  have hd : decide ((k : Int) < c.instrs.length) = false := by simpa using hlt
  rw [List.take_of_length_le (by omega)] at hn
  repeat' ((first | with_reducible refine wr ?_ | ((with_reducible refine wb2 ?_ ?_) <;> (intro hb; try simp only [hb])) | fail) <;> try simp only [go_sem, seval, EH_0 hs, hd])
  rw [List.take_of_length_le (by omega)]
  clear hd hlt hk
  have hc0 : EH c o (numI c.instrs.length ++ c.instrs.flatMap insB) cc = none := EH_n (by omega) (fun e => absurd (hs _ e).2 (by omega))
  refine AC.call (c_put' c _ o _ _ cc [(c.strings.length : Int)] ((Sub.refl _).upd _ hc0) h_same (by omega) (fun e => absurd (hs _ e).2 (by omega)) hn (fun i e => ⟨(hs i e).1, by have := (hs i e).2; omega⟩) (by omega) (by simpa using S2) (by simp) (by simp only [List.length_append]; omega)) ?_
  rintro v H' c' ⟨o, rfl, hn, hs⟩ hcc
  obtain ⟨P, hP⟩ : ∃ P, P = numI c.instrs.length ++ c.instrs.flatMap insB ++ numI c.strings.length := ⟨_, rfl⟩
  have hPl : P.length ≤ 100000 := by rw [hP]; simp only [List.length_append]; omega
  have e : numI c.instrs.length ++ c.instrs.flatMap insB ++ [(c.strings.length : Int)].flatMap numI = P := by rw [hP]; simp
  rw [e] at hn ⊢
  simp only [go_sem, seval]
  repeat' ((first | with_reducible refine wr ?_ | ((with_reducible refine wb2 ?_ ?_) <;> (intro hb; try simp only [hb])) | fail) <;> try simp only [go_sem, seval, EH_0 hs])
  refine i_loop (fun q : Nat × Option Nat => [(1, .ptr 0 0), (5, .ptr 1 0), (47, strs c.strings), (48, I64 c.strings.length), (49, I64 q.1)]) (fun q => EH c q.2 (P ++ (c.strings.take q.1).flatMap strB)) (fun q cc => 2 ≤ cc ∧ q.1 ≤ c.strings.length ∧ (q.2 = none → P ++ (c.strings.take q.1).flatMap strB = []) ∧ ∀ i, q.2 = some i → 2 ≤ i ∧ i < cc) (fun q => c.strings.length - q.1) (0, o)
    (by simp [tmLe, tm, Tm.upd]) (by simpa using Sub.refl _) ⟨by omega, by simp, by simpa using hn, hs⟩ ?_
  rintro ⟨k, o⟩ cc ⟨h2, hk, hn, hs⟩
  simp only at hk hn hs
  by_cases hlt : k < c.strings.length
  · have hd : decide ((k : Int) < c.strings.length) = true := by simpa using hlt
    have hg := List.getElem?_eq_getElem hlt
    have hw := w64 (n := (k : Int) + 1) (by omega) (by omega)
    have hx := B.str _ (List.getElem_mem hlt)
    have q2 := flat_take strB 42 c.strings hf7 k
    have hc0 : EH c o (P ++ (c.strings.take k).flatMap strB) cc = none := EH_n (by omega) (fun e => absurd (hs _ e).2 (by omega))
    have ne0 : ¬ 0 = cc := by omega
    have ne1 : ¬ 0 = cc + 1 := by omega
    have ne2 : ¬ 1 = cc := by omega
    have ne3 : ¬ 1 = cc + 1 := by omega
    have ne4 : ¬ cc = 0 := by omega
    have ne5 : ¬ cc = 1 := by omega
    have ne6 : ¬ cc = cc + 1 := by omega
    have ne7 : ¬ cc + 1 = 0 := by omega
    have ne8 : ¬ cc + 1 = 1 := by omega
    have ne9 : ¬ cc + 1 = cc := by omega
    repeat' ((first | with_reducible refine wr ?_ | ((with_reducible refine wb2 ?_ ?_) <;> (intro hb; try simp only [hb])) | fail) <;> try simp only [go_sem, seval, EH_0 hs, hd, hg, hw, ne0, ne1, ne2, ne3, ne4, ne5, ne6, ne7, ne8, ne9])
    refine AC.call (c_put' c _ o _ _ cc [(c.strings[k].length : Int)] ((Sub.refl _).upd _ hc0) h_same (by omega) (fun e => absurd (hs _ e).2 (by omega)) hn (fun i e => ⟨(hs i e).1, by have := (hs i e).2; omega⟩) (by omega) (by simp; omega) (by simp) (by simp only [List.length_append]; omega)) ?_
    rintro v H' c' ⟨o, rfl, hn, hs⟩ hcc
    have e : P ++ (c.strings.take k).flatMap strB ++ [(c.strings[k].length : Int)].flatMap numI = P ++ (c.strings.take k).flatMap strB ++ numI c.strings[k].length := by simp
    rw [e] at hn ⊢
    have q3 := numI_len (n := (c.strings[k].length : Int)) ⟨by omega, by omega⟩
    rcases o with _ | id
    · exact absurd (hn rfl) (by have := numI_ne (c.strings[k].length : Int); simp [this])
    obtain ⟨i1, i2⟩ := hs id rfl
    have hlen : (P ++ (c.strings.take k).flatMap strB ++ numI c.strings[k].length).length ≤ 1000000 := by simp only [List.length_append]; omega
    have ne0 : ¬ 0 = id := by omega
    have ne1 : ¬ 0 = c' := by omega
    have ne2 : ¬ 0 = c' + 1 := by omega
    have ne3 : ¬ 1 = id := by omega
    have ne4 : ¬ 1 = c' := by omega
    have ne5 : ¬ 1 = c' + 1 := by omega
    have ne6 : ¬ id = 0 := by omega
    have ne7 : ¬ id = 1 := by omega
    have ne8 : ¬ id = c' := by omega
    have ne9 : ¬ id = c' + 1 := by omega
    have ne10 : ¬ c' = 0 := by omega
    have ne11 : ¬ c' = 1 := by omega
    have ne12 : ¬ c' = id := by omega
    have ne13 : ¬ c' = c' + 1 := by omega
    have ne14 : ¬ c' + 1 = 0 := by omega
    have ne15 : ¬ c' + 1 = 1 := by omega
    have ne16 : ¬ c' + 1 = id := by omega
    have ne17 : ¬ c' + 1 = c' := by omega
    simp only [go_sem, seval, EH, optH, ne0, ne1, ne2, ne3, ne4, ne5, ne6, ne7, ne8, ne9, ne10, ne11, ne12, ne13, ne14, ne15, ne16, ne17]
    repeat' ((first | with_reducible refine wr ?_ | ((with_reducible refine wb2 ?_ ?_) <;> (intro hb; try simp only [hb])) | ((with_reducible refine k_eval (b_appx (bytesC_len1 _) (by omega) (by omega)) ?_)) | fail) <;> try simp only [go_sem, seval, hw, EH, optH, ne0, ne1, ne2, ne3, ne4, ne5, ne6, ne7, ne8, ne9, ne10, ne11, ne12, ne13, ne14, ne15, ne16, ne17])
    have e2 : P ++ (c.strings.take (k + 1)).flatMap strB = P ++ (c.strings.take k).flatMap strB ++ numI c.strings[k].length ++ c.strings[k] := by rw [flat_step strB hg]; simp [strB, List.append_assoc]
    exact ⟨(k + 1, some c'), rfl, by simp only [e2, EH, optH, todoV, bytesC_app, List.length_append]; (intro j b hj; simp only [Hp.upd, Hp.del, Sym.nil, baseH, optH, EH] at hj ⊢; (repeat' split at hj) <;> (repeat' split) <;> first | exact hj | (exfalso; omega) | cases hj), inv ⟨by omega, hlt, by simp, fun i hi => by cases hi; omega⟩, by simp only; omega⟩
  have hd : decide ((k : Int) < c.strings.length) = false := by simpa using hlt
  rw [List.take_of_length_le (by omega)] at hn
  repeat' ((first | with_reducible refine wr ?_ | ((with_reducible refine wb2 ?_ ?_) <;> (intro hb; try simp only [hb])) | fail) <;> try simp only [go_sem, seval, EH_0 hs, hd])
  rw [List.take_of_length_le (by omega)]
  clear hd hlt hk
  have hc0 : EH c o (P ++ c.strings.flatMap strB) cc = none := EH_n (by omega) (fun e => absurd (hs _ e).2 (by omega))
  refine AC.call (c_put' c _ o _ _ cc [(c.entries.length : Int)] ((Sub.refl _).upd _ hc0) h_same (by omega) (fun e => absurd (hs _ e).2 (by omega)) hn (fun i e => ⟨(hs i e).1, by have := (hs i e).2; omega⟩) (by omega) (by simpa using S3) (by simp) (by simp only [List.length_append]; omega)) ?_
  rintro v H' c' ⟨o, rfl, hn, hs⟩ hcc
  obtain ⟨Q, hQ⟩ : ∃ Q, Q = P ++ c.strings.flatMap strB ++ numI c.entries.length := ⟨_, rfl⟩
  have hQl : Q.length ≤ 200000 := by rw [hQ]; simp only [List.length_append]; omega
  have e : P ++ c.strings.flatMap strB ++ [(c.entries.length : Int)].flatMap numI = Q := by rw [hQ]; simp
  rw [e] at hn ⊢
  simp only [go_sem, seval]
  repeat' ((first | with_reducible refine wr ?_ | ((with_reducible refine wb2 ?_ ?_) <;> (intro hb; try simp only [hb])) | fail) <;> try simp only [go_sem, seval, EH_0 hs])
  refine i_loop (fun q : Nat × Option Nat => [(1, .ptr 0 0), (5, .ptr 1 0), (75, entsV c.entries), (76, I64 c.entries.length), (77, I64 q.1)]) (fun q => EH c q.2 (Q ++ (c.entries.take q.1).flatMap entB)) (fun q cc => 2 ≤ cc ∧ q.1 ≤ c.entries.length ∧ (q.2 = none → Q ++ (c.entries.take q.1).flatMap entB = []) ∧ ∀ i, q.2 = some i → 2 ≤ i ∧ i < cc) (fun q => c.entries.length - q.1) (0, o)
    (by simp [tmLe, tm, Tm.upd]) (by simpa using Sub.refl _) ⟨by omega, by simp, by simpa using hn, hs⟩ ?_
  rintro ⟨k, o⟩ cc ⟨h2, hk, hn, hs⟩
  simp only at hk hn hs
  by_cases hlt : k < c.entries.length
  · have hd : decide ((k : Int) < c.entries.length) = true := by simpa using hlt
    have hg := List.getElem?_eq_getElem hlt
    have hw := w64 (n := (k : Int) + 1) (by omega) (by omega)
    have hx := B.ent _ (List.getElem_mem hlt)
    have q2 := flat_take entB 40 c.entries hf8 k
    have ne0 : ¬ 0 = cc := by omega
    have ne1 : ¬ 0 = cc + 1 := by omega
    have ne2 : ¬ 1 = cc := by omega
    have ne3 : ¬ 1 = cc + 1 := by omega
    have ne4 : ¬ cc = 0 := by omega
    have ne5 : ¬ cc = 1 := by omega
    have ne6 : ¬ cc = cc + 1 := by omega
    have ne7 : ¬ cc + 1 = 0 := by omega
    have ne8 : ¬ cc + 1 = 1 := by omega
    have ne9 : ¬ cc + 1 = cc := by omega
    repeat' ((first | with_reducible refine wr ?_ | ((with_reducible refine wb2 ?_ ?_) <;> (intro hb; try simp only [hb])) | fail) <;> try simp only [go_sem, seval, EH_0 hs, hd, hg, hw, ne0, ne1, ne2, ne3, ne4, ne5, ne6, ne7, ne8, ne9])
    have hc0 : EH c o (Q ++ (c.entries.take k).flatMap entB) cc = none := EH_n (by omega) (fun e => absurd (hs _ e).2 (by omega))
    have hc1 : EH c o (Q ++ (c.entries.take k).flatMap entB) (cc + 1) = none := EH_n (by omega) (fun e => absurd (hs _ e).2 (by omega))
    rw [h_upd2]
    refine AC.call (c_put' c _ o _ _ (cc + 1) [c.entries[k].mode, c.entries[k].trigger, c.entries[k].index, c.entries[k].pos] (((Sub.refl _).upd _ hc0).upd _ hc1) h_same (by omega) (fun e => absurd (hs _ e).2 (by omega)) hn (fun i e => ⟨(hs i e).1, by have := (hs i e).2; omega⟩) (by omega) (by simpa using hx) (by simp) (by simp only [List.length_append]; omega)) ?_
    rintro v H' c' ⟨o, rfl, hn, hs⟩ hcc
    have e : Q ++ (c.entries.take k).flatMap entB ++ [c.entries[k].mode, c.entries[k].trigger, c.entries[k].index, c.entries[k].pos].flatMap numI = Q ++ (c.entries.take (k + 1)).flatMap entB := by rw [flat_step entB hg]; simp [entB, List.append_assoc]
    rw [e] at hn ⊢
    simp only [go_sem, seval]
    repeat' ((first | with_reducible refine wr ?_ | ((with_reducible refine wb2 ?_ ?_) <;> (intro hb; try simp only [hb])) | fail) <;> try simp only [go_sem, seval, hw])
    exact ⟨(k + 1, o), rfl, Sub.refl _, inv ⟨by omega, hlt, hn, hs⟩, by simp only; omega⟩
  have hd : decide ((k : Int) < c.entries.length) = false := by simpa using hlt
  rw [List.take_of_length_le (by omega)] at hn
  repeat' ((first | with_reducible refine wr ?_ | ((with_reducible refine wb2 ?_ ?_) <;> (intro hb; try simp only [hb])) | fail) <;> try simp only [go_sem, seval, EH_0 hs, hd])
  rw [List.take_of_length_le (by omega)]
  clear hd hlt hk
  have T1 : ∀ n ∈ [(c.prios.length : Int)], Sm n := by simpa using S4
  have T3 : ∀ n ∈ [(c.vars.length : Int)], Sm n := by simpa using S5
  have T5 : ∀ n ∈ [c.timers, c.events], Sm n := by simpa using And.intro B.tim B.evt
  have hc0 : EH c o (Q ++ c.entries.flatMap entB) cc = none := EH_n (by omega) (fun e => absurd (hs _ e).2 (by omega))
  refine AC.call (c_put' c _ o _ _ cc [(c.prios.length : Int)] ((Sub.refl _).upd _ hc0) h_same (by omega) (fun e => absurd (hs _ e).2 (by omega)) hn (fun i e => ⟨(hs i e).1, by have := (hs i e).2; omega⟩) (by omega) (T1) (by simp) (by first | omega | (simp only [List.length_append] <;> omega))) ?_
  rintro v H' c1 ⟨o, rfl, hn, hs⟩ hcc1
  obtain ⟨R1, hR1⟩ : ∃ R, R = Q ++ c.entries.flatMap entB ++ [(c.prios.length : Int)].flatMap numI := ⟨_, rfl⟩
  have hR1l : R1.length ≤ 310000 := by rw [hR1, List.length_append]; have := flat_len numI 10 [(c.prios.length : Int)] (fun x hx => numI_len (T1 x hx)); (try simp only [List.length_append, List.length_cons, List.length_nil] at this); (try simp only [List.length_append]); omega
  rw [← hR1] at hn ⊢
  simp only [go_sem, seval]
  repeat' ((first | with_reducible refine wr ?_ | ((with_reducible refine wb2 ?_ ?_) <;> (intro hb; try simp only [hb])) | fail) <;> try simp only [go_sem, seval, EH_0 hs])
  refine AC.call (c_put c _ o _ c.prios (by omega) hn hs (B.pri) (by omega) (by first | omega | (simp only [List.length_append] <;> omega))) ?_
  rintro v H' c2 ⟨o, rfl, hn, hs⟩ hcc2
  obtain ⟨R2, hR2⟩ : ∃ R, R = R1 ++ c.prios.flatMap numI := ⟨_, rfl⟩
  have hR2l : R2.length ≤ 320000 := by rw [hR2, List.length_append]; have := flat_len numI 10 c.prios (fun x hx => numI_len (B.pri x hx)); (try simp only [List.length_append, List.length_cons, List.length_nil] at this); (try simp only [List.length_append]); omega
  rw [← hR2] at hn ⊢
  simp only [go_sem, seval]
  repeat' ((first | with_reducible refine wr ?_ | ((with_reducible refine wb2 ?_ ?_) <;> (intro hb; try simp only [hb])) | fail) <;> try simp only [go_sem, seval, EH_0 hs])
  have hc0 : EH c o (R2) c2 = none := EH_n (by omega) (fun e => absurd (hs _ e).2 (by omega))
  refine AC.call (c_put' c _ o _ _ c2 [(c.vars.length : Int)] ((Sub.refl _).upd _ hc0) h_same (by omega) (fun e => absurd (hs _ e).2 (by omega)) hn (fun i e => ⟨(hs i e).1, by have := (hs i e).2; omega⟩) (by omega) (T3) (by simp) (by first | omega | (simp only [List.length_append] <;> omega))) ?_
  rintro v H' c3 ⟨o, rfl, hn, hs⟩ hcc3
  obtain ⟨R3, hR3⟩ : ∃ R, R = R2 ++ [(c.vars.length : Int)].flatMap numI := ⟨_, rfl⟩
  have hR3l : R3.length ≤ 330000 := by rw [hR3, List.length_append]; have := flat_len numI 10 [(c.vars.length : Int)] (fun x hx => numI_len (T3 x hx)); (try simp only [List.length_append, List.length_cons, List.length_nil] at this); (try simp only [List.length_append]); omega
  rw [← hR3] at hn ⊢
  simp only [go_sem, seval]
  repeat' ((first | with_reducible refine wr ?_ | ((with_reducible refine wb2 ?_ ?_) <;> (intro hb; try simp only [hb])) | fail) <;> try simp only [go_sem, seval, EH_0 hs])
  refine AC.call (c_put c _ o _ c.vars (by omega) hn hs (B.var) (by omega) (by first | omega | (simp only [List.length_append] <;> omega))) ?_
  rintro v H' c4 ⟨o, rfl, hn, hs⟩ hcc4
  obtain ⟨R4, hR4⟩ : ∃ R, R = R3 ++ c.vars.flatMap numI := ⟨_, rfl⟩
  have hR4l : R4.length ≤ 340000 := by rw [hR4, List.length_append]; have := flat_len numI 10 c.vars (fun x hx => numI_len (B.var x hx)); (try simp only [List.length_append, List.length_cons, List.length_nil] at this); (try simp only [List.length_append]); omega
  rw [← hR4] at hn ⊢
  simp only [go_sem, seval]
  repeat' ((first | with_reducible refine wr ?_ | ((with_reducible refine wb2 ?_ ?_) <;> (intro hb; try simp only [hb])) | fail) <;> try simp only [go_sem, seval, EH_0 hs])
  have hc0 : EH c o (R4) c4 = none := EH_n (by omega) (fun e => absurd (hs _ e).2 (by omega))
  refine AC.call (c_put' c _ o _ _ c4 [c.timers, c.events] ((Sub.refl _).upd _ hc0) h_same (by omega) (fun e => absurd (hs _ e).2 (by omega)) hn (fun i e => ⟨(hs i e).1, by have := (hs i e).2; omega⟩) (by omega) (T5) (by simp) (by first | omega | (simp only [List.length_append] <;> omega))) ?_
  rintro v H' c5 ⟨o, rfl, hn, hs⟩ hcc5
  obtain ⟨R5, hR5⟩ : ∃ R, R = R4 ++ [c.timers, c.events].flatMap numI := ⟨_, rfl⟩
  have hR5l : R5.length ≤ 350000 := by rw [hR5, List.length_append]; have := flat_len numI 10 [c.timers, c.events] (fun x hx => numI_len (T5 x hx)); (try simp only [List.length_append, List.length_cons, List.length_nil] at this); (try simp only [List.length_append]); omega
  rw [← hR5] at hn ⊢
  rcases o with _ | id
  · exact absurd (hn rfl) (by rw [hR5]; have := numI_ne c.timers; simp [this])
  obtain ⟨i1, i2⟩ := hs id rfl
  have ne0 : ¬ 0 = id := by omega
  have ne1 : ¬ 1 = id := by omega
  have ne2 : ¬ id = 0 := by omega
  have ne3 : ¬ id = 1 := by omega
  simp only [go_sem, seval, EH, optH, ne0, ne1, ne2, ne3]
  repeat' ((first | with_reducible refine wr ?_ | ((with_reducible refine wb2 ?_ ?_) <;> (intro hb; try simp only [hb])) | ((with_reducible refine k_val (cv_own (l := R5) h_same rfl rfl) ?_)) | fail) <;> try simp only [go_sem, seval, EH, optH, ne0, ne1, ne2, ne3])
  refine pc_ret ?_
  rw [encV, if_pos h0, encM, hR5, hR4, hR3, hR2, hR1, hQ, hP]
  simp [numsB, List.append_assoc]
end Go.Proofs.YtcallbfckjlagaaDoor
set_option linter.unusedVariables false
set_option linter.unusedSimpArgs false
namespace Go.Pb
open Go.Sym
def digB (d : Nat) : UInt8 := UInt8.ofNat (48 + d)
def decB (n : Nat) : List UInt8 := if n < 10 then [digB n] else decB (n / 10) ++ [digB (n % 10)]
termination_by n
decreasing_by omega
theorem decB_lt {n : Nat} (h : n < 10) : decB n = [digB n] := by rw [decB, if_pos h]
theorem decB_ge {n : Nat} (h : ¬n < 10) : decB n = decB (n / 10) ++ [digB (n % 10)] := by rw [decB, if_neg h]
theorem decB_len : ∀ (k n : Nat), n < 10 ^ (k + 1) → (decB n).length ≤ k + 1
  | 0, n, h => by rw [decB_lt (by omega)]; simp
  | k + 1, n, h => by
    by_cases h0 : n < 10
    · rw [decB_lt h0]; simp
    · rw [decB_ge h0, List.length_append]
      have := decB_len k (n / 10) (by rw [Nat.pow_succ] at h; omega)
      simp only [List.length_singleton]; omega
def decI (n : Int) : List UInt8 := if n < 0 then 45 :: decB n.natAbs else decB n.natAbs
theorem decI_len {n : Int} (h1 : -9223372036854775808 ≤ n) (h2 : n ≤ 9223372036854775807) : (decI n).length ≤ 21 := by
  have := decB_len 19 n.natAbs (by omega)
  unfold decI; split
  · rw [List.length_cons]; omega
  · omega
def lineB (k : Nat) (i : Ins) : List UInt8 := decI k ++ [32] ++ decI i.op ++ [32] ++ decI i.A ++ [10]
def lstF : List Ins → Nat → List UInt8
  | [], _ => []
  | i :: r, k => lineB k i ++ lstF r (k + 1)
abbrev I6 (n : Int) : Prop := -9223372036854775808 ≤ n ∧ n ≤ 9223372036854775807
theorem lineB_len {k : Nat} {i : Ins} (hk : k ≤ 1000000) (h1 : I6 i.op) (h2 : I6 i.A) : (lineB k i).length ≤ 66 := by
  have a := decI_len (n := (k : Int)) (by omega) (by omega)
  have b := decI_len h1.1 h1.2
  have d := decI_len h2.1 h2.2
  simp only [lineB, List.length_append, List.length_singleton]; omega
theorem lstF_len : ∀ (l : List Ins) (k : Nat), k + l.length ≤ 1000000 → (∀ i ∈ l, I6 i.op ∧ I6 i.A) → (lstF l k).length ≤ 66 * l.length
  | [], _, _, _ => by simp [lstF]
  | i :: r, k, h, hb => by
    simp only [List.length_cons] at h
    have h1 := lstF_len r (k + 1) (by omega) (fun x hx => hb x (List.mem_cons_of_mem _ hx))
    have h2 := lineB_len (k := k) (by omega) (hb i List.mem_cons_self).1 (hb i List.mem_cons_self).2
    simp only [lstF, List.length_append, List.length_cons]; omega
end Go.Pb
set_option linter.unusedVariables false
set_option linter.unusedSimpArgs false
namespace Go.Pb
open Go.Sym
def nextM (l : List UInt8) (p : Nat) (n : Nat) : Nat × Nat := if l.length ≤ p then (0, p) else ((l.getD p 0).toNat % n, p + 1)
abbrev tapeB (l : List UInt8) (p : Nat) : Blk := ⟨0, true, [.lst (bytesC l), I64 (p : Int)]⟩
theorem getB {l : List UInt8} {p : Nat} (h : p < l.length) : (bytesC l)[p]? = some (DV.int .u8 ((l.getD p 0).toNat : Int)) := by
  simp [bytesC, List.getD, h]
theorem wb64 (b : UInt8) : IntKind.i64.wrap (b.toNat : Int) = (b.toNat : Int) := by
  have := b.toNat_lt
  exact w64 (by omega) (by omega)
theorem nat_tmod (a b : Nat) : (a : Int).tmod (b : Int) = ((a % b : Nat) : Int) := by simp [Int.tmod]
def pushT : List Int := [0, 1, 2, 3, -1, 7, 1000, 2147483647, -2147483647, 65536]
def valueM (l : List UInt8) : Nat → Nat → List Ins × Nat
  | d, p =>
    let (k0, p) := nextM l p 9
    let k := if d = 0 ∧ 5 < k0 then 0 else k0
    match k, d with
    | 1, _ => let (a, p) := nextM l p 3; ([⟨2, a⟩], p)
    | 2, _ => let (a, p) := nextM l p 64; ([⟨4, a⟩], p)
    | 3, _ => let (a, p) := nextM l p 2; ([⟨5, a⟩], p)
    | 4, _ => let (a, p) := nextM l p 2; ([⟨6, a⟩], p)
    | 5, _ => let (a, p) := nextM l p 2; ([⟨7 + a, 0⟩], p)
    | 6, d + 1 => let (v, p) := valueM l d p; let (a, p) := nextM l p 2; (v ++ [⟨9 + a, 0⟩], p)
    | 7, d + 1 => let (v, p) := valueM l d p; let (w, p) := valueM l d p; let (a, p) := nextM l p 13; (v ++ w ++ [⟨11, 12 + a⟩], p)
    | 8, d + 1 => let (v, p) := valueM l d p; let (w, p) := valueM l d p; let (a, p) := nextM l p 13; (v ++ w ++ [⟨11, 12 + a⟩], p)
    | _, _ => let (a, p) := nextM l p 10; ([⟨1, pushT.getD a 0⟩], p)
theorem nextM_le {l : List UInt8} {p n : Nat} (h : p ≤ l.length) : (nextM l p n).2 ≤ l.length := by
  unfold nextM; split <;> simp only <;> omega
theorem nextM_lt {l : List UInt8} {p n : Nat} (h : 1 ≤ n) : (nextM l p n).1 < n := by
  unfold nextM; split
  · exact h
  · exact Nat.mod_lt _ h
def insC (l : List Ins) : List DV := cellsL (l.map Ins.v)
theorem insC_app (a b : List Ins) : insC (a ++ b) = insC a ++ insC b := by simp [insC, cellsL_append]
theorem insC_one (i : Ins) : insC [i] = [I64 i.op, I64 i.A] := by simp [insC, cellsL, DV.cells]
theorem insC_len (l : List Ins) : (insC l).length = l.length * 2 := by
  unfold insC
  rw [cellsL_length (u := 2)]
  · simp
  · intro x hx; obtain ⟨y, -, rfl⟩ := List.mem_map.1 hx; rfl
theorem push_get {a : Nat} (h : a < 10) : [DV.int .i64 0, DV.int .i64 1, DV.int .i64 2, DV.int .i64 3, DV.int .i64 (-1), DV.int .i64 7, DV.int .i64 1000, DV.int .i64 2147483647, DV.int .i64 (-2147483647), DV.int .i64 65536][a]? = some (I64 (pushT.getD a 0)) := by
  match a, h with
  | 0, _ | 1, _ | 2, _ | 3, _ | 4, _ | 5, _ | 6, _ | 7, _ | 8, _ | 9, _ => rfl
theorem valueM_le (l : List UInt8) : ∀ (d p : Nat), p ≤ l.length → (valueM l d p).2 ≤ l.length
  | d, p, h => by
    have h1 := nextM_le (n := 9) h
    unfold valueM
    simp only
    generalize (if d = 0 ∧ 5 < (nextM l p 9).1 then 0 else (nextM l p 9).1) = k
    split
    · exact nextM_le h1
    · exact nextM_le h1
    · exact nextM_le h1
    · exact nextM_le h1
    · exact nextM_le h1
    · exact nextM_le (valueM_le l _ _ h1)
    · exact nextM_le (valueM_le l _ _ (valueM_le l _ _ h1))
    · exact nextM_le (valueM_le l _ _ (valueM_le l _ _ h1))
    · exact nextM_le h1
theorem insC_len2 (l : List Ins) : (insC l).length = l.length * 2 := insC_len l
theorem valueM_len (l : List UInt8) : ∀ (d p : Nat), (valueM l d p).1.length + 1 ≤ 2 ^ (d + 1)
  | d, p => by
    have h0 : 1 ≤ 2 ^ d := Nat.one_le_two_pow
    have h1 : 2 ^ (d + 1) = 2 * 2 ^ d := by rw [Nat.pow_succ]; omega
    unfold valueM
    simp only
    generalize (if d = 0 ∧ 5 < (nextM l p 9).1 then 0 else (nextM l p 9).1) = k
    split
    · simp only [List.length_singleton]; omega
    · simp only [List.length_singleton]; omega
    · simp only [List.length_singleton]; omega
    · simp only [List.length_singleton]; omega
    · simp only [List.length_singleton]; omega
    · have a := valueM_len l ‹_› (nextM l p 9).2
      simp only [List.length_append, List.length_singleton]; omega
    · rename_i d
      have a := valueM_len l d (nextM l p 9).2
      have b := valueM_len l d (valueM l d (nextM l p 9).2).2
      simp only [List.length_append, List.length_singleton]; omega
    · rename_i d
      have a := valueM_len l d (nextM l p 9).2
      have b := valueM_len l d (valueM l d (nextM l p 9).2).2
      simp only [List.length_append, List.length_singleton]; omega
    · simp only [List.length_singleton]; omega
theorem valueM_6 {l : List UInt8} {d p p1 : Nat} (e0 : nextM l p 9 = (6, p1)) : valueM l (d + 1) p = ((valueM l d p1).1 ++ [⟨9 + ((nextM l (valueM l d p1).2 2).1 : Int), 0⟩], (nextM l (valueM l d p1).2 2).2) := by
  conv => lhs; unfold valueM
  rw [e0]; rfl
theorem valueM_7 {l : List UInt8} {d p p1 : Nat} (e0 : nextM l p 9 = (7, p1)) : valueM l (d + 1) p = ((valueM l d p1).1 ++ (valueM l d (valueM l d p1).2).1 ++ [⟨11, 12 + ((nextM l (valueM l d (valueM l d p1).2).2 13).1 : Int)⟩], (nextM l (valueM l d (valueM l d p1).2).2 13).2) := by
  conv => lhs; unfold valueM
  rw [e0]; rfl
theorem valueM_8 {l : List UInt8} {d p p1 : Nat} (e0 : nextM l p 9 = (8, p1)) : valueM l (d + 1) p = ((valueM l d p1).1 ++ (valueM l d (valueM l d p1).2).1 ++ [⟨11, 12 + ((nextM l (valueM l d (valueM l d p1).2).2 13).1 : Int)⟩], (nextM l (valueM l d (valueM l d p1).2).2 13).2) := by
  conv => lhs; unfold valueM
  rw [e0]; rfl
end Go.Pb
set_option maxHeartbeats 4000000
set_option maxRecDepth 100000
set_option linter.unusedSimpArgs false
set_option linter.unusedVariables false
namespace Go.Proofs.YtcallbfckjlagaaDoor
open Go.Eng (IC IOper DReg IFn IsFn)
open Go.Sym Go.Pb
noncomputable section
def u27_5r : List IOper := [oP 4 (.mv (.k (.int .i64 0)))]
def u27_5 : IC := .seq (.reg u27_5r) .ret
def u27_4 : IC := .cond (.t 14) u27_5 .skip
def u27_3r : DReg := ⟨[oP 5 (.mv (.t 0)), oP 6 (.nck (.t 5)), oP 7 (.fad 1 (.t 6)), oP 8 (.ld 1 false (.t 7)), oP 9 (.mv (.t 0)), oP 10 (.nck (.t 9)), oP 11 (.fad 0 (.t 10)), oP 12 (.ld 1 false (.t 11)), oP 13 (.len (.t 12)), oP 14 (.bin .geq (.t 8) (.t 13))], [[], [0], [1, 0], [2, 1, 0], [], [4], [5, 4], [6, 5, 4], [7, 6, 5, 4], [3, 8, 2, 1, 0, 7, 6, 5, 4]], [(0, none), (1, none), (2, none), (3, none), (4, none), (5, none), (6, none), (7, none), (8, none), (9, none)]⟩
def u27_3 : IC := .seq (.drw 10 u27_3r) u27_4
def u27_7r : DReg := ⟨[oP 22 (.mv (.t 0)), oP 23 (.nck (.t 22)), oP 24 (.fad 0 (.t 23)), oP 25 (.ld 1 false (.t 24)), oP 26 (.mv (.t 0)), oP 27 (.nck (.t 26)), oP 28 (.fad 1 (.t 27)), oP 29 (.ld 1 false (.t 28)), oP 30 (.bin .sub (.t 29) (.k (.int .i64 1))), oP 31 (.iad 1 (.t 25) (.t 30)), oP 32 (.ld 1 false (.t 31)), oP 33 (.cvi .i64 (.t 32)), oP 34 (.mv (.t 1)), oP 35 (.bin .rem (.t 33) (.t 34)), oP 4 (.mv (.t 35))], [[], [0], [1, 0], [2, 1, 0], [], [4], [5, 4], [6, 5, 4], [7, 6, 5, 4], [3, 8, 2, 1, 0, 7, 6, 5, 4], [9, 3, 8, 2, 1, 0, 7, 6, 5, 4], [10, 9, 3, 8, 2, 1, 0, 7, 6, 5, 4], [], [11, 12, 10, 9, 3, 8, 2, 1, 0, 7, 6, 5, 4], [13, 0, 1, 2, 3, 4, 5, 6, 7, 8, 9, 10, 11, 12]], [(0, none), (1, none), (2, none), (3, none), (4, none), (5, none), (6, none), (7, none), (8, none), (9, none), (10, none), (11, none), (12, none), (13, none), (14, some [])]⟩
def u27_7 : IC := .seq (.drw 15 u27_7r) .ret
def u27_6r : List IOper := [oP 15 (.mv (.t 0)), oP 16 (.nck (.t 15)), oP 17 (.fad 1 (.t 16)), oP 18 (.ld 1 false (.t 17)), oP 19 (.bin .add (.t 18) (.k (.int .i64 1))), oP 20 (.nck (.t 15)), oP 21 (.fad 1 (.t 20)), ⟨none, .eff (.st 1 (.t 21) (.t 19)), none⟩]
def u27_6 : IC := .seq (.reg u27_6r) u27_7
def u27_2 : IC := .seq u27_3 u27_6
def u27_1r : List IOper := [oP 4 (.mv (.k (.int .i64 0)))]
def u27_1 : IC := .seq (.reg u27_1r) u27_2
def u27 : IFn := ⟨36, u27_1, [.tmp 4]⟩
end
theorem isU27 : IsFn Tryd.prog 27 u27 := by unfold IsFn; kernel_rfl
instance i27_5 : WR Tryd.prog 36 u27_5 (rS u27_5r .ret []) := ⟨mkS⟩
instance i27_4 : WR Tryd.prog 36 u27_4 (rCE (.t 14) u27_5 .skip [0, 1, 14]) := ⟨mkCE⟩
instance i27_3 : WR Tryd.prog 36 u27_3 (rP 10 u27_3r u27_4 [0, 1]) := ⟨mkP rfl⟩
instance i27_7 : WR Tryd.prog 36 u27_7 (rP 15 u27_7r .ret [0, 1]) := ⟨mkP rfl⟩
instance i27_6 : WR Tryd.prog 36 u27_6 (rS u27_6r u27_7 [0, 1]) := ⟨mkS⟩
instance i27_2 : WR Tryd.prog 36 u27_2 (rQ u27_3 u27_6 [0, 1]) := ⟨mkQ⟩
instance i27_1 : WR Tryd.prog 36 u27_1 (rS u27_1r u27_2 [0, 1]) := ⟨mkS⟩
attribute [go_sem] u27_5r u27_3r u27_7r u27_6r u27_1r
theorem c_next (l : List UInt8) (hl : l.length ≤ 100000) (p : Nat) (hp : p ≤ l.length) (n : Nat) (h0 : 1 ≤ n) (hn : n ≤ 100000) (H : Hp) (cc t : Nat) (ht : H t = some (tapeB l p)) (htc : t < cc) :
    AC Tryd.prog 27 [.ptr t 0, I64 n] H cc (fun v H' c' => v = I64 ((nextM l p n).1 : Int) ∧ H' = H.upd t (tapeB l (nextM l p n).2)) := by
  refine AC.body mixedU isU27 (Nat.le_of_ble_eq_true rfl) fun hfr => ?_
  show IW Tryd.prog 36 u27_1 ⟨argT _, _, _⟩ (rt [.tmp 4] _)
  by_cases hlt : p < l.length
  · have hd : decide ((p : Int) ≥ l.length) = false := by simp; omega
    have hg := getB hlt
    have hw := w64 (n := (p : Int) + 1) (by omega) (by omega)
    have hw1 : ((p : Int) + 1 - 1) = (p : Int) := by omega
    have hw2 := w64 (n := (p : Int)) (by omega) (by omega)
    have hb := wb64 (l.getD p 0)
    have hm := nat_tmod (l.getD p 0).toNat n
    have hnz : ¬(n : Int) = 0 := by omega
    have hlen := bytesC_len l
    repeat' ((first | with_reducible refine wr ?_ | ((with_reducible refine wb2 ?_ ?_) <;> (intro hb; try simp only [hb])) | fail) <;> try simp only [go_sem, seval, ht, hd, hg, hw, hw1, hw2, hb, hm, hnz, r_rem, hlen])
    have e : nextM l p n = ((l.getD p 0).toNat % n, p + 1) := by rw [nextM, if_neg (by omega)]
    rw [e]
    exact ⟨_, _, GL.refl _ _, rfl, rfl⟩
  · have hd : decide ((p : Int) ≥ l.length) = true := by simp; omega
    have hlen := bytesC_len l
    repeat' ((first | with_reducible refine wr ?_ | ((with_reducible refine wb2 ?_ ?_) <;> (intro hb; try simp only [hb])) | fail) <;> try simp only [go_sem, seval, ht, hd, hlen])
    have e : nextM l p n = (0, p) := by rw [nextM, if_pos (by omega)]
    rw [e]
    refine ⟨_, _, GL.refl _ _, rfl, ?_⟩
    funext j
    by_cases ej : j = t
    · subst ej; rw [h_same, ht]
    · rw [h_ne ej]
end Go.Proofs.YtcallbfckjlagaaDoor
set_option linter.unusedVariables false
set_option linter.unusedSimpArgs false
namespace Go.Pb
open Go.Sym
theorem and127 (b : UInt8) : bits .and .u8 (b.toNat : Int) 127 = ((b.toNat % 128 : Nat) : Int) := by
  have key : ∀ n : Nat, n < 256 → bits .and .u8 (n : Int) 127 = ((n % 128 : Nat) : Int) := by decide +kernel
  exact key _ (by have := b.toNat_lt; omega)
theorem or64 {k z x : Nat} (hz : z < 2 ^ (7 * k)) (hx : x < 128) (hk : k ≤ 7) : bits .or .u64 (z : Int) ((x * 2 ^ (7 * k) : Nat) : Int) = ((z + x * 2 ^ (7 * k) : Nat) : Int) := by
  have h1 : 2 ^ (7 * k) ≤ 2 ^ 49 := Nat.pow_le_pow_right (by omega) (by omega)
  have h2 : x * 2 ^ (7 * k) ≤ 127 * 2 ^ 49 := Nat.mul_le_mul (by omega) h1
  have e0 : (z ||| x * 2 ^ (7 * k)) = z + x * 2 ^ (7 * k) := by
    rw [Nat.or_comm, ← Nat.shiftLeft_eq, ← Nat.shiftLeft_add_eq_or_of_lt hz, Nat.add_comm]
  have e1 : BitVec.ofInt 64 (z : Int) = BitVec.ofNat 64 z := by simp
  have e2 : BitVec.ofInt 64 ((x * 2 ^ (7 * k) : Nat) : Int) = BitVec.ofNat 64 (x * 2 ^ (7 * k)) := BitVec.ofInt_natCast ..
  show IntKind.u64.wrap (((BitVec.ofInt 64 (z : Int)) ||| (BitVec.ofInt 64 ((x * 2 ^ (7 * k) : Nat) : Int))).toNat : Int) = _
  rw [e1, e2, BitVec.toNat_or, BitVec.toNat_ofNat, BitVec.toNat_ofNat, Nat.mod_eq_of_lt (by omega), Nat.mod_eq_of_lt (by omega), e0, wu64 (by omega) (by omega)]
theorem shl64 {k x : Nat} (hx : x < 128) (hk : k ≤ 7) : binR .shl (.int .u64 (x : Int)) (.int .i64 ((7 * k : Nat) : Int)) = some (.int .u64 ((x * 2 ^ (7 * k) : Nat) : Int)) := by
  have h1 : 2 ^ (7 * k) ≤ 2 ^ 49 := Nat.pow_le_pow_right (by omega) (by omega)
  have h2 : x * 2 ^ (7 * k) ≤ 127 * 2 ^ 49 := Nat.mul_le_mul (by omega) h1
  have e : min (((7 * k : Nat) : Int).toNat) IntKind.u64.bits = 7 * k := by
    show min (((7 * k : Nat) : Int).toNat) 64 = 7 * k
    omega
  rw [r_shl (by omega), e]
  have e2 : (x : Int) * 2 ^ (7 * k) = ((x * 2 ^ (7 * k) : Nat) : Int) := by simp
  rw [e2, wu64 (by omega) (by omega)]
theorem quo2 {z : Nat} (h : z < 18446744073709551616) : IntKind.u64.wrap ((z : Int).tdiv 2) = ((z / 2 : Nat) : Int) := by
  have h1 : ((z : Int).tdiv 2) = ((z / 2 : Nat) : Int) := by simp [Int.tdiv]
  rw [h1, wu64 (by omega) (by omega)]
theorem rem2 (z : Nat) : (z : Int).tmod 2 = ((z % 2 : Nat) : Int) := by simp [Int.tmod]
theorem sls_from {s : List UInt8} {k : Nat} (h : k ≤ s.length) : slsR s (some (.int .i64 (k : Int))) none = some (.str (s.drop k)) := by
  rw [r_sls (l := k) (h := s.length) rfl (by simp [boundOf]) (Nat.le_refl _) h, List.take_of_length_le (by simp)]
theorem sls_to {s : List UInt8} {k : Nat} (h : k ≤ s.length) : slsR s none (some (.int .i64 (k : Int))) = some (.str (s.take k)) := by
  rw [r_sls (l := 0) (h := k) (by simp [boundOf]) rfl h (Nat.zero_le _), List.drop_zero, Nat.sub_zero]
def varL : Nat → Nat → Nat → List UInt8 → Option (Nat × List UInt8)
  | 0, _, _, _ => none
  | _ + 1, _, _, [] => none
  | n + 1, k, z, b :: r => if b.toNat < 128 then some (z + b.toNat % 128 * 2 ^ (7 * k), r) else varL n (k + 1) (z + b.toNat % 128 * 2 ^ (7 * k)) r
def unzig (z : Nat) : Int := if z % 2 = 1 then -((z / 2 : Nat) : Int) - 1 else ((z / 2 : Nat) : Int)
abbrev RS := List UInt8 × Bool
def rdNum (s : RS) : Int × RS := match varL 8 0 0 s.1 with
  | some (z, r) => (unzig z, (r, s.2))
  | none => (0, ([], true))
def rdCnt (s : RS) : Nat × RS := if (rdNum s).1 < 0 ∨ (rdNum s).1 > (rdNum s).2.1.length then (0, ([], true)) else ((rdNum s).1.toNat, (rdNum s).2)
def rdMany {α : Type} (f : RS → α × RS) : Nat → RS → List α × RS
  | 0, s => ([], s)
  | n + 1, s => ((rdMany f n s).1 ++ [(f (rdMany f n s).2).1], (f (rdMany f n s).2).2)
def rdIns (s : RS) : Ins × RS := (⟨(rdNum s).1, (rdNum (rdNum s).2).1⟩, (rdNum (rdNum s).2).2)
def rdStr (s : RS) : List UInt8 × RS := ((rdCnt s).2.1.take (rdCnt s).1, ((rdCnt s).2.1.drop (rdCnt s).1, (rdCnt s).2.2))
def rdEnt (s : RS) : Ent × RS :=
  let a := rdNum s; let b := rdNum a.2; let c := rdNum b.2; let d := rdNum c.2
  (⟨a.1, b.1, c.1, d.1⟩, d.2)
def rdNums (s : RS) : List Int × RS := rdMany rdNum (rdCnt s).1 (rdCnt s).2
def rdPrg (s : RS) : Prg × RS :=
  let a := rdMany rdIns (rdCnt s).1 (rdCnt s).2
  let b := rdMany rdStr (rdCnt a.2).1 (rdCnt a.2).2
  let c := rdMany rdEnt (rdCnt b.2).1 (rdCnt b.2).2
  let d := rdNums c.2
  let e := rdNums d.2
  let f := rdNum e.2
  let g := rdNum f.2
  (⟨a.1, b.1, c.1, d.1, e.1, f.1, g.1⟩, g.2)
def Prg.none : Prg := ⟨[], [], [], [], [], 0, 0⟩
def decP (s : List UInt8) : Option Prg := if (rdPrg (s, false)).2.2 = true ∨ validM (rdPrg (s, false)).1 ≠ 0 ∨ encV (rdPrg (s, false)).1 ≠ s then Option.none else some (rdPrg (s, false)).1
def decV : Option Prg → DV
  | Option.none => .tup [Prg.none.v, I64 51]
  | some c => .tup [c.v, I64 0]
abbrev rdB (s : RS) : Blk := ⟨0, true, [.str s.1, .bool s.2]⟩
theorem varL_lt : ∀ (n k z : Nat) (s : List UInt8) (z' : Nat) (r : List UInt8), z < 2 ^ (7 * k) → varL n k z s = some (z', r) → z' < 2 ^ (7 * (k + n)) ∧ r.length < s.length
  | 0, _, _, _, _, _, _, h => by cases h
  | _ + 1, _, _, [], _, _, _, h => by cases h
  | n + 1, k, z, b :: s, z', r, hz, h => by
    have hb : b.toNat % 128 < 128 := Nat.mod_lt _ (by omega)
    have h1 : z + b.toNat % 128 * 2 ^ (7 * k) < 2 ^ (7 * (k + 1)) := by
      have e : 2 ^ (7 * (k + 1)) = 128 * 2 ^ (7 * k) := by rw [Nat.mul_add, Nat.pow_add]; omega
      have : b.toNat % 128 * 2 ^ (7 * k) ≤ 127 * 2 ^ (7 * k) := Nat.mul_le_mul_right _ (by omega)
      omega
    simp only [varL] at h
    split at h
    · cases h
      refine ⟨Nat.lt_of_lt_of_le h1 (Nat.pow_le_pow_right (by omega) (by omega)), by simp⟩
    · obtain ⟨a, b⟩ := varL_lt n (k + 1) _ s z' r h1 h
      refine ⟨by have e : k + 1 + n = k + (n + 1) := by omega
                 rwa [e] at a, by simp only [List.length_cons]; omega⟩
theorem varL_step {n k z : Nat} {s : List UInt8} {b : UInt8} (h : s[k]? = some b) : varL (n + 1) k z (s.drop k) = if b.toNat < 128 then some (z + b.toNat % 128 * 2 ^ (7 * k), s.drop (k + 1)) else varL n (k + 1) (z + b.toNat % 128 * 2 ^ (7 * k)) (s.drop (k + 1)) := by
  have hk : k < s.length := (List.getElem?_eq_some_iff.1 h).1
  rw [List.drop_eq_getElem_cons hk]
  rw [List.getElem?_eq_getElem hk] at h
  cases h
  rfl
theorem varL_end {n k z : Nat} {s : List UInt8} (h : ¬(k < s.length ∧ n ≠ 0)) : varL n k z (s.drop k) = none := by
  cases n with
  | zero => rfl
  | succ n =>
    rw [List.drop_eq_nil_of_le (by omega)]; rfl
theorem pow7 (k : Nat) : 2 ^ (7 * (k + 1)) = 128 * 2 ^ (7 * k) := by rw [Nat.mul_add, Nat.pow_add]; omega
theorem unzig_bd {z : Nat} (h : z < 2 ^ 56) : -36028797018963968 ≤ unzig z ∧ unzig z < 36028797018963968 := by
  unfold unzig; split <;> omega
theorem rdNum_bd (s : RS) : -36028797018963968 ≤ (rdNum s).1 ∧ (rdNum s).1 < 36028797018963968 := by
  unfold rdNum
  split
  · rename_i z r h
    exact unzig_bd (varL_lt 8 0 0 s.1 z r (by decide) h).1
  · simp
theorem rdNum_len (s : RS) : (rdNum s).2.1.length ≤ s.1.length := by
  unfold rdNum
  split
  · rename_i z r h
    have := (varL_lt 8 0 0 s.1 z r (by decide) h).2
    simp only; omega
  · simp
theorem rdCnt_len (s : RS) : (rdCnt s).2.1.length ≤ s.1.length ∧ (rdCnt s).1 ≤ (rdCnt s).2.1.length := by
  have h := rdNum_len s
  unfold rdCnt
  split
  · simp
  · rename_i h1; simp only; omega
theorem rdMany_len {α : Type} {f : RS → α × RS} (hf : ∀ s, (f s).2.1.length ≤ s.1.length) : ∀ (n : Nat) (s : RS), (rdMany f n s).2.1.length ≤ s.1.length ∧ (rdMany f n s).1.length = n
  | 0, s => ⟨Nat.le_refl _, rfl⟩
  | n + 1, s => by
    obtain ⟨a, b⟩ := rdMany_len hf n s
    have := hf (rdMany f n s).2
    simp only [rdMany, List.length_append, List.length_singleton]; omega
theorem rdMany_all {α : Type} {f : RS → α × RS} {p : α → Prop} {m : Nat} (hf : ∀ s : RS, s.1.length ≤ m → p (f s).1 ∧ (f s).2.1.length ≤ s.1.length) : ∀ (n : Nat) (s : RS), s.1.length ≤ m → (∀ x ∈ (rdMany f n s).1, p x) ∧ (rdMany f n s).2.1.length ≤ s.1.length
  | 0, s, _ => ⟨fun x hx => (by cases hx), Nat.le_refl _⟩
  | n + 1, s, h => by
    obtain ⟨a, b⟩ := rdMany_all hf n s h
    obtain ⟨c, d⟩ := hf (rdMany f n s).2 (by omega)
    refine ⟨fun x hx => ?_, by simp only [rdMany]; omega⟩
    simp only [rdMany, List.mem_append, List.mem_singleton] at hx
    rcases hx with hx | rfl
    · exact a x hx
    · exact c
theorem rdIns_len (s : RS) : (rdIns s).2.1.length ≤ s.1.length := by
  have a := rdNum_len s
  have b := rdNum_len (rdNum s).2
  simp only [rdIns]; omega
theorem rdStr_len (s : RS) : (rdStr s).2.1.length ≤ s.1.length := by
  have a := (rdCnt_len s).1
  simp only [rdStr, List.length_drop]; omega
theorem rdEnt_len (s : RS) : (rdEnt s).2.1.length ≤ s.1.length := by
  have a := rdNum_len s
  have b := rdNum_len (rdNum s).2
  have c := rdNum_len (rdNum (rdNum s).2).2
  have d := rdNum_len (rdNum (rdNum (rdNum s).2).2).2
  simp only [rdEnt]; omega
theorem rdNums_len (s : RS) : (rdNums s).2.1.length ≤ s.1.length := by
  have a := (rdCnt_len s).1
  have b := (rdMany_len rdNum_len (rdCnt s).1 (rdCnt s).2).1
  simp only [rdNums]; omega
theorem rdEnt_many (s : RS) : rdMany rdNum 4 s = ([(rdEnt s).1.mode, (rdEnt s).1.trigger, (rdEnt s).1.index, (rdEnt s).1.pos], (rdEnt s).2) := rfl
theorem insC_step (s : RS) (n : Nat) : insC (rdMany rdIns (n + 1) s).1 = insC (rdMany rdIns n s).1 ++ [I64 (rdNum (rdMany rdIns n s).2).1, I64 (rdNum (rdNum (rdMany rdIns n s).2).2).1] := by
  simp only [rdMany, insC_app, insC_one, rdIns]
theorem strC_len (l : List (List UInt8)) : (cellsL (l.map DV.str)).length = l.length * 1 := by
  rw [cellsL_length (u := 1)]
  · simp
  · intro x hx; obtain ⟨y, -, rfl⟩ := List.mem_map.1 hx; rfl
theorem strC_step (s : RS) (n : Nat) : cellsL ((rdMany rdStr (n + 1) s).1.map DV.str) = cellsL ((rdMany rdStr n s).1.map DV.str) ++ [.str (rdStr (rdMany rdStr n s).2).1] := by
  simp only [rdMany, List.map_append, cellsL_append]; rfl
theorem entC_len' (l : List Ent) : (cellsL (l.map Ent.v)).length = l.length * 4 := by
  rw [cellsL_length (u := 4)]
  · simp
  · intro x hx; obtain ⟨y, -, rfl⟩ := List.mem_map.1 hx; rfl
theorem entC_step (s : RS) (n : Nat) : cellsL ((rdMany rdEnt (n + 1) s).1.map Ent.v) = cellsL ((rdMany rdEnt n s).1.map Ent.v) ++ (rdEnt (rdMany rdEnt n s).2).1.v.cells := by
  simp only [rdMany, List.map_append, cellsL_append]; simp [cellsL]
theorem rdStr_all (n : Nat) (s : RS) (h : s.1.length ≤ 1000000) : ∀ x ∈ (rdMany rdStr n s).1, x.length ≤ 1000000 :=
  (rdMany_all (p := fun x => x.length ≤ 1000000) (m := 1000000) (fun s hs => ⟨by
    have := (rdCnt_len s).1
    simp only [rdStr, List.length_take]; omega, rdStr_len s⟩) n s h).1
theorem ins_unit (l : List Ins) : ∀ x ∈ l.map Ins.v, x.cells.length = 2 := by
  intro x hx; obtain ⟨y, -, rfl⟩ := List.mem_map.1 hx; rfl
theorem str_unit (l : List (List UInt8)) : ∀ x ∈ l.map DV.str, x.cells.length = 1 := by
  intro x hx; obtain ⟨y, -, rfl⟩ := List.mem_map.1 hx; rfl
theorem ent_unit (l : List Ent) : ∀ x ∈ l.map Ent.v, x.cells.length = 4 := by
  intro x hx; obtain ⟨y, -, rfl⟩ := List.mem_map.1 hx; rfl
theorem set_fill {l : List Int} {n k : Nat} {a : Int} (hl : l.length = k) (hk : k < n) : (l ++ List.replicate (n - k) 0).set k a = l ++ [a] ++ List.replicate (n - (k + 1)) 0 := by
  obtain ⟨m, hm⟩ : ∃ m, n - k = m + 1 := ⟨n - k - 1, by omega⟩
  have hm2 : n - (k + 1) = m := by omega
  rw [hm, hm2, List.set_append_right _ _ (by omega), hl, Nat.sub_self, List.replicate_succ, List.set_cons_zero]
  simp
def lnM : List Ins → Nat → List (List UInt8)
  | [], _ => []
  | i :: r, k => lineB k i :: lnM r (k + 1)
theorem lnM_flat : ∀ (l : List Ins) (k : Nat), (lnM l k).flatten = lstF l k
  | [], _ => rfl
  | i :: r, k => by simp only [lnM, lstF, List.flatten_cons]; rw [lnM_flat r (k + 1)]
theorem lnM_len : ∀ (l : List Ins) (k : Nat), (lnM l k).length = l.length
  | [], _ => rfl
  | i :: r, k => by simp only [lnM, List.length_cons]; rw [lnM_len r (k + 1)]
theorem lnM_app : ∀ (a b : List Ins) (n : Nat), lnM (a ++ b) n = lnM a n ++ lnM b (n + a.length)
  | [], b, n => by simp [lnM]
  | i :: a, b, n => by
    simp only [List.cons_append, lnM, List.length_cons]
    rw [lnM_app a b (n + 1)]
    congr 3; omega
theorem lnM_step {l : List Ins} {k : Nat} {i : Ins} (h : l[k]? = some i) : lnM (l.take (k + 1)) 0 = lnM (l.take k) 0 ++ [lineB k i] := by
  have hk : k < l.length := (List.getElem?_eq_some_iff.1 h).1
  rw [List.take_add_one, h, lnM_app]
  have : (l.take k).length = k := by simp; omega
  simp [lnM, this]
end Go.Pb
set_option linter.unusedVariables false
set_option linter.unusedSimpArgs false
namespace Go.Pb
open Go.Sym
abbrev Sn (n : Int) : Prop := -18014398509481984 ≤ n ∧ n ≤ 18014398509481983
structure Bndn (c : Prg) : Prop where
  ins : ∀ i ∈ c.instrs, Sn i.op ∧ Sn i.A
  ent : ∀ e ∈ c.entries, Sn e.mode ∧ Sn e.trigger ∧ Sn e.index ∧ Sn e.pos
  pri : ∀ n ∈ c.prios, Sn n
  var : ∀ n ∈ c.vars, Sn n
  tim : Sn c.timers
  evt : Sn c.events
  str : ∀ s ∈ c.strings, s.length ≤ 32
theorem sn_in {n lo hi : Int} (h : inM n lo hi = true) (h1 : -18014398509481984 ≤ lo) (h2 : hi ≤ 18014398509481983) : Sn n := by
  simp only [inM, Bool.and_eq_true, decide_eq_true_eq] at h
  exact ⟨by omega, by omega⟩
theorem kind_sn {c : Prg} (hL : limitsM c = true) {k a : Int} (hJ : k ≠ 7) (h : kindM c k a = true) : Sn a := by
  obtain ⟨d1, d2, d3, d4, d5, d6, d7, d8, d9⟩ := Lim.dims hL
  by_cases e0 : k = 0
  · subst e0
    have h' : decide (a = 0) = true := h
    simp only [decide_eq_true_eq] at h'; exact ⟨by omega, by omega⟩
  by_cases e1 : k = 1
  · subst e1; exact sn_in (lo := (-2147483647)) (hi := 2147483647) h (by omega) (by omega)
  by_cases e2 : k = 2
  · subst e2; exact sn_in (lo := 0) (hi := (c.vars.length - 1)) h (by omega) (by omega)
  by_cases e3 : k = 3
  · subst e3; exact sn_in (lo := 0) (hi := 63) h (by omega) (by omega)
  by_cases e9 : k = 9
  · subst e9; exact sn_in (lo := 0) (hi := 63) h (by omega) (by omega)
  by_cases e4 : k = 4
  · subst e4; exact sn_in (lo := 0) (hi := (c.prios.length - 1)) h (by omega) (by omega)
  by_cases e5 : k = 5
  · subst e5; exact sn_in (lo := 0) (hi := (c.timers - 1)) h (by omega) (by omega)
  by_cases e6 : k = 6
  · subst e6; exact sn_in (lo := 12) (hi := 24) h (by omega) (by omega)
  by_cases e8 : k = 8
  · subst e8; exact sn_in (lo := 0) (hi := 31) h (by omega) (by omega)
  by_cases e10 : k = 10
  · subst e10; exact sn_in (lo := 0) (hi := (c.events - 1)) h (by omega) (by omega)
  by_cases e11 : k = 11
  · subst e11; exact sn_in (lo := 0) (hi := (c.strings.length - 1)) h (by omega) (by omega)
  have : kindM c k a = false := by
    unfold kindM
    rw [if_neg e0, if_neg e1, if_neg e2, if_neg e3, if_neg e9, if_neg e4, if_neg e5, if_neg e6, if_neg hJ, if_neg e8, if_neg e10, if_neg e11]
  rw [this] at h; cases h
theorem Bndn.of {c : Prg} (hL : limitsM c = true) (hp : partsM c = true) (hj : jumpsM c = true) : Bndn c := by
  obtain ⟨d1, d2, d3, d4, d5, d6, d7, d8, d9⟩ := Lim.dims hL
  simp only [partsM, Bool.and_eq_true, List.all_eq_true] at hp
  obtain ⟨⟨⟨⟨p1, p2⟩, p3⟩, p4⟩, p5⟩ := hp
  refine ⟨fun i hi => ?_, fun e he => ?_, fun n hn => sn_in (p2 n hn) (by omega) (by omega), fun n hn => sn_in (p3 n hn) (by omega) (by omega), ⟨by omega, by omega⟩, ⟨by omega, by omega⟩, fun s hs => ?_⟩
  · have h := p5 i hi
    have h7 := jump_bd hj i hi
    have hk : (effM i.op).2.2 ≠ -1 := by
      intro e; rw [numberM, e] at h; simp [kindM] at h
    obtain ⟨o1, o2⟩ := op_bd hk
    refine ⟨⟨by omega, by omega⟩, ?_⟩
    by_cases hJ : (effM i.op).2.2 = 7
    · have hop : i.op = 12 ∨ i.op = 13 ∨ i.op = 14 := by
        have := isJ_kind i.op
        rw [hJ] at this
        simpa [isJ] using this
      have := h7 hop
      exact ⟨by omega, by omega⟩
    · exact kind_sn hL hJ h
  · have h := p4 e he
    have h7 := ent_bd hj e he
    simp only [entryM, Bool.and_eq_true] at h
    obtain ⟨h1, h2⟩ := h
    refine ⟨sn_in h1 (by omega) (by omega), ?_, ?_, ⟨by omega, by omega⟩⟩
    · repeat' split at h2
      all_goals first
        | cases h2; done
        | exact ⟨by omega, by omega⟩
    · repeat' split at h2
      all_goals first
        | exact sn_in h2 (by omega) (by omega)
        | (simp only [decide_eq_true_eq] at h2; exact ⟨by omega, by omega⟩)
        | cases h2
  · have h := p1 s hs
    simp only [printM, Bool.and_eq_true, decide_eq_true_eq] at h
    exact h.2
theorem Bndn.valid {c : Prg} (h0 : validM c = 0) : Bndn c :=
  let ⟨a, b, d, _⟩ := valid_all h0
  Bndn.of a b d
theorem varL_numB : ∀ (n k z acc : Nat) (r : List UInt8), z < 128 ^ n → n ≠ 0 → varL n k acc (numB z ++ r) = some (acc + z * 2 ^ (7 * k), r)
  | 0, _, _, _, _, _, h => absurd rfl h
  | n + 1, k, z, acc, r, hz, _ => by
    by_cases h : z < 128
    · rw [numB_lt h]
      have e : (UInt8.ofNat z).toNat = z := by rw [UInt8.toNat_ofNat']; omega
      simp only [List.cons_append, List.nil_append, varL, e, h, if_true]
      rw [Nat.mod_eq_of_lt h]
    · rw [numB_ge h]
      have e : (UInt8.ofNat (z % 128 + 128)).toNat = z % 128 + 128 := by rw [UInt8.toNat_ofNat']; omega
      have h1 : ¬ z % 128 + 128 < 128 := by omega
      have h2 : (z % 128 + 128) % 128 = z % 128 := by omega
      have hn : n ≠ 0 := by
        intro e0; subst e0; simp at hz; omega
      simp only [List.cons_append, varL, e, h1, if_false, h2]
      rw [varL_numB n (k + 1) (z / 128) _ r (by rw [Nat.pow_succ] at hz; omega) hn, pow7]
      congr 2
      have := Nat.div_add_mod z 128
      calc acc + z % 128 * 2 ^ (7 * k) + z / 128 * (128 * 2 ^ (7 * k)) = acc + (128 * (z / 128) + z % 128) * 2 ^ (7 * k) := by
            rw [Nat.add_mul, Nat.mul_comm 128 (z / 128), Nat.mul_assoc]; omega
        _ = _ := by rw [this]
theorem unzig_zig (n : Int) : unzig (zig n) = n := by
  unfold unzig zig
  split <;> split <;> omega
theorem rd_num {n : Int} (h : Sn n) (r : List UInt8) (b : Bool) : rdNum (numI n ++ r, b) = (n, (r, b)) := by
  have hz : zig n < 128 ^ 8 := by
    have e : (128 : Nat) ^ 8 = 72057594037927936 := by decide
    rw [e]; unfold zig
    obtain ⟨h1, h2⟩ := h
    split <;> omega
  unfold rdNum
  simp only [numI]
  rw [varL_numB 8 0 (zig n) 0 r hz (by omega)]
  simp only [Nat.zero_add, Nat.mul_zero, Nat.pow_zero, Nat.mul_one, unzig_zig]
theorem rd_cnt {n : Nat} (h : n ≤ 1000000) {r : List UInt8} (hr : n ≤ r.length) (b : Bool) : rdCnt (numI n ++ r, b) = (n, (r, b)) := by
  unfold rdCnt
  rw [rd_num (n := (n : Int)) ⟨by omega, by omega⟩]
  rw [if_neg (by simp only; omega)]
  simp
theorem rd_many {α : Type} {f : RS → α × RS} {g : α → List UInt8} : ∀ (l : List α) (r : List UInt8) (b : Bool), (∀ x ∈ l, ∀ r, f (g x ++ r, b) = (x, (r, b))) → rdMany f l.length (l.flatMap g ++ r, b) = (l, (r, b)) := by
  intro l
  -- from the front: what was read so far
  have key : ∀ (l2 l1 : List α) (s : RS) (r : List UInt8) (b : Bool), (∀ x ∈ l2, ∀ r, f (g x ++ r, b) = (x, (r, b))) → rdMany f l1.length s = (l1, (l2.flatMap g ++ r, b)) → rdMany f (l1.length + l2.length) s = (l1 ++ l2, (r, b)) := by
    intro l2
    induction l2 with
    | nil => intro l1 s r b _ h; simpa using h
    | cons x l2 ih =>
      intro l1 s r b hf h
      have h2 := ih (l1 ++ [x]) s r b (fun y hy => hf y (List.mem_cons_of_mem _ hy)) (by
        rw [List.length_append, List.length_singleton]
        simp only [rdMany]
        rw [h, List.flatMap_cons, List.append_assoc, hf x List.mem_cons_self])
      rw [List.length_append, List.length_singleton, List.append_assoc] at h2
      rw [List.length_cons, show l1.length + (l2.length + 1) = l1.length + 1 + l2.length by omega]
      exact h2
  intro r b hf
  have := key l [] (l.flatMap g ++ r, b) r b hf rfl
  simpa using this
theorem flat_ge {α : Type} {g : α → List UInt8} : ∀ (l : List α), (∀ x ∈ l, g x ≠ []) → l.length ≤ (l.flatMap g).length
  | [], _ => by simp
  | x :: l, h => by
    have h1 := flat_ge l (fun y hy => h y (List.mem_cons_of_mem _ hy))
    have h2 : (g x).length ≠ 0 := fun e => h x List.mem_cons_self (List.length_eq_zero_iff.1 e)
    rw [List.flatMap_cons, List.length_append, List.length_cons]; omega
theorem rd_nums {l : List Int} (h : ∀ n ∈ l, Sn n) (hl : l.length ≤ 1000000) (r : List UInt8) (b : Bool) : rdNums (numsB l ++ r, b) = (l, (r, b)) := by
  have h1 := flat_ge (g := numI) l (fun x _ => numI_ne x)
  unfold rdNums numsB
  rw [List.append_assoc, rd_cnt hl (by rw [List.length_append]; omega)]
  exact rd_many l r b (fun x hx r => rd_num (h x hx) r b)
theorem rd_ins {i : Ins} (h : Sn i.op ∧ Sn i.A) (r : List UInt8) (b : Bool) : rdIns (insB i ++ r, b) = (i, (r, b)) := by
  unfold rdIns insB
  rw [List.append_assoc, rd_num h.1]
  simp only
  rw [rd_num h.2]
theorem rd_str {s : List UInt8} (h : s.length ≤ 32) (r : List UInt8) (b : Bool) : rdStr (strB s ++ r, b) = (s, (r, b)) := by
  unfold rdStr strB
  rw [List.append_assoc, rd_cnt (n := s.length) (by omega) (by simp)]
  simp
theorem rd_ent {e : Ent} (h : Sn e.mode ∧ Sn e.trigger ∧ Sn e.index ∧ Sn e.pos) (r : List UInt8) (b : Bool) : rdEnt (entB e ++ r, b) = (e, (r, b)) := by
  obtain ⟨h1, h2, h3, h4⟩ := h
  unfold rdEnt entB
  simp only [List.append_assoc]
  rw [rd_num h1]
  simp only
  rw [rd_num h2]
  simp only
  rw [rd_num h3]
  simp only
  rw [rd_num h4]
theorem rd_prg {c : Prg} (h0 : validM c = 0) : rdPrg (encM c, false) = (c, ([], false)) := by
  obtain ⟨b1, b2, b3, b4, b5, b6, b7⟩ := Bndn.valid h0
  obtain ⟨hL, -⟩ := valid_all h0
  obtain ⟨d1, d2, d3, d4, d5, -⟩ := Lim.dims hL
  have f1 := flat_ge (g := insB) c.instrs (fun x _ e => numI_ne x.op (List.append_eq_nil_iff.1 e).1)
  have f2 := flat_ge (g := strB) c.strings (fun x _ e => numI_ne _ (List.append_eq_nil_iff.1 e).1)
  have f3 := flat_ge (g := entB) c.entries (fun x _ e => numI_ne x.mode (List.append_eq_nil_iff.1 (List.append_eq_nil_iff.1 (List.append_eq_nil_iff.1 e).1).1).1)
  unfold rdPrg encM
  simp only [List.append_assoc]
  rw [rd_cnt (by omega) (by rw [List.length_append]; omega)]
  simp only
  rw [rd_many c.instrs _ false (fun x hx r => rd_ins (b1 x hx) r false)]
  simp only
  rw [rd_cnt (by omega) (by rw [List.length_append]; omega)]
  simp only
  rw [rd_many c.strings _ false (fun x hx r => rd_str (b7 x hx) r false)]
  simp only
  rw [rd_cnt (by omega) (by rw [List.length_append]; omega)]
  simp only
  rw [rd_many c.entries _ false (fun x hx r => rd_ent (b2 x hx) r false)]
  simp only
  rw [rd_nums b3 (by omega)]
  simp only
  rw [rd_nums b4 (by omega)]
  simp only
  rw [rd_num b5]
  simp only
  have e := rd_num b6 [] false
  rw [List.append_nil] at e
  rw [e]
theorem dec_enc {c : Prg} (h0 : validM c = 0) : decP (encM c) = some c := by
  have e : encV c = encM c := by unfold encV; rw [if_pos h0]
  unfold decP
  rw [rd_prg h0, if_neg (by simp [h0, e])]
end Go.Pb
set_option linter.unusedVariables false
set_option linter.unusedSimpArgs false
namespace Go.Pb
open Go.Sym
def rnL : Nat → Nat → Nat → List UInt8 → Option Nat × List UInt8
  | 0, _, _, s => (none, s)
  | _ + 1, _, _, [] => (none, [])
  | n + 1, i, z, b :: r => if 128 ≤ b.toNat then rnL n (i + 1) (z + b.toNat % 128 * 2 ^ (7 * i)) r else if b.toNat = 0 ∧ i ≠ 0 then (none, r) else (some (z + b.toNat % 128 * 2 ^ (7 * i)), r)
def rrNum (s : RS) : Int × RS := if s.2 = true then (0, s) else match rnL 5 0 0 s.1 with
  | (some z, r) => (unzig z, (r, false))
  | (none, r) => (0, (r, true))
def rrCnt (most : Int) (s : RS) : Nat × RS := if (rrNum s).1 < 0 ∨ (rrNum s).1 > most then (0, ((rrNum s).2.1, true)) else if (rrNum s).2.2 = true then (0, (rrNum s).2) else ((rrNum s).1.toNat, (rrNum s).2)
def rrMany {α : Type} (f : RS → α × RS) : Nat → RS → List α × RS
  | 0, s => ([], s)
  | n + 1, s => if s.2 = true then ([], s) else ((f s).1 :: (rrMany f n (f s).2).1, (rrMany f n (f s).2).2)
def rrAll : Nat → RS → List Int × RS
  | 0, s => ([], s)
  | n + 1, s => ((rrNum s).1 :: (rrAll n (rrNum s).2).1, (rrAll n (rrNum s).2).2)
def rrNums (most : Int) (s : RS) : List Int × RS := rrAll (rrCnt most s).1 (rrCnt most s).2
def rrIns (s : RS) : Ins × RS := (⟨(rrNum s).1, (rrNum (rrNum s).2).1⟩, (rrNum (rrNum s).2).2)
def rrEnt (s : RS) : Ent × RS :=
  let a := rrNum s; let b := rrNum a.2; let c := rrNum b.2; let d := rrNum c.2
  (⟨a.1, b.1, c.1, d.1⟩, d.2)
def rrStrs : Nat → RS → List (List UInt8) × RS
  | 0, s => ([], s)
  | n + 1, s => if s.2 = true then ([], s) else
      if (rrCnt 32 s).1 > (rrCnt 32 s).2.1.length then ([], ((rrCnt 32 s).2.1, true)) else
      ((rrCnt 32 s).2.1.take (rrCnt 32 s).1 :: (rrStrs n ((rrCnt 32 s).2.1.drop (rrCnt 32 s).1, (rrCnt 32 s).2.2)).1, (rrStrs n ((rrCnt 32 s).2.1.drop (rrCnt 32 s).1, (rrCnt 32 s).2.2)).2)
def rrPrg (s : RS) : Prg × RS :=
  let a := rrMany rrIns (rrCnt 4000 s).1 (rrCnt 4000 s).2
  let b := rrStrs (rrCnt 200 a.2).1 (rrCnt 200 a.2).2
  let c := rrMany rrEnt (rrCnt 512 b.2).1 (rrCnt 512 b.2).2
  let d := rrNums 16 c.2
  let e := rrNums 128 d.2
  let f := rrNum e.2
  let g := rrNum f.2
  (⟨a.1, b.1, c.1, d.1, e.1, f.1, g.1⟩, g.2)
def refP (s : List UInt8) : Option Prg := if (rrPrg (s, false)).2.2 = true ∨ (rrPrg (s, false)).2.1 ≠ [] ∨ validM (rrPrg (s, false)).1 ≠ 0 then Option.none else some (rrPrg (s, false)).1
theorem rnL_exact : ∀ (n i z : Nat) (s : List UInt8) (z' : Nat) (r : List UInt8), rnL n i z s = (some z', r) → ∃ y, y < 128 ^ n ∧ (i ≠ 0 → y ≠ 0) ∧ z' = z + y * 2 ^ (7 * i) ∧ s = numB y ++ r
  | 0, _, _, _, _, _, h => by simp [rnL] at h
  | _ + 1, _, _, [], _, _, h => by simp [rnL] at h
  | n + 1, i, z, b :: s, z', r, h => by
    have hb := b.toNat_lt
    simp only [rnL] at h
    split at h
    · rename_i h1
      obtain ⟨y, y1, y2, y3, y4⟩ := rnL_exact n (i + 1) _ s z' r h
      refine ⟨b.toNat % 128 + 128 * y, by rw [Nat.pow_succ]; omega, fun _ => by have := y2 (by omega); omega, ?_, ?_⟩
      · rw [y3, pow7, Nat.add_mul, Nat.mul_comm 128 y, Nat.mul_assoc]; omega
      · have := y2 (by omega)
        rw [numB_ge (by omega), show (b.toNat % 128 + 128 * y) / 128 = y by omega, show (b.toNat % 128 + 128 * y) % 128 + 128 = b.toNat by omega, y4, List.cons_append]
        congr 1
        exact (UInt8.ofNat_toNat).symm
    · rename_i h1
      split at h
      · simp at h
      · rename_i h2
        simp only [Prod.mk.injEq, Option.some.injEq] at h
        obtain ⟨rfl, rfl⟩ := h
        refine ⟨b.toNat, ?_, fun hi e => h2 ⟨e, hi⟩, by rw [Nat.mod_eq_of_lt (by omega)], ?_⟩
        · have : 1 ≤ 128 ^ n := Nat.one_le_pow _ _ (by omega)
          rw [Nat.pow_succ]; omega
        · rw [numB_lt (by omega), UInt8.ofNat_toNat]; rfl
theorem rnL_numB : ∀ (n i y z : Nat) (r : List UInt8), y < 128 ^ n → n ≠ 0 → (i ≠ 0 → y ≠ 0) → rnL n i z (numB y ++ r) = (some (z + y * 2 ^ (7 * i)), r)
  | 0, _, _, _, _, _, h, _ => absurd rfl h
  | n + 1, i, y, z, r, hy, _, hi => by
    by_cases h : y < 128
    · rw [numB_lt h]
      have e : (UInt8.ofNat y).toNat = y := by rw [UInt8.toNat_ofNat']; omega
      simp only [List.cons_append, List.nil_append, rnL, e]
      rw [if_neg (by omega), if_neg (fun hh => hi hh.2 hh.1), Nat.mod_eq_of_lt h]
    · rw [numB_ge h]
      have e : (UInt8.ofNat (y % 128 + 128)).toNat = y % 128 + 128 := by rw [UInt8.toNat_ofNat']; omega
      have h2 : (y % 128 + 128) % 128 = y % 128 := by omega
      have hn : n ≠ 0 := by intro e0; subst e0; simp at hy; omega
      simp only [List.cons_append, rnL, e, h2]
      rw [if_pos (by omega), rnL_numB n (i + 1) (y / 128) _ r (by rw [Nat.pow_succ] at hy; omega) hn (fun _ => by omega), pow7]
      congr 2
      have := Nat.div_add_mod y 128
      calc z + y % 128 * 2 ^ (7 * i) + y / 128 * (128 * 2 ^ (7 * i)) = z + (128 * (y / 128) + y % 128) * 2 ^ (7 * i) := by
            rw [Nat.add_mul, Nat.mul_comm 128 (y / 128), Nat.mul_assoc]; omega
        _ = _ := by rw [this]
theorem zig_unzig (z : Nat) : zig (unzig z) = z := by
  unfold unzig zig
  split <;> split <;> omega
theorem rrNum_exact {s : RS} {n : Int} {r : List UInt8} (h : rrNum s = (n, (r, false))) : s = (numI n ++ r, false) := by
  obtain ⟨s, b⟩ := s
  unfold rrNum at h
  cases b with
  | true => simp at h
  | false =>
    simp only [Bool.false_eq_true, if_false] at h
    split at h
    · rename_i z r' h1
      obtain ⟨y, y1, -, y3, y4⟩ := rnL_exact 5 0 0 s z r' h1
      simp only [Prod.mk.injEq, and_true] at h
      obtain ⟨rfl, rfl⟩ := h
      simp only [numI, zig_unzig]
      rw [y4, y3]; simp
    · simp at h
theorem rrCnt_exact {most : Int} {s : RS} {n : Nat} {r : List UInt8} (h : rrCnt most s = (n, (r, false))) : s = (numI n ++ r, false) := by
  unfold rrCnt at h
  split at h
  · simp at h
  · rename_i h1
    split at h
    · rename_i h2
      have := congrArg (fun x => x.2.2) h
      simp only at this
      rw [h2] at this; cases this
    · obtain ⟨x, hx⟩ : ∃ x, x = rrNum s := ⟨_, rfl⟩
      rw [← hx] at h h1
      obtain ⟨x1, x2, x3⟩ := x
      simp only [Prod.mk.injEq] at h h1
      obtain ⟨rfl, rfl, rfl⟩ := h
      have := rrNum_exact hx.symm
      rw [this]
      have e : ((x1.toNat : Nat) : Int) = x1 := by omega
      rw [e]
theorem rrMany_exact {α : Type} {f : RS → α × RS} {g : α → List UInt8} (hf : ∀ s x r, f s = (x, (r, false)) → s = (g x ++ r, false)) : ∀ (n : Nat) (s : RS) (l : List α) (r : List UInt8), rrMany f n s = (l, (r, false)) → s = (l.flatMap g ++ r, false) ∧ l.length = n
  | 0, s, l, r, h => by
    simp only [rrMany, Prod.mk.injEq] at h
    obtain ⟨rfl, rfl⟩ := h
    exact ⟨by simp, rfl⟩
  | n + 1, s, l, r, h => by
    simp only [rrMany] at h
    split at h
    · rename_i h1
      simp only [Prod.mk.injEq] at h
      obtain ⟨-, h2⟩ := h
      rw [h2] at h1; cases h1
    · simp only [Prod.mk.injEq] at h
      obtain ⟨rfl, h2⟩ := h
      obtain ⟨e1, e2⟩ := rrMany_exact hf n (f s).2 (rrMany f n (f s).2).1 r (by rw [← h2])
      have e3 := hf s (f s).1 _ (by rw [← e1])
      refine ⟨?_, by rw [List.length_cons, e2]⟩
      rw [List.flatMap_cons, List.append_assoc]; exact e3
theorem rrAll_exact : ∀ (n : Nat) (s : RS) (l : List Int) (r : List UInt8), rrAll n s = (l, (r, false)) → s = (l.flatMap numI ++ r, false) ∧ l.length = n
  | 0, s, l, r, h => by
    simp only [rrAll, Prod.mk.injEq] at h
    obtain ⟨rfl, rfl⟩ := h
    exact ⟨by simp, rfl⟩
  | n + 1, s, l, r, h => by
    simp only [rrAll, Prod.mk.injEq] at h
    obtain ⟨rfl, h2⟩ := h
    obtain ⟨e1, e2⟩ := rrAll_exact n (rrNum s).2 (rrAll n (rrNum s).2).1 r (by rw [← h2])
    have e3 := rrNum_exact (s := s) (n := (rrNum s).1) (r := (rrAll n (rrNum s).2).1.flatMap numI ++ r) (by rw [← e1])
    refine ⟨?_, by rw [List.length_cons, e2]⟩
    rw [List.flatMap_cons, List.append_assoc]; exact e3
theorem rrNums_exact {most : Int} {s : RS} {l : List Int} {r : List UInt8} (h : rrNums most s = (l, (r, false))) : s = (numsB l ++ r, false) := by
  unfold rrNums at h
  obtain ⟨e1, e2⟩ := rrAll_exact _ _ l r h
  have e3 := rrCnt_exact (most := most) (s := s) (n := (rrCnt most s).1) (r := l.flatMap numI ++ r) (by rw [← e1])
  refine e3.trans ?_
  rw [← e2]; simp [numsB]
theorem rrIns_exact (s : RS) (x : Ins) (r : List UInt8) (h : rrIns s = (x, (r, false))) : s = (insB x ++ r, false) := by
  simp only [rrIns, Prod.mk.injEq] at h
  obtain ⟨rfl, h2⟩ := h
  have e1 := rrNum_exact (s := (rrNum s).2) (n := (rrNum (rrNum s).2).1) (r := r) (by rw [← h2])
  have e2 := rrNum_exact (s := s) (n := (rrNum s).1) (by rw [← e1])
  exact e2.trans (by simp [insB])
theorem rrEnt_exact (s : RS) (x : Ent) (r : List UInt8) (h : rrEnt s = (x, (r, false))) : s = (entB x ++ r, false) := by
  simp only [rrEnt, Prod.mk.injEq] at h
  obtain ⟨rfl, h2⟩ := h
  have e1 := rrNum_exact (s := (rrNum (rrNum (rrNum s).2).2).2) (n := (rrNum (rrNum (rrNum (rrNum s).2).2).2).1) (r := r) (by rw [← h2])
  have e2 := rrNum_exact (s := (rrNum (rrNum s).2).2) (n := (rrNum (rrNum (rrNum s).2).2).1) (by rw [← e1])
  have e3 := rrNum_exact (s := (rrNum s).2) (n := (rrNum (rrNum s).2).1) (by rw [← e2])
  have e4 := rrNum_exact (s := s) (n := (rrNum s).1) (by rw [← e3])
  exact e4.trans (by simp [entB])
theorem rrStrs_exact : ∀ (n : Nat) (s : RS) (l : List (List UInt8)) (r : List UInt8), rrStrs n s = (l, (r, false)) → s = (l.flatMap strB ++ r, false) ∧ l.length = n
  | 0, s, l, r, h => by
    simp only [rrStrs, Prod.mk.injEq] at h
    obtain ⟨rfl, rfl⟩ := h
    exact ⟨by simp, rfl⟩
  | n + 1, s, l, r, h => by
    simp only [rrStrs] at h
    split at h
    · rename_i h1
      simp only [Prod.mk.injEq] at h
      obtain ⟨-, h2⟩ := h
      rw [h2] at h1; cases h1
    · split at h
      · simp at h
      · rename_i h1 h3
        simp only [Prod.mk.injEq] at h
        obtain ⟨rfl, h2⟩ := h
        obtain ⟨e1, e2⟩ := rrStrs_exact n _ _ r (Prod.ext rfl h2)
        obtain ⟨c, hc⟩ : ∃ c, c = rrCnt 32 s := ⟨_, rfl⟩
        rw [← hc] at e1 e2 h3 h2 ⊢
        obtain ⟨k, q, b⟩ := c
        simp only [Prod.mk.injEq] at e1 e2 h3 ⊢
        obtain ⟨e4, rfl⟩ := e1
        have e3 := rrCnt_exact hc.symm
        refine ⟨?_, by rw [List.length_cons, e2]⟩
        have e5 : (q.take k).length = k := by rw [List.length_take]; omega
        rw [e3, List.flatMap_cons, strB, e5, List.append_assoc, List.append_assoc, ← e4, List.take_append_drop]
theorem rrPrg_exact {s : List UInt8} {c : Prg} (h : rrPrg (s, false) = (c, ([], false))) : s = encM c := by
  simp only [rrPrg, Prod.mk.injEq] at h
  obtain ⟨rfl, h2⟩ := h
  obtain ⟨a, ha⟩ : ∃ a, a = rrMany rrIns (rrCnt 4000 (s, false)).1 (rrCnt 4000 (s, false)).2 := ⟨_, rfl⟩
  rw [← ha] at h2 ⊢
  obtain ⟨b, hb⟩ : ∃ b, b = rrStrs (rrCnt 200 a.2).1 (rrCnt 200 a.2).2 := ⟨_, rfl⟩
  rw [← hb] at h2 ⊢
  obtain ⟨c, hc⟩ : ∃ c, c = rrMany rrEnt (rrCnt 512 b.2).1 (rrCnt 512 b.2).2 := ⟨_, rfl⟩
  rw [← hc] at h2 ⊢
  obtain ⟨d, hd⟩ : ∃ d, d = rrNums 16 c.2 := ⟨_, rfl⟩
  rw [← hd] at h2 ⊢
  obtain ⟨e, he⟩ : ∃ e, e = rrNums 128 d.2 := ⟨_, rfl⟩
  rw [← he] at h2 ⊢
  obtain ⟨f, hf⟩ : ∃ f, f = rrNum e.2 := ⟨_, rfl⟩
  rw [← hf] at h2 ⊢
  obtain ⟨g, hg⟩ : ∃ g, g = rrNum f.2 := ⟨_, rfl⟩
  rw [← hg] at h2 ⊢
  have e1 := rrNum_exact (s := f.2) (n := g.1) (r := []) (by rw [← hg, ← h2])
  have e2 := rrNum_exact (s := e.2) (n := f.1) (by rw [← hf, ← e1])
  have e3 := rrNums_exact (s := d.2) (l := e.1) (by rw [← he, ← e2])
  have e4 := rrNums_exact (s := c.2) (l := d.1) (by rw [← hd, ← e3])
  obtain ⟨e5, n5⟩ := rrMany_exact rrEnt_exact _ _ c.1 _ (Prod.ext (by rw [← hc]) (by rw [← hc]; exact e4))
  have e6 := rrCnt_exact (s := b.2) (n := (rrCnt 512 b.2).1) (Prod.ext rfl e5)
  obtain ⟨e7, n7⟩ := rrStrs_exact _ _ b.1 _ (Prod.ext (by rw [← hb]) (by rw [← hb]; exact e6))
  have e8 := rrCnt_exact (s := a.2) (n := (rrCnt 200 a.2).1) (Prod.ext rfl e7)
  obtain ⟨e9, n9⟩ := rrMany_exact rrIns_exact _ _ a.1 _ (Prod.ext (by rw [← ha]) (by rw [← ha]; exact e8))
  have e10 := rrCnt_exact (s := (s, false)) (n := (rrCnt 4000 (s, false)).1) (Prod.ext rfl e9)
  have e11 := congrArg Prod.fst e10
  simp only at e11
  rw [e11, ← n9, ← n7, ← n5]
  simp [encM]
abbrev Sq (n : Int) : Prop := -8589934592 ≤ n ∧ n ≤ 8589934591
structure Bndq (c : Prg) : Prop where
  ins : ∀ i ∈ c.instrs, Sq i.op ∧ Sq i.A
  ent : ∀ e ∈ c.entries, Sq e.mode ∧ Sq e.trigger ∧ Sq e.index ∧ Sq e.pos
  pri : ∀ n ∈ c.prios, Sq n
  var : ∀ n ∈ c.vars, Sq n
  tim : Sq c.timers
  evt : Sq c.events
  str : ∀ s ∈ c.strings, s.length ≤ 32
theorem sq_in {n lo hi : Int} (h : inM n lo hi = true) (h1 : -8589934592 ≤ lo) (h2 : hi ≤ 8589934591) : Sq n := by
  simp only [inM, Bool.and_eq_true, decide_eq_true_eq] at h
  exact ⟨by omega, by omega⟩
theorem kind_sq {c : Prg} (hL : limitsM c = true) {k a : Int} (hJ : k ≠ 7) (h : kindM c k a = true) : Sq a := by
  obtain ⟨d1, d2, d3, d4, d5, d6, d7, d8, d9⟩ := Lim.dims hL
  by_cases e0 : k = 0
  · subst e0
    have h' : decide (a = 0) = true := h
    simp only [decide_eq_true_eq] at h'; exact ⟨by omega, by omega⟩
  by_cases e1 : k = 1
  · subst e1; exact sq_in (lo := (-2147483647)) (hi := 2147483647) h (by omega) (by omega)
  by_cases e2 : k = 2
  · subst e2; exact sq_in (lo := 0) (hi := (c.vars.length - 1)) h (by omega) (by omega)
  by_cases e3 : k = 3
  · subst e3; exact sq_in (lo := 0) (hi := 63) h (by omega) (by omega)
  by_cases e9 : k = 9
  · subst e9; exact sq_in (lo := 0) (hi := 63) h (by omega) (by omega)
  by_cases e4 : k = 4
  · subst e4; exact sq_in (lo := 0) (hi := (c.prios.length - 1)) h (by omega) (by omega)
  by_cases e5 : k = 5
  · subst e5; exact sq_in (lo := 0) (hi := (c.timers - 1)) h (by omega) (by omega)
  by_cases e6 : k = 6
  · subst e6; exact sq_in (lo := 12) (hi := 24) h (by omega) (by omega)
  by_cases e8 : k = 8
  · subst e8; exact sq_in (lo := 0) (hi := 31) h (by omega) (by omega)
  by_cases e10 : k = 10
  · subst e10; exact sq_in (lo := 0) (hi := (c.events - 1)) h (by omega) (by omega)
  by_cases e11 : k = 11
  · subst e11; exact sq_in (lo := 0) (hi := (c.strings.length - 1)) h (by omega) (by omega)
  have : kindM c k a = false := by
    unfold kindM
    rw [if_neg e0, if_neg e1, if_neg e2, if_neg e3, if_neg e9, if_neg e4, if_neg e5, if_neg e6, if_neg hJ, if_neg e8, if_neg e10, if_neg e11]
  rw [this] at h; cases h
theorem Bndq.of {c : Prg} (hL : limitsM c = true) (hp : partsM c = true) (hj : jumpsM c = true) : Bndq c := by
  obtain ⟨d1, d2, d3, d4, d5, d6, d7, d8, d9⟩ := Lim.dims hL
  simp only [partsM, Bool.and_eq_true, List.all_eq_true] at hp
  obtain ⟨⟨⟨⟨p1, p2⟩, p3⟩, p4⟩, p5⟩ := hp
  refine ⟨fun i hi => ?_, fun e he => ?_, fun n hn => sq_in (p2 n hn) (by omega) (by omega), fun n hn => sq_in (p3 n hn) (by omega) (by omega), ⟨by omega, by omega⟩, ⟨by omega, by omega⟩, fun s hs => ?_⟩
  · have h := p5 i hi
    have h7 := jump_bd hj i hi
    have hk : (effM i.op).2.2 ≠ -1 := by
      intro e; rw [numberM, e] at h; simp [kindM] at h
    obtain ⟨o1, o2⟩ := op_bd hk
    refine ⟨⟨by omega, by omega⟩, ?_⟩
    by_cases hJ : (effM i.op).2.2 = 7
    · have hop : i.op = 12 ∨ i.op = 13 ∨ i.op = 14 := by
        have := isJ_kind i.op
        rw [hJ] at this
        simpa [isJ] using this
      have := h7 hop
      exact ⟨by omega, by omega⟩
    · exact kind_sq hL hJ h
  · have h := p4 e he
    have h7 := ent_bd hj e he
    simp only [entryM, Bool.and_eq_true] at h
    obtain ⟨h1, h2⟩ := h
    refine ⟨sq_in h1 (by omega) (by omega), ?_, ?_, ⟨by omega, by omega⟩⟩
    · repeat' split at h2
      all_goals first
        | cases h2; done
        | exact ⟨by omega, by omega⟩
    · repeat' split at h2
      all_goals first
        | exact sq_in h2 (by omega) (by omega)
        | (simp only [decide_eq_true_eq] at h2; exact ⟨by omega, by omega⟩)
        | cases h2
  · have h := p1 s hs
    simp only [printM, Bool.and_eq_true, decide_eq_true_eq] at h
    exact h.2
theorem Bndq.valid {c : Prg} (h0 : validM c = 0) : Bndq c :=
  let ⟨a, b, d, _⟩ := valid_all h0
  Bndq.of a b d
theorem rr_num {n : Int} (h : Sq n) (r : List UInt8) : rrNum (numI n ++ r, false) = (n, (r, false)) := by
  have hz : zig n < 128 ^ 5 := by
    have e : (128 : Nat) ^ 5 = 34359738368 := by decide
    rw [e]; unfold zig
    obtain ⟨h1, h2⟩ := h
    split <;> omega
  unfold rrNum
  simp only [numI, Bool.false_eq_true, if_false]
  rw [rnL_numB 5 0 (zig n) 0 r hz (by omega) (fun h => absurd rfl h)]
  simp only [Nat.zero_add, Nat.mul_zero, Nat.pow_zero, Nat.mul_one, unzig_zig]
theorem rr_cnt {n : Nat} {most : Int} (h : (n : Int) ≤ most) (h2 : n ≤ 1000000) (r : List UInt8) : rrCnt most (numI n ++ r, false) = (n, (r, false)) := by
  unfold rrCnt
  rw [rr_num (n := (n : Int)) ⟨by omega, by omega⟩]
  rw [if_neg (by simp only; omega)]
  simp
theorem rr_many {α : Type} {f : RS → α × RS} {g : α → List UInt8} : ∀ (l : List α) (r : List UInt8), (∀ x ∈ l, ∀ r, f (g x ++ r, false) = (x, (r, false))) → rrMany f l.length (l.flatMap g ++ r, false) = (l, (r, false))
  | [], r, _ => by simp [rrMany]
  | x :: l, r, h => by
    rw [List.length_cons]
    simp only [rrMany, Bool.false_eq_true, if_false]
    rw [List.flatMap_cons, List.append_assoc, h x List.mem_cons_self]
    simp only
    rw [rr_many l r (fun y hy => h y (List.mem_cons_of_mem _ hy))]
theorem rr_all : ∀ (l : List Int) (r : List UInt8), (∀ x ∈ l, Sq x) → rrAll l.length (l.flatMap numI ++ r, false) = (l, (r, false))
  | [], r, _ => by simp [rrAll]
  | x :: l, r, h => by
    rw [List.length_cons]
    simp only [rrAll]
    rw [List.flatMap_cons, List.append_assoc, rr_num (h x List.mem_cons_self)]
    simp only
    rw [rr_all l r (fun y hy => h y (List.mem_cons_of_mem _ hy))]
theorem rr_nums {l : List Int} {most : Int} (h : ∀ n ∈ l, Sq n) (hl : (l.length : Int) ≤ most) (h2 : l.length ≤ 1000000) (r : List UInt8) : rrNums most (numsB l ++ r, false) = (l, (r, false)) := by
  unfold rrNums numsB
  rw [List.append_assoc, rr_cnt hl h2]
  exact rr_all l r h
theorem rr_ins {i : Ins} (h : Sq i.op ∧ Sq i.A) (r : List UInt8) : rrIns (insB i ++ r, false) = (i, (r, false)) := by
  unfold rrIns insB
  rw [List.append_assoc, rr_num h.1]
  simp only
  rw [rr_num h.2]
theorem rr_ent {e : Ent} (h : Sq e.mode ∧ Sq e.trigger ∧ Sq e.index ∧ Sq e.pos) (r : List UInt8) : rrEnt (entB e ++ r, false) = (e, (r, false)) := by
  obtain ⟨h1, h2, h3, h4⟩ := h
  unfold rrEnt entB
  simp only [List.append_assoc]
  rw [rr_num h1]
  simp only
  rw [rr_num h2]
  simp only
  rw [rr_num h3]
  simp only
  rw [rr_num h4]
theorem rr_strs : ∀ (l : List (List UInt8)) (r : List UInt8), (∀ x ∈ l, x.length ≤ 32) → rrStrs l.length (l.flatMap strB ++ r, false) = (l, (r, false))
  | [], r, _ => by simp [rrStrs]
  | x :: l, r, h => by
    have hx := h x List.mem_cons_self
    rw [List.length_cons]
    simp only [rrStrs, Bool.false_eq_true, if_false]
    have e : rrCnt 32 ((x :: l).flatMap strB ++ r, false) = (x.length, (x ++ (l.flatMap strB ++ r), false)) := by
      rw [List.flatMap_cons, strB, List.append_assoc, List.append_assoc, rr_cnt (by omega) (by omega)]
    rw [e]
    simp only
    rw [if_neg (by rw [List.length_append]; omega), List.take_left, List.drop_left, rr_strs l r (fun y hy => h y (List.mem_cons_of_mem _ hy))]
theorem rr_prg {c : Prg} (h0 : validM c = 0) : rrPrg (encM c, false) = (c, ([], false)) := by
  obtain ⟨b1, b2, b3, b4, b5, b6, b7⟩ := Bndq.valid h0
  obtain ⟨hL, -⟩ := valid_all h0
  obtain ⟨d1, d2, d3, d4, d5, -⟩ := Lim.dims hL
  unfold rrPrg encM
  simp only [List.append_assoc]
  rw [rr_cnt (by omega) (by omega)]
  simp only
  rw [rr_many c.instrs _ (fun x hx r => rr_ins (b1 x hx) r)]
  simp only
  rw [rr_cnt (by omega) (by omega)]
  simp only
  rw [rr_strs c.strings _ b7]
  simp only
  rw [rr_cnt (by omega) (by omega)]
  simp only
  rw [rr_many c.entries _ (fun x hx r => rr_ent (b2 x hx) r)]
  simp only
  rw [rr_nums b3 (by omega) (by omega)]
  simp only
  rw [rr_nums b4 (by omega) (by omega)]
  simp only
  rw [rr_num b5]
  simp only
  have e := rr_num b6 []
  rw [List.append_nil] at e
  rw [e]
theorem ref_iff {s : List UInt8} {c : Prg} : refP s = some c ↔ validM c = 0 ∧ encM c = s := by
  constructor
  · intro h
    unfold refP at h
    split at h
    · cases h
    · rename_i h1
      obtain ⟨p, hp⟩ : ∃ p, p = rrPrg (s, false) := ⟨_, rfl⟩
      rw [← hp] at h h1
      obtain ⟨c', r, b⟩ := p
      simp only [not_or, Bool.not_eq_true, Classical.not_not] at h h1
      obtain ⟨rfl, rfl, h4⟩ := h1
      cases h
      exact ⟨h4, (rrPrg_exact hp.symm).symm⟩
  · rintro ⟨h0, rfl⟩
    unfold refP
    rw [rr_prg h0, if_neg (by simp [h0])]
theorem dec_iff {s : List UInt8} {c : Prg} : decP s = some c ↔ validM c = 0 ∧ encM c = s := by
  constructor
  · intro h
    unfold decP at h
    split at h
    · cases h
    · rename_i h1
      simp only [not_or, Classical.not_not] at h1
      cases h
      obtain ⟨-, h2, h3⟩ := h1
      exact ⟨h2, by rw [encV, if_pos h2] at h3; exact h3⟩
  · rintro ⟨h0, rfl⟩
    exact dec_enc h0
theorem ref_dec (s : List UInt8) : refP s = decP s := by
  cases h : refP s with
  | some c => exact (dec_iff.2 (ref_iff.1 h)).symm
  | none =>
    cases h2 : decP s with
    | none => rfl
    | some c => rw [ref_iff.2 (dec_iff.1 h2)] at h; cases h
end Go.Pb
set_option linter.unusedVariables false
set_option linter.unusedSimpArgs false
namespace Go.Pb
open Go.Sym
theorem shl64u {k x : Nat} (hx : x < 128) (hk : k ≤ 7) : binR .shl (.int .u64 (x : Int)) (.int .u64 ((7 * k : Nat) : Int)) = some (.int .u64 ((x * 2 ^ (7 * k) : Nat) : Int)) := by
  have h := shl64 hx hk
  rw [r_shl (by omega)] at h ⊢
  exact h
theorem shr1 (z : Nat) : binR .shr (.int .u64 (z : Int)) (.int .u64 1) = some (.int .u64 ((z / 2 : Nat) : Int)) := by
  rw [r_shr (by omega)]
  have e : min (1 : Int).toNat IntKind.u64.bits = 1 := by decide
  rw [e]
  have : (z : Int).fdiv (2 ^ 1) = ((z / 2 : Nat) : Int) := by
    rw [Int.fdiv_eq_ediv_of_nonneg _ (by decide)]; simp
  rw [this]
theorem not64 {z : Nat} (h : z < 4611686018427387904) : IntKind.i64.wrap (18446744073709551615 - (z : Int)) = -(z : Int) - 1 := by
  simp only [IntKind.wrap, IntKind.bits, IntKind.signed]
  simp
  omega
theorem idx0 {s : List UInt8} {i : Nat} {b : UInt8} (h : s[i]? = some b) : idxR (.str (s.drop i)) (.int .i64 0) = some (.int .u8 (b.toNat : Int)) := by
  have e : (s.drop i)[(0 : Int).toNat]? = some b := by simp [h]
  rw [r_idx, if_pos (by omega), e]; rfl
theorem sls1 {s : List UInt8} {i : Nat} (h : i < s.length) : slsR (s.drop i) (some (.int .i64 1)) none = some (.str (s.drop (i + 1))) := by
  have := sls_from (s := s.drop i) (k := 1) (by rw [List.length_drop]; omega)
  rw [List.drop_drop] at this; exact this
theorem rnL_step {n i z : Nat} {s : List UInt8} {b : UInt8} (h : s[i]? = some b) : rnL (n + 1) i z (s.drop i) = if 128 ≤ b.toNat then rnL n (i + 1) (z + b.toNat % 128 * 2 ^ (7 * i)) (s.drop (i + 1)) else if b.toNat = 0 ∧ i ≠ 0 then (none, s.drop (i + 1)) else (some (z + b.toNat % 128 * 2 ^ (7 * i)), s.drop (i + 1)) := by
  have hk : i < s.length := (List.getElem?_eq_some_iff.1 h).1
  rw [List.drop_eq_getElem_cons hk]
  rw [List.getElem?_eq_getElem hk] at h
  cases h
  rfl
theorem rnL_end {n i z : Nat} {s : List UInt8} (h : ¬(i < s.length ∧ n ≠ 0)) : rnL n i z (s.drop i) = (none, s.drop i) := by
  cases n with
  | zero => rfl
  | succ n =>
    rw [List.drop_eq_nil_of_le (by omega)]; rfl
theorem rr_bad (s : List UInt8) : rrNum (s, true) = (0, (s, true)) := rfl
theorem rrCnt_le {most : Int} {m : Nat} {s : RS} (h : most ≤ m) : (rrCnt most s).1 ≤ m := by
  unfold rrCnt
  split
  · simp
  · split
    · simp
    · simp only; omega
end Go.Pb
set_option linter.unusedVariables false
set_option linter.unusedSimpArgs false
namespace Go.Pb
open Go.Sym
theorem valueM_l0 (l : List UInt8) (p : Nat) : (valueM l 0 p).1.length ≤ 1 := by have := valueM_len l 0 p; omega
theorem valueM_l1 (l : List UInt8) (p : Nat) : (valueM l 1 p).1.length ≤ 3 := by
  have := valueM_len l 1 p
  have e : 2 ^ (1 + 1) = 4 := rfl
  omega
theorem valueM_l2 (l : List UInt8) (p : Nat) : (valueM l 2 p).1.length ≤ 7 := by
  have := valueM_len l 2 p
  have e : 2 ^ (2 + 1) = 8 := rfl
  omega
def stK (l : List UInt8) (rec : Nat → Nat → List Ins × Nat) (base k p : Nat) : List Ins × Nat :=
  match k with
  | 1 => ((valueM l 1 p).1 ++ [⟨15, 0⟩], (valueM l 1 p).2)
  | 2 => ([⟨16 + ((nextM l p 3).1 : Int), ((nextM l (nextM l p 3).2 32).1 : Int)⟩], (nextM l (nextM l p 3).2 32).2)
  | 3 => ((valueM l 0 p).1 ++ [⟨19, ((nextM l (valueM l 0 p).2 64).1 : Int)⟩], (nextM l (valueM l 0 p).2 64).2)
  | 4 => ((valueM l 0 p).1 ++ (valueM l 0 (valueM l 0 p).2).1 ++ [⟨20, ((nextM l (valueM l 0 (valueM l 0 p).2).2 64).1 : Int)⟩], (nextM l (valueM l 0 (valueM l 0 p).2).2 64).2)
  | 5 => ((valueM l 1 p).1 ++ [⟨21, ((nextM l (valueM l 1 p).2 2).1 : Int)⟩], (nextM l (valueM l 1 p).2 2).2)
  | 6 => ([⟨22, ((nextM l p 2).1 : Int)⟩], (nextM l p 2).2)
  | 7 => ([⟨23 + ((nextM l p 2).1 : Int), ((nextM l (nextM l p 2).2 2).1 : Int)⟩], (nextM l (nextM l p 2).2 2).2)
  | 8 => ([⟨25, ((nextM l p 2).1 : Int)⟩], (nextM l p 2).2)
  | 9 => ([⟨26 + ((nextM l p 3).1 : Int), ((nextM l (nextM l p 3).2 64).1 : Int)⟩], (nextM l (nextM l p 3).2 64).2)
  | 10 => ((valueM l 1 p).1 ++ [⟨29, ((nextM l (valueM l 1 p).2 2).1 : Int)⟩], (nextM l (valueM l 1 p).2 2).2)
  | 11 => ([⟨30, 0⟩], p)
  | 12 => ((valueM l 1 p).1 ++ [⟨13, ((base + (valueM l 1 p).1.length + 1 + (rec (base + (valueM l 1 p).1.length + 1) (valueM l 1 p).2).1.length : Nat) : Int)⟩] ++ (rec (base + (valueM l 1 p).1.length + 1) (valueM l 1 p).2).1, (rec (base + (valueM l 1 p).1.length + 1) (valueM l 1 p).2).2)
  | 13 | 14 => ((valueM l 0 p).1 ++ [⟨14, ((base + (valueM l 0 p).1.length + 2 + (rec (base + (valueM l 0 p).1.length + 1) (valueM l 0 p).2).1.length : Nat) : Int)⟩] ++ (rec (base + (valueM l 0 p).1.length + 1) (valueM l 0 p).2).1 ++ [⟨12, ((base + (valueM l 0 p).1.length : Nat) : Int)⟩], (rec (base + (valueM l 0 p).1.length + 1) (valueM l 0 p).2).2)
  | _ => ((valueM l 2 p).1 ++ [⟨3, ((nextM l (valueM l 2 p).2 3).1 : Int)⟩], (nextM l (valueM l 2 p).2 3).2)
def stmtM (l : List UInt8) : Nat → Nat → Nat → List Ins × Nat
  | 0, base, p => stK l (fun _ p => ([], p)) base (if 11 < (nextM l p 15).1 then 0 else (nextM l p 15).1) (nextM l p 15).2
  | d + 1, base, p => stK l (stmtM l d) base (nextM l p 15).1 (nextM l p 15).2
theorem stK_pos {l : List UInt8} {rec : Nat → Nat → List Ins × Nat} (hr : ∀ b p, p ≤ l.length → (rec b p).2 ≤ l.length) (base k p : Nat) (h : p ≤ l.length) : (stK l rec base k p).2 ≤ l.length := by
  unfold stK
  split
  all_goals first
    | exact h
    | exact nextM_le h
    | exact nextM_le (nextM_le h)
    | exact valueM_le _ _ _ h
    | exact nextM_le (valueM_le _ _ _ h)
    | exact nextM_le (valueM_le _ _ _ (valueM_le _ _ _ h))
    | exact hr _ _ (valueM_le _ _ _ h)
theorem stmtM_le (l : List UInt8) : ∀ (d base p : Nat), p ≤ l.length → (stmtM l d base p).2 ≤ l.length
  | 0, base, p, h => stK_pos (fun _ _ h => h) _ _ _ (nextM_le h)
  | d + 1, base, p, h => stK_pos (fun b p h => stmtM_le l d b p h) _ _ _ (nextM_le h)
theorem stK_len {l : List UInt8} {rec : Nat → Nat → List Ins × Nat} {m : Nat} (hr : ∀ b p, (rec b p).1.length ≤ m) (h8 : 4 ≤ m) (base k p : Nat) : (stK l rec base k p).1.length ≤ m + 4 := by
  have a := valueM_l0 l
  have b := valueM_l1 l
  have c := valueM_l2 l
  unfold stK
  split
  all_goals simp only [List.length_append, List.length_singleton]
  · have := b p; omega
  · omega
  · have := a p; omega
  · have := a p; have := a (valueM l 0 p).2; omega
  · have := b p; omega
  · omega
  · omega
  · omega
  · omega
  · have := b p; omega
  · omega
  · have := b p; have := hr (base + (valueM l 1 p).1.length + 1) (valueM l 1 p).2; omega
  · have := a p; have := hr (base + (valueM l 0 p).1.length + 1) (valueM l 0 p).2; omega
  · have := a p; have := hr (base + (valueM l 0 p).1.length + 1) (valueM l 0 p).2; omega
  · have := c p; omega
theorem stmtM_len (l : List UInt8) : ∀ (d base p : Nat), (stmtM l d base p).1.length ≤ 8 + 4 * d
  | 0, base, p => by
    have := stK_len (l := l) (rec := fun _ p => ([], p)) (m := 4) (fun _ _ => by simp) (by omega) base (if 11 < (nextM l p 15).1 then 0 else (nextM l p 15).1) (nextM l p 15).2
    simp only [stmtM]; omega
  | d + 1, base, p => by
    have := stK_len (l := l) (rec := stmtM l d) (m := 8 + 4 * d) (fun b p => stmtM_len l d b p) (by omega) base (nextM l p 15).1 (nextM l p 15).2
    simp only [stmtM]; omega
theorem w_sum {a b : Nat} (h : a + b ≤ 1000000) : IntKind.i64.wrap ((a : Int) + (b : Int)) = ((a + b : Nat) : Int) := by rw [w64 (by omega) (by omega)]; omega
theorem insL1 (a : List Ins) (x y : DV) : (insC a ++ [x, y]).length = (a.length + 1) * 2 := by rw [List.length_append, insC_len]; simp; omega
theorem insL2 (a b : List Ins) : (insC a ++ insC b).length = (a.length + b.length) * 2 := by rw [List.length_append, insC_len, insC_len]; omega
theorem insL3 (a b : List Ins) (x y : DV) : (insC a ++ [x, y] ++ insC b).length = (a.length + 1 + b.length) * 2 := by rw [List.length_append, insL1, insC_len]; omega
end Go.Pb
set_option linter.unusedVariables false
set_option linter.unusedSimpArgs false
namespace Go.Pb
open Go.Sym
theorem stK_ne {l : List UInt8} {rec : Nat → Nat → List Ins × Nat} {base k p : Nat} : 1 ≤ (stK l rec base k p).1.length := by
  unfold stK
  split <;> simp only [List.length_append, List.length_singleton] <;> omega
theorem stmtM_ne {l : List UInt8} {d base p : Nat} : 1 ≤ (stmtM l d base p).1.length := by
  cases d with
  | zero => simp only [stmtM]; exact stK_ne
  | succ d => simp only [stmtM]; exact stK_ne
def keysM : List Ent := [⟨0, 1, 0, 0⟩, ⟨0, 2, 0, 0⟩, ⟨0, 3, 3, 0⟩, ⟨0, 5, 1, 0⟩, ⟨0, 6, 0, 0⟩, ⟨1, 1, 0, 0⟩, ⟨1, 3, 3, 0⟩, ⟨1, 4, 63, 0⟩, ⟨1, 6, 1, 0⟩]
def mdB (l : List UInt8) : Nat → List Ins × Nat → List Ins × Nat
  | 0, x => x
  | n + 1, x => ((mdB l n x).1 ++ (stmtM l 2 (mdB l n x).1.length (mdB l n x).2).1, (stmtM l 2 (mdB l n x).1.length (mdB l n x).2).2)
structure MS where
  I : List Ins
  E : List Ent
  p : Nat
def mdH (l : List UInt8) (key : Ent) (x : MS) (p : Nat) : MS :=
  ⟨(mdB l (nextM l p 4).1 (x.I, (nextM l p 4).2)).1 ++ [⟨31, 0⟩], x.E ++ [⟨key.mode, key.trigger, key.index, (x.I.length : Int)⟩], (mdB l (nextM l p 4).1 (x.I, (nextM l p 4).2)).2⟩
def mdI (l : List UInt8) (key : Ent) (i : Nat) (x : MS) : MS :=
  if i = 0 then mdH l key x x.p else if (nextM l x.p 2).1 = 0 then ⟨x.I, x.E, (nextM l x.p 2).2⟩ else mdH l key x (nextM l x.p 2).2
def mdK (l : List UInt8) : Nat → MS
  | 0 => ⟨[], [], (nextM l (nextM l 0 4).2 4).2⟩
  | i + 1 => mdI l (keysM.getD i ⟨0, 0, 0, 0⟩) i (mdK l i)
def mdP (l : List UInt8) : List Int := [((nextM l 0 4).1 : Int), ((nextM l (nextM l 0 4).2 4).1 : Int)]
def mdS : List (List UInt8) := [[103, 111], [111, 118, 101, 114]]
def mdV : List Int := [0, 5, -3]
def madeT (t : List UInt8) : Prg := ⟨(mdK t 9).I, mdS, (mdK t 9).E, mdP t, mdV, 2, 2⟩
def madeM (l : List UInt8) : Prg := madeT (l.take 200)
theorem mdB_pos {l : List UInt8} {x : List Ins × Nat} (h : x.2 ≤ l.length) : ∀ n, (mdB l n x).2 ≤ l.length
  | 0 => h
  | n + 1 => stmtM_le l 2 _ _ (mdB_pos h n)
theorem mdB_len {l : List UInt8} {x : List Ins × Nat} : ∀ n, (mdB l n x).1.length ≤ x.1.length + 16 * n
  | 0 => by simp [mdB]
  | n + 1 => by
    have := mdB_len (l := l) (x := x) n
    have := stmtM_len l 2 (mdB l n x).1.length (mdB l n x).2
    simp only [mdB, List.length_append]; omega
theorem mdH_p {l : List UInt8} {key : Ent} {x : MS} {p : Nat} (h : p ≤ l.length) : (mdH l key x p).p ≤ l.length := mdB_pos (x := (x.I, (nextM l p 4).2)) (nextM_le h) _
theorem mdH_I {l : List UInt8} {key : Ent} {x : MS} {p : Nat} : (mdH l key x p).I.length ≤ x.I.length + 49 := by
  have := mdB_len (l := l) (x := (x.I, (nextM l p 4).2)) (nextM l p 4).1
  have := nextM_lt (l := l) (p := p) (n := 4) (by omega)
  simp only [mdH, List.length_append, List.length_singleton]; simp only at *; omega
theorem mdK_bd {l : List UInt8} : ∀ i, (mdK l i).p ≤ l.length ∧ (mdK l i).I.length ≤ 49 * i ∧ (mdK l i).E.length ≤ i
  | 0 => ⟨nextM_le (nextM_le (Nat.zero_le _)), by simp [mdK], by simp [mdK]⟩
  | i + 1 => by
    obtain ⟨a, b, c⟩ := mdK_bd (l := l) i
    simp only [mdK, mdI]
    split
    · exact ⟨mdH_p a, by have := mdH_I (l := l) (key := keysM.getD i ⟨0, 0, 0, 0⟩) (x := mdK l i) (p := (mdK l i).p); omega, by simp only [mdH, List.length_append, List.length_singleton]; omega⟩
    · split
      · exact ⟨nextM_le a, by simp only; omega, by simp only; omega⟩
      · exact ⟨mdH_p (nextM_le a), by have := mdH_I (l := l) (key := keysM.getD i ⟨0, 0, 0, 0⟩) (x := mdK l i) (p := (nextM l (mdK l i).p 2).2); omega, by simp only [mdH, List.length_append, List.length_singleton]; omega⟩
theorem entC_snoc (l : List Ent) (e : Ent) : cellsL ((l ++ [e]).map Ent.v) = cellsL (l.map Ent.v) ++ [I64 e.mode, I64 e.trigger, I64 e.index, I64 e.pos] := by
  rw [List.map_append, cellsL_append]; simp [cellsL, DV.cells]
theorem entC_nil {l : List Ent} (h : l = []) : cellsL (l.map Ent.v) = [] := by rw [h]; rfl
theorem insC_nil {l : List Ins} (h : l = []) : insC l = [] := by rw [h]; rfl
theorem len_nil {α : Type} {l : List α} (h : l = []) : l.length = 0 := by rw [h]; rfl
theorem slc_to {H : Hp} {sz n : Nat} {xs : List DV} (h : n ≤ xs.length) (hu : unit sz xs = true) : slcR H sz (.lst xs) none (some (.int .i64 (n : Int))) = some (.lst (xs.take n)) := by
  have h1 : boundOf xs.length (some (.int .i64 (n : Int))) = some n := by simp [boundOf]
  have h2 : boundOf 0 none = some 0 := by simp [boundOf]
  simp only [slcR, h1, h2, hu, h, Nat.zero_le, and_self, if_true, List.drop_zero, Nat.sub_zero]
theorem unit_bytes (l : List UInt8) : unit 1 (bytesC l) = true := unit_iff.2 (fun x hx => by obtain ⟨b, -, rfl⟩ := List.mem_map.1 hx; rfl)
theorem slc_bytes {H : Hp} {n : Nat} {l : List UInt8} (h : n ≤ l.length) : slcR H 1 (.lst (bytesC l)) none (some (.int .i64 (n : Int))) = some (.lst (bytesC (l.take n))) := by
  rw [slc_to (by rw [bytesC_len]; exact h) (unit_bytes l)]
  simp [bytesC, List.map_take]
def delO (H : Hp) : Option Nat → Hp
  | none => H
  | some i => H.del i
theorem r_lentodo {o : Option Nat} {n : Nat} (h : o = none → n = 0) : lenR (todoV o n) = some (I64 (n : Int)) := by
  cases o with
  | none => rw [h rfl]; rfl
  | some i => rfl
theorem r_apptodo {H : Hp} {c sz bytes n m : Nat} {o : Option Nat} {cs src : List DV} (hn : o = none → n = 0 ∧ cs = []) (hb : ∀ i, o = some i → H i = some ⟨sz, true, cs⟩) (hl : cs.length = n * sz) (hm : 1 ≤ m) (h2 : (n + m) * bytes ≤ 140737488355328) (h3 : n + m ≤ 9223372036854775807) :
    appR H c sz bytes (todoV o n) m src = some (.slc c 0 (n + m), (delO H o).upd c ⟨sz, true, cs ++ src⟩, c + 1) := by
  cases o with
  | none =>
    obtain ⟨rfl, rfl⟩ := hn rfl
    rw [todo_n, r_appn' (by omega) (by simpa using h2) (by omega)]
    simp [delO]
  | some i => rw [todo_s, r_apps, hb i rfl, b_appx hl h2 h3]; rfl
theorem delO_ne {H : Hp} {o : Option Nat} {j : Nat} (h : ∀ i, o = some i → ¬ j = i) : delO H o j = H j := by
  cases o with
  | none => rfl
  | some i => exact h_dne (h i rfl)
def MH (k : Nat) (l : List UInt8) (p : Nat) (S P V : DV) (I : List Ins) (E : List Ent) (o1 o2 : Option Nat) : Hp :=
  optH (optH (((Sym.nil.upd 0 ⟨0, true, [.snil, .snil, .snil, .snil, .snil, I64 0, I64 0]⟩).upd 1 (tapeB l p)).upd k ⟨0, true, [todoV o1 I.length, S, todoV o2 E.length, P, V, I64 2, I64 2]⟩) o1 ⟨2, true, insC I⟩) o2 ⟨4, true, cellsL (E.map Ent.v)⟩
structure MO (k : Nat) (o1 o2 : Option Nat) (cc : Nat) : Prop where
  k2 : 2 ≤ k
  kc : k < cc
  a : ∀ i, o1 = some i → k < i ∧ i < cc
  b : ∀ i, o2 = some i → k < i ∧ i < cc
  ne : ∀ i, o1 = some i → o2 ≠ some i
theorem optH_ne {H : Hp} {o : Option Nat} {b : Blk} {j : Nat} (h : ∀ i, o = some i → ¬ j = i) : optH H o b j = H j := by
  cases o with
  | none => rfl
  | some i => exact h_ne (h i rfl)
section
variable {l : List UInt8} {k p : Nat} {S P V : DV} {I : List Ins} {E : List Ent} {o1 o2 : Option Nat} {cc : Nat}
theorem MH_0 (h : MO k o1 o2 cc) : MH k l p S P V I E o1 o2 0 = some ⟨0, true, [.snil, .snil, .snil, .snil, .snil, I64 0, I64 0]⟩ := by
  have := h.k2
  unfold MH; rw [optH_ne (fun i hi => by have := h.b i hi; omega), optH_ne (fun i hi => by have := h.a i hi; omega), h_ne (by omega)]; rfl
theorem MH_1 (h : MO k o1 o2 cc) : MH k l p S P V I E o1 o2 1 = some (tapeB l p) := by
  have := h.k2
  unfold MH; rw [optH_ne (fun i hi => by have := h.b i hi; omega), optH_ne (fun i hi => by have := h.a i hi; omega), h_ne (by omega)]; rfl
theorem MH_k (h : MO k o1 o2 cc) : MH k l p S P V I E o1 o2 k = some ⟨0, true, [todoV o1 I.length, S, todoV o2 E.length, P, V, I64 2, I64 2]⟩ := by
  unfold MH; rw [optH_ne (fun i hi => by have := h.b i hi; omega), optH_ne (fun i hi => by have := h.a i hi; omega), h_same]
theorem MH_a (h : MO k o1 o2 cc) {i : Nat} (hi : o1 = some i) : MH k l p S P V I E o1 o2 i = some ⟨2, true, insC I⟩ := by
  unfold MH; rw [optH_ne (fun j hj e => h.ne i hi (by rw [e]; exact hj))]; subst hi; exact h_same
theorem MH_b {i : Nat} (hi : o2 = some i) : MH k l p S P V I E o1 o2 i = some ⟨4, true, cellsL (E.map Ent.v)⟩ := by
  unfold MH; subst hi; exact h_same
theorem MH_n (h : MO k o1 o2 cc) {j : Nat} (hc : cc ≤ j) : MH k l p S P V I E o1 o2 j = none := by
  have := h.k2
  have := h.kc
  unfold MH; rw [optH_ne (fun i hi => by have := h.b i hi; omega), optH_ne (fun i hi => by have := h.a i hi; omega), h_ne (by omega), h_ne (by omega), h_ne (by omega)]; rfl
theorem MH_t {p' : Nat} (h : MO k o1 o2 cc) : (MH k l p S P V I E o1 o2).upd 1 (tapeB l p') = MH k l p' S P V I E o1 o2 := by
  have hk := h.k2
  funext j
  by_cases e : j = 1
  · subst e; rw [h_same, MH_1 h]
  · rw [h_ne e]
    unfold MH
    by_cases e2 : o2 = some j
    · subst e2; simp only [optH, h_same]
    · have q2 : ∀ (X : Hp) b, optH X o2 b j = X j := fun X b => optH_ne (fun i hi e3 => e2 (by rw [e3]; exact hi))
      rw [q2, q2]
      by_cases e1 : o1 = some j
      · subst e1; simp only [optH, h_same]
      · have q1 : ∀ (X : Hp) b, optH X o1 b j = X j := fun X b => optH_ne (fun i hi e3 => e1 (by rw [e3]; exact hi))
        rw [q1, q1]
        by_cases ek : j = k
        · subst ek; rw [h_same, h_same]
        · rw [h_ne ek, h_ne ek, h_ne e, h_ne e]
theorem MH_sub {H : Hp} (h0 : H 0 = some ⟨0, true, [.snil, .snil, .snil, .snil, .snil, I64 0, I64 0]⟩) (h1 : H 1 = some (tapeB l p)) (hk : H k = some ⟨0, true, [todoV o1 I.length, S, todoV o2 E.length, P, V, I64 2, I64 2]⟩)
    (ha : ∀ i, o1 = some i → H i = some ⟨2, true, insC I⟩) (hb : ∀ i, o2 = some i → H i = some ⟨4, true, cellsL (E.map Ent.v)⟩) : Sub (MH k l p S P V I E o1 o2) H := by
  intro j b hj
  unfold MH at hj
  by_cases e2 : o2 = some j
  · subst e2; simp only [optH, h_same] at hj; rw [hb j rfl]; exact hj
  · rw [optH_ne (fun i hi e3 => e2 (by rw [e3]; exact hi))] at hj
    by_cases e1 : o1 = some j
    · subst e1; simp only [optH, h_same] at hj; rw [ha j rfl]; exact hj
    · rw [optH_ne (fun i hi e3 => e1 (by rw [e3]; exact hi))] at hj
      by_cases ek : j = k
      · subst ek; rw [h_same] at hj; rw [hk]; exact hj
      · rw [h_ne ek] at hj
        by_cases e : j = 1
        · subst e; rw [h_same] at hj; rw [h1]; exact hj
        · rw [h_ne e] at hj
          by_cases e0 : j = 0
          · subst e0; rw [h_same] at hj; rw [h0]; exact hj
          · rw [h_ne e0] at hj; cases hj
theorem MO.mono (h : MO k o1 o2 cc) {c2 : Nat} (hc : cc ≤ c2) : MO k o1 o2 c2 :=
  ⟨h.k2, by have := h.kc; omega, fun i hi => by have := h.a i hi; omega, fun i hi => by have := h.b i hi; omega, h.ne⟩
end
end Go.Pb
set_option maxHeartbeats 4000000
set_option maxRecDepth 100000
set_option linter.unusedSimpArgs false
set_option linter.unusedVariables false
namespace Go.Proofs.YtcallbfckjlagaaDoor
open Go.Eng (IC IOper DReg IFn IsFn)
open Go.Sym Go.Pb
noncomputable section
def u37_8 : IC := .cond (.t 7) .skip (.exit 0)
def u37_7r : List IOper := [oP 6 (.mv (.t 4)), oP 7 (.bin .lss (.t 6) (.k (.int .u64 5)))]
def u37_7 : IC := .seq (.reg u37_7r) u37_8
def u37_12 : IC := .cond (.t 21) (.exit 0) .skip
def u37_11r : List IOper := [oP 10 (.mv (.t 0)), oP 11 (.nck (.t 10)), oP 12 (.fad 1 (.t 11)), oP 13 (.ld 1 false (.t 12)), oP 14 (.mv (.t 13)), ⟨some 15, .pur (.mv (.t 0)), some (14, false)⟩, ⟨some 16, .pur (.nck (.t 15)), some (14, false)⟩, ⟨some 17, .pur (.fad 0 (.t 16)), some (14, false)⟩, ⟨some 18, .pur (.ld 1 false (.t 17)), some (14, false)⟩, ⟨some 19, .pur (.lens (.t 18)), some (14, false)⟩, ⟨some 20, .pur (.bin .eql (.t 19) (.k (.int .i64 0))), some (14, false)⟩, oP 21 (.pick (.t 14) (.k (.bool true)) (.t 20))]
def u37_11 : IC := .seq (.reg u37_11r) u37_12
def u37_18 : IC := .cond (.t 44) (.exit 1) .skip
def u37_17r : List IOper := [oP 43 (.mv (.t 5)), oP 44 (.bin .geq (.t 43) (.k (.int .u8 128)))]
def u37_17 : IC := .seq (.reg u37_17r) u37_18
def u37_21 : IC := .cond (.t 50) (.exit 0) .skip
def u37_20r : List IOper := [oP 45 (.mv (.t 5)), oP 46 (.bin .eql (.t 45) (.k (.int .u8 0))), oP 47 (.mv (.t 46)), oG 48 (.mv (.t 4)) 47, oG 49 (.bin .gtr (.t 48) (.k (.int .u64 0))) 47, oP 50 (.pick (.t 47) (.t 49) (.k (.bool false)))]
def u37_20 : IC := .seq (.reg u37_20r) u37_21
def u37_25r : List IOper := [oP 54 (.mv (.t 3)), oP 55 (.bin .shr (.t 54) (.k (.int .u64 1))), oP 56 (.un .xor (.t 55)), oP 57 (.cvi .i64 (.t 56)), oP 2 (.mv (.t 57))]
def u37_25 : IC := .seq (.reg u37_25r) .ret
def u37_24 : IC := .cond (.t 53) u37_25 .skip
def u37_23r : List IOper := [oP 51 (.mv (.t 3)), oP 52 (.bin .rem (.t 51) (.k (.int .u64 2))), oP 53 (.bin .eql (.t 52) (.k (.int .u64 1)))]
def u37_23 : IC := .seq (.reg u37_23r) u37_24
def u37_26r : List IOper := [oP 58 (.mv (.t 3)), oP 59 (.bin .shr (.t 58) (.k (.int .u64 1))), oP 60 (.cvi .i64 (.t 59)), oP 2 (.mv (.t 60))]
def u37_26 : IC := .seq (.reg u37_26r) .ret
def u37_22 : IC := .seq u37_23 u37_26
def u37_19 : IC := .seq u37_20 u37_22
def u37_16 : IC := .seq u37_17 u37_19
def u37_15r : List IOper := [oP 35 (.mv (.t 3)), oP 36 (.mv (.t 5)), oP 37 (.bin .rem (.t 36) (.k (.int .u8 128))), oP 38 (.cvi .u64 (.t 37)), oP 39 (.mv (.t 4)), oP 40 (.bin .mul (.k (.int .u64 7)) (.t 39)), oP 41 (.bin .shl (.t 38) (.t 40)), oP 42 (.bin .or (.t 35) (.t 41)), oP 3 (.mv (.t 42))]
def u37_15 : IC := .seq (.reg u37_15r) u37_16
def u37_14r : List IOper := [oP 27 (.mv (.t 0)), oP 28 (.mv (.t 0)), oP 29 (.nck (.t 28)), oP 30 (.fad 0 (.t 29)), oP 31 (.ld 1 false (.t 30)), oP 32 (.sls (.t 31) (some (.k (.int .i64 1))) none), oP 33 (.nck (.t 27)), oP 34 (.fad 0 (.t 33)), ⟨none, .eff (.st 1 (.t 34) (.t 32)), none⟩]
def u37_14 : IC := .seq (.reg u37_14r) u37_15
def u37_13r : List IOper := [oP 22 (.mv (.t 0)), oP 23 (.nck (.t 22)), oP 24 (.fad 0 (.t 23)), oP 25 (.ld 1 false (.t 24)), oP 26 (.idx (.t 25) (.k (.int .i64 0))), oP 5 (.mv (.t 26))]
def u37_13 : IC := .seq (.reg u37_13r) u37_14
def u37_10 : IC := .seq u37_11 u37_13
def u37_27r : List IOper := [oP 8 (.mv (.t 4)), oP 9 (.bin .add (.t 8) (.k (.int .u64 1))), oP 4 (.mv (.t 9))]
def u37_27 : IC := .reg u37_27r
def u37_9 : IC := .seq (.blk 1 u37_10) u37_27
def u37_6 : IC := .seq u37_7 u37_9
def u37_5 : IC := .blk 0 (.loop u37_6)
def u37_4r : List IOper := [oP 4 (.mv (.k (.int .u64 0)))]
def u37_4 : IC := .seq (.reg u37_4r) u37_5
def u37_29r : List IOper := [oP 2 (.mv (.k (.int .i64 0)))]
def u37_29 : IC := .seq (.reg u37_29r) .ret
def u37_28r : List IOper := [oP 61 (.mv (.t 0)), oP 62 (.nck (.t 61)), oP 63 (.fad 1 (.t 62)), ⟨none, .eff (.st 1 (.t 63) (.k (.bool true))), none⟩]
def u37_28 : IC := .seq (.reg u37_28r) u37_29
def u37_3 : IC := .seq u37_4 u37_28
def u37_2r : List IOper := [oP 3 (.mv (.k (.int .u64 0)))]
def u37_2 : IC := .seq (.reg u37_2r) u37_3
def u37_1r : List IOper := [oP 2 (.mv (.k (.int .i64 0)))]
def u37_1 : IC := .seq (.reg u37_1r) u37_2
def u37 : IFn := ⟨64, u37_1, [.tmp 2]⟩
end
theorem isU37 : IsFn Tryd.prog 37 u37 := by unfold IsFn; kernel_rfl
instance i37_8 : WR Tryd.prog 64 u37_8 (rCE (.t 7) .skip (.exit 0) [0, 3, 4, 7]) := ⟨mkCE⟩
instance i37_7 : WR Tryd.prog 64 u37_7 (rS u37_7r u37_8 [0, 3, 4]) := ⟨mkS⟩
instance i37_12 : WR Tryd.prog 64 u37_12 (rCE (.t 21) (.exit 0) .skip [0, 3, 4, 21]) := ⟨mkCE⟩
instance i37_11 : WR Tryd.prog 64 u37_11 (rS u37_11r u37_12 [0, 3, 4]) := ⟨mkS⟩
instance i37_18 : WR Tryd.prog 64 u37_18 (rCE (.t 44) (.exit 1) .skip [0, 3, 4, 5, 44]) := ⟨mkCE⟩
instance i37_17 : WR Tryd.prog 64 u37_17 (rS u37_17r u37_18 [0, 3, 4, 5]) := ⟨mkS⟩
instance i37_21 : WR Tryd.prog 64 u37_21 (rCE (.t 50) (.exit 0) .skip [0, 3, 50]) := ⟨mkCE⟩
instance i37_20 : WR Tryd.prog 64 u37_20 (rS u37_20r u37_21 [0, 3, 4, 5]) := ⟨mkS⟩
instance i37_25 : WR Tryd.prog 64 u37_25 (rS u37_25r .ret [3]) := ⟨mkS⟩
instance i37_24 : WR Tryd.prog 64 u37_24 (rCE (.t 53) u37_25 .skip [3, 53]) := ⟨mkCE⟩
instance i37_23 : WR Tryd.prog 64 u37_23 (rS u37_23r u37_24 [3]) := ⟨mkS⟩
instance i37_26 : WR Tryd.prog 64 u37_26 (rS u37_26r .ret [3]) := ⟨mkS⟩
instance i37_22 : WR Tryd.prog 64 u37_22 (rQ u37_23 u37_26 [3]) := ⟨mkQ⟩
instance i37_19 : WR Tryd.prog 64 u37_19 (rQ u37_20 u37_22 [0, 3, 4, 5]) := ⟨mkQ⟩
instance i37_16 : WR Tryd.prog 64 u37_16 (rQ u37_17 u37_19 [0, 3, 4, 5]) := ⟨mkQ⟩
instance i37_15 : WR Tryd.prog 64 u37_15 (rS u37_15r u37_16 [0, 3, 4, 5]) := ⟨mkS⟩
instance i37_14 : WR Tryd.prog 64 u37_14 (rS u37_14r u37_15 [0, 3, 4, 5]) := ⟨mkS⟩
instance i37_13 : WR Tryd.prog 64 u37_13 (rS u37_13r u37_14 [0, 3, 4]) := ⟨mkS⟩
instance i37_10 : WR Tryd.prog 64 u37_10 (rQ u37_11 u37_13 [0, 3, 4]) := ⟨mkQ⟩
instance i37_27 : WR Tryd.prog 64 u37_27 (rE u37_27r [0, 3, 4]) := ⟨mkE⟩
instance i37_9 : WR Tryd.prog 64 u37_9 (rB 1 u37_10 u37_27 [0, 3, 4]) := ⟨mkB⟩
instance i37_6 : WR Tryd.prog 64 u37_6 (rQ u37_7 u37_9 [0, 3, 4]) := ⟨mkQ⟩
instance i37_5 : WR Tryd.prog 64 u37_5 (rBE 0 (.loop u37_6) [0, 3, 4]) := ⟨mkBE⟩
instance i37_4 : WR Tryd.prog 64 u37_4 (rS u37_4r u37_5 [0, 3]) := ⟨mkS⟩
instance i37_29 : WR Tryd.prog 64 u37_29 (rS u37_29r .ret []) := ⟨mkS⟩
instance i37_28 : WR Tryd.prog 64 u37_28 (rS u37_28r u37_29 [0]) := ⟨mkS⟩
instance i37_3 : WR Tryd.prog 64 u37_3 (rQ u37_4 u37_28 [0, 3]) := ⟨mkQ⟩
instance i37_2 : WR Tryd.prog 64 u37_2 (rS u37_2r u37_3 [0]) := ⟨mkS⟩
instance i37_1 : WR Tryd.prog 64 u37_1 (rS u37_1r u37_2 [0]) := ⟨mkS⟩
attribute [go_sem] u37_7r u37_11r u37_17r u37_20r u37_25r u37_23r u37_26r u37_15r u37_14r u37_13r u37_27r u37_4r u37_29r u37_28r u37_2r u37_1r
noncomputable section
def u36_6r : List IOper := [oP 15 (.mv (.t 0)), oP 16 (.nck (.t 15)), oP 17 (.fad 1 (.t 16)), ⟨none, .eff (.st 1 (.t 17) (.k (.bool true))), none⟩]
def u36_6 : IC := .reg u36_6r
def u36_5 : IC := .cond (.t 14) u36_6 .skip
def u36_4r : List IOper := [oP 8 (.mv (.t 5)), oP 9 (.bin .lss (.t 8) (.k (.int .i64 0))), oP 10 (.mv (.t 9)), ⟨some 11, .pur (.mv (.t 5)), some (10, false)⟩, ⟨some 12, .pur (.mv (.t 1)), some (10, false)⟩, ⟨some 13, .pur (.bin .gtr (.t 11) (.t 12)), some (10, false)⟩, oP 14 (.pick (.t 10) (.k (.bool true)) (.t 13))]
def u36_4 : IC := .seq (.reg u36_4r) u36_5
def u36_10r : List IOper := [oP 4 (.mv (.k (.int .i64 0)))]
def u36_10 : IC := .seq (.reg u36_10r) .ret
def u36_9 : IC := .cond (.t 21) u36_10 .skip
def u36_8r : List IOper := [oP 18 (.mv (.t 0)), oP 19 (.nck (.t 18)), oP 20 (.fad 1 (.t 19)), oP 21 (.ld 1 false (.t 20))]
def u36_8 : IC := .seq (.reg u36_8r) u36_9
def u36_11r : List IOper := [oP 22 (.mv (.t 5)), oP 4 (.mv (.t 22))]
def u36_11 : IC := .seq (.reg u36_11r) .ret
def u36_7 : IC := .seq u36_8 u36_11
def u36_3 : IC := .seq u36_4 u36_7
def u36_2r : List IOper := [oP 6 (.mv (.t 0)), ⟨some 7, .call 37 [.t 6], none⟩, oP 5 (.mv (.t 7))]
def u36_2 : IC := .seq (.reg u36_2r) u36_3
def u36_1r : List IOper := [oP 4 (.mv (.k (.int .i64 0)))]
def u36_1 : IC := .seq (.reg u36_1r) u36_2
def u36 : IFn := ⟨23, u36_1, [.tmp 4]⟩
end
theorem isU36 : IsFn Tryd.prog 36 u36 := by unfold IsFn; kernel_rfl
instance i36_6 : WR Tryd.prog 23 u36_6 (rE u36_6r [0, 5]) := ⟨mkE⟩
instance i36_5 : WR Tryd.prog 23 u36_5 (rCE (.t 14) u36_6 .skip [0, 5, 14]) := ⟨mkCE⟩
instance i36_4 : WR Tryd.prog 23 u36_4 (rS u36_4r u36_5 [0, 1, 5]) := ⟨mkS⟩
instance i36_10 : WR Tryd.prog 23 u36_10 (rS u36_10r .ret []) := ⟨mkS⟩
instance i36_9 : WR Tryd.prog 23 u36_9 (rCE (.t 21) u36_10 .skip [5, 21]) := ⟨mkCE⟩
instance i36_8 : WR Tryd.prog 23 u36_8 (rS u36_8r u36_9 [0, 5]) := ⟨mkS⟩
instance i36_11 : WR Tryd.prog 23 u36_11 (rS u36_11r .ret [5]) := ⟨mkS⟩
instance i36_7 : WR Tryd.prog 23 u36_7 (rQ u36_8 u36_11 [0, 5]) := ⟨mkQ⟩
instance i36_3 : WR Tryd.prog 23 u36_3 (rQ u36_4 u36_7 [0, 1, 5]) := ⟨mkQ⟩
instance i36_2 : WR Tryd.prog 23 u36_2 (rS u36_2r u36_3 [0, 1]) := ⟨mkS⟩
instance i36_1 : WR Tryd.prog 23 u36_1 (rS u36_1r u36_2 [0, 1]) := ⟨mkS⟩
attribute [go_sem] u36_6r u36_4r u36_10r u36_8r u36_11r u36_2r u36_1r
noncomputable section
def u38_8 : IC := .cond (.t 11) .skip (.exit 0)
def u38_7r : List IOper := [oP 10 (.mv (.t 6)), oP 11 (.bin .gtr (.t 10) (.k (.int .i64 0)))]
def u38_7 : IC := .seq (.reg u38_7r) u38_8
def u38_10r : List IOper := [oP 14 (.mv (.t 5)), oP 15 (.mv (.t 0)), ⟨some 16, .call 37 [.t 15], none⟩, ⟨some 17, .new (.bsl 1 1 #[.int .i64 0] [(0, .t 16)]), none⟩, ⟨some 18, .eff (.app 1 8 (.t 14) (.t 17)), none⟩, oP 5 (.mv (.t 18))]
def u38_10 : IC := .reg u38_10r
def u38_11r : List IOper := [oP 12 (.mv (.t 6)), oP 13 (.bin .sub (.t 12) (.k (.int .i64 1))), oP 6 (.mv (.t 13))]
def u38_11 : IC := .reg u38_11r
def u38_9 : IC := .seq (.blk 1 u38_10) u38_11
def u38_6 : IC := .seq u38_7 u38_9
def u38_5 : IC := .blk 0 (.loop u38_6)
def u38_4r : List IOper := [oP 7 (.mv (.t 0)), oP 8 (.mv (.t 1)), ⟨some 9, .call 36 [.t 7, .t 8], none⟩, oP 6 (.mv (.t 9))]
def u38_4 : IC := .seq (.reg u38_4r) u38_5
def u38_12r : List IOper := [oP 19 (.mv (.t 5)), oP 4 (.mv (.t 19))]
def u38_12 : IC := .seq (.reg u38_12r) .ret
def u38_3 : IC := .seq u38_4 u38_12
def u38_2r : List IOper := [oP 5 (.mv (.k (.slice none 0 0)))]
def u38_2 : IC := .seq (.reg u38_2r) u38_3
def u38_1r : List IOper := [oP 4 (.mv (.k (.slice none 0 0)))]
def u38_1 : IC := .seq (.reg u38_1r) u38_2
def u38 : IFn := ⟨20, u38_1, [.tmp 4]⟩
end
theorem isU38 : IsFn Tryd.prog 38 u38 := by unfold IsFn; kernel_rfl
instance i38_8 : WR Tryd.prog 20 u38_8 (rCE (.t 11) .skip (.exit 0) [0, 5, 6, 11]) := ⟨mkCE⟩
instance i38_7 : WR Tryd.prog 20 u38_7 (rS u38_7r u38_8 [0, 5, 6]) := ⟨mkS⟩
instance i38_10 : WR Tryd.prog 20 u38_10 (rE u38_10r [0, 5, 6]) := ⟨mkE⟩
instance i38_11 : WR Tryd.prog 20 u38_11 (rE u38_11r [0, 5, 6]) := ⟨mkE⟩
instance i38_9 : WR Tryd.prog 20 u38_9 (rB 1 u38_10 u38_11 [0, 5, 6]) := ⟨mkB⟩
instance i38_6 : WR Tryd.prog 20 u38_6 (rQ u38_7 u38_9 [0, 5, 6]) := ⟨mkQ⟩
instance i38_5 : WR Tryd.prog 20 u38_5 (rBE 0 (.loop u38_6) [0, 5, 6]) := ⟨mkBE⟩
instance i38_4 : WR Tryd.prog 20 u38_4 (rS u38_4r u38_5 [0, 1, 5]) := ⟨mkS⟩
instance i38_12 : WR Tryd.prog 20 u38_12 (rS u38_12r .ret [5]) := ⟨mkS⟩
instance i38_3 : WR Tryd.prog 20 u38_3 (rQ u38_4 u38_12 [0, 1, 5]) := ⟨mkQ⟩
instance i38_2 : WR Tryd.prog 20 u38_2 (rS u38_2r u38_3 [0, 1]) := ⟨mkS⟩
instance i38_1 : WR Tryd.prog 20 u38_1 (rS u38_1r u38_2 [0, 1]) := ⟨mkS⟩
attribute [go_sem] u38_7r u38_10r u38_11r u38_4r u38_12r u38_2r u38_1r
theorem c_rrnum (s : RS) (H : Hp) (cc t : Nat) (ht : H t = some (rdB s)) (htc : t < cc) :
    AC Tryd.prog 37 [.ptr t 0] H cc (fun v H' c' => v = I64 (rrNum s).1 ∧ H' = H.upd t (rdB (rrNum s).2)) := by
  obtain ⟨s, bd⟩ := s
  refine AC.body mixedU isU37 (Nat.le_of_ble_eq_true rfl) fun hfr => ?_
  show IW Tryd.prog 64 u37_1 ⟨argT _, _, _⟩ (rt [.tmp 2] _)
  cases bd with
  | true =>
    rw [rr_bad]
    repeat' ((first | with_reducible refine wr ?_ | ((with_reducible refine wb2 ?_ ?_) <;> (intro hb; try simp only [hb])) | fail) <;> try simp only [go_sem, seval])
    refine i_loop (fun _ : Unit => [(0, .ptr t 0), (3, .int .u64 0), (4, .int .u64 0)]) (fun _ => H) (fun _ c => cc ≤ c) (fun _ => 0) () (by simp [tmLe, tm, Tm.upd]) (Sub.refl _) (Nat.le_refl _) ?_
    rintro _ c hc
    repeat' ((first | with_reducible refine wr ?_ | ((with_reducible refine wb2 ?_ ?_) <;> (intro hb; try simp only [hb])) | fail) <;> try simp only [go_sem, seval, ht])
    exact ⟨_, _, GL.refl _ _, rfl, rfl⟩
  | false =>
    repeat' ((first | with_reducible refine wr ?_ | ((with_reducible refine wb2 ?_ ?_) <;> (intro hb; try simp only [hb])) | fail) <;> try simp only [go_sem, seval])
    refine i_loop (fun q : Nat × Nat => [(0, .ptr t 0), (3, .int .u64 (q.2 : Int)), (4, .int .u64 (q.1 : Int))]) (fun q => H.upd t (rdB (s.drop q.1, false)))
      (fun q c => cc ≤ c ∧ q.1 ≤ 5 ∧ q.1 ≤ s.length ∧ q.2 < 2 ^ (7 * q.1) ∧ rnL 5 0 0 s = rnL (5 - q.1) q.1 q.2 (s.drop q.1)) (fun q => 5 - q.1) (0, 0)
      (by simp [tmLe, tm, Tm.upd]) (fun j b hj => by
        by_cases e : j = t
        · subst e; rw [h_same] at hj; rw [ht]; exact hj
        · rw [h_ne e] at hj; exact hj) ⟨Nat.le_refl _, by simp, by simp, by simp, rfl⟩ ?_
    rintro ⟨i, z⟩ c ⟨hc, hk5, hkl, hz, hv⟩
    simp only at hk5 hkl hz hv
    simp only
    by_cases h5 : i < 5
    · have hd5 : decide ((i : Int) < 5) = true := by simp; omega
      by_cases h1 : i < s.length
      · have hl0 : (((s.drop i).length : Nat) : Int) = ((s.length - i : Nat) : Int) := by rw [List.length_drop]
        have hl1 : (((s.length - i : Nat) : Int) == 0) = false := by simp; omega
        obtain ⟨b, hb⟩ : ∃ b, b = s[i] := ⟨_, rfl⟩
        have hg : s[i]? = some b := by rw [hb]; exact List.getElem?_eq_getElem h1
        have hx : b.toNat % 128 < 128 := Nat.mod_lt _ (by omega)
        have hbl := b.toNat_lt
        have hidx := idx0 hg
        have hsl := sls1 h1
        have hrem : binR .rem (.int .u8 (b.toNat : Int)) (.int .u8 128) = some (.int .u8 ((b.toNat % 128 : Nat) : Int)) := by rw [r_rem (by omega)]; exact congrArg (fun x => some (DV.int .u8 x)) (Int.ofNat_tmod _ _).symm
        have hc64 := wu64 (n := ((b.toNat % 128 : Nat) : Int)) (by omega) (by omega)
        have hmul : IntKind.u64.wrap (7 * (i : Int)) = ((7 * i : Nat) : Int) := by rw [wu64 (by omega) (by omega)]; omega
        have hshl := shl64u (k := i) hx (by omega)
        have hor := or64 (k := i) hz hx (by omega)
        have hw : IntKind.u64.wrap ((i : Int) + 1) = ((i + 1 : Nat) : Int) := by rw [wu64 (by omega) (by omega)]; omega
        have hst := rnL_step (n := 4 - i) (z := z) hg
        rw [show 5 - i = 4 - i + 1 by omega, hst] at hv
        have hz' : z + b.toNat % 128 * 2 ^ (7 * i) < 2 ^ (7 * (i + 1)) := by
          have : b.toNat % 128 * 2 ^ (7 * i) ≤ 127 * 2 ^ (7 * i) := Nat.mul_le_mul_right _ (by omega)
          have e := pow7 i
          omega
        have hz8 : 2 ^ (7 * (i + 1)) ≤ 2 ^ 35 := Nat.pow_le_pow_right (by omega) (by omega)
        generalize z + b.toNat % 128 * 2 ^ (7 * i) = z' at *
        by_cases hlo : 128 ≤ b.toNat
        · have hd3 : decide ((b.toNat : Int) ≥ 128) = true := by simp; omega
          rw [if_pos hlo] at hv
          repeat' ((first | with_reducible refine wr ?_ | ((with_reducible refine wb2 ?_ ?_) <;> (intro hb; try simp only [hb])) | fail) <;> try simp only [go_sem, seval, hd5, hl0, hl1, hidx, hsl, hrem, hc64, hmul, hshl, hor, hw, hd3, h_same, h_upd2])
          exact ⟨(i + 1, z'), ⟨rfl, rfl⟩, Sub.refl _, inv ⟨hc, by simp only; omega, by simp only; omega, hz', by simp only; rw [hv]; congr 1; omega⟩, by simp only; omega⟩
        · have hd3 : decide ((b.toNat : Int) ≥ 128) = false := by simp; omega
          rw [if_neg hlo] at hv
          by_cases hzz : b.toNat = 0 ∧ i ≠ 0
          · rw [if_pos hzz] at hv
            have hd4 : ((b.toNat : Int) == 0) = true := by simp; omega
            have hd6 : decide ((i : Int) > 0) = true := by simp; omega
            have e : rrNum (s, false) = (0, (s.drop (i + 1), true)) := by rw [rrNum, if_neg (by simp), hv]
            rw [e]
            repeat' ((first | with_reducible refine wr ?_ | ((with_reducible refine wb2 ?_ ?_) <;> (intro hb; try simp only [hb])) | fail) <;> try simp only [go_sem, seval, hd5, hl0, hl1, hidx, hsl, hrem, hc64, hmul, hshl, hor, hw, hd3, hd4, hd6, h_same, h_upd2])
            exact ⟨_, _, GL.refl _ _, rfl, rfl⟩
          · rw [if_neg hzz] at hv
            have e : rrNum (s, false) = (unzig z', (s.drop (i + 1), false)) := by rw [rrNum, if_neg (by simp), hv]
            rw [e]
            have hsh := shr1 z'
            have hr2 : binR .rem (.int .u64 (z' : Int)) (.int .u64 2) = some (.int .u64 ((z' % 2 : Nat) : Int)) := by rw [r_rem (by omega)]; exact congrArg (fun x => some (DV.int .u64 x)) (Int.ofNat_tmod _ _).symm
            have hxo := xor64 (n := z' / 2) (by omega)
            have hno := not64 (z := z' / 2) (by omega)
            have wq := w64 (n := ((z' / 2 : Nat) : Int)) (by omega) (by omega)
            have hd7 : (((b.toNat : Int) == 0) && decide ((i : Int) > 0)) = false := by
              by_cases e0 : b.toNat = 0
              · have : i = 0 := Classical.byContradiction fun h => hzz ⟨e0, h⟩
                simp [this]
              · simp; omega
            by_cases h2z : z' % 2 = 1
            · have hd8 : (((z' % 2 : Nat) : Int) == 1) = true := by rw [h2z]; rfl
              have eu : unzig z' = -((z' / 2 : Nat) : Int) - 1 := by rw [unzig, if_pos h2z]
              rw [eu]
              by_cases e0 : b.toNat = 0
              · have hd4 : ((b.toNat : Int) == 0) = true := by simp; omega
                have hd6 : decide ((i : Int) > 0) = false := by simp; omega
                repeat' ((first | with_reducible refine wr ?_ | ((with_reducible refine wb2 ?_ ?_) <;> (intro hb; try simp only [hb])) | fail) <;> try simp only [go_sem, seval, hd5, hl0, hl1, hidx, hsl, hrem, hc64, hmul, hshl, hor, hw, hd3, hd4, hd6, hr2, hd8, hsh, un_xor, hxo, hno, h_same, h_upd2])
                exact ⟨_, _, GL.refl _ _, rfl, rfl⟩
              · have hd4 : ((b.toNat : Int) == 0) = false := by simp; omega
                repeat' ((first | with_reducible refine wr ?_ | ((with_reducible refine wb2 ?_ ?_) <;> (intro hb; try simp only [hb])) | fail) <;> try simp only [go_sem, seval, hd5, hl0, hl1, hidx, hsl, hrem, hc64, hmul, hshl, hor, hw, hd3, hd4, hr2, hd8, hsh, un_xor, hxo, hno, h_same, h_upd2])
                exact ⟨_, _, GL.refl _ _, rfl, rfl⟩
            · have hd8 : (((z' % 2 : Nat) : Int) == 1) = false := by simp; omega
              have eu : unzig z' = ((z' / 2 : Nat) : Int) := by rw [unzig, if_neg h2z]
              rw [eu]
              by_cases e0 : b.toNat = 0
              · have hd4 : ((b.toNat : Int) == 0) = true := by simp; omega
                have hd6 : decide ((i : Int) > 0) = false := by simp; omega
                repeat' ((first | with_reducible refine wr ?_ | ((with_reducible refine wb2 ?_ ?_) <;> (intro hb; try simp only [hb])) | fail) <;> try simp only [go_sem, seval, hd5, hl0, hl1, hidx, hsl, hrem, hc64, hmul, hshl, hor, hw, hd3, hd4, hd6, hr2, hd8, hsh, wq, h_same, h_upd2])
                exact ⟨_, _, GL.refl _ _, rfl, rfl⟩
              · have hd4 : ((b.toNat : Int) == 0) = false := by simp; omega
                repeat' ((first | with_reducible refine wr ?_ | ((with_reducible refine wb2 ?_ ?_) <;> (intro hb; try simp only [hb])) | fail) <;> try simp only [go_sem, seval, hd5, hl0, hl1, hidx, hsl, hrem, hc64, hmul, hshl, hor, hw, hd3, hd4, hr2, hd8, hsh, wq, h_same, h_upd2])
                exact ⟨_, _, GL.refl _ _, rfl, rfl⟩
      · have hl0 : (((s.drop i).length : Nat) : Int) = 0 := by rw [List.length_drop]; omega
        have e : rrNum (s, false) = (0, (s.drop i, true)) := by rw [rrNum, if_neg (by simp), hv, rnL_end (by omega)]
        rw [e]
        repeat' ((first | with_reducible refine wr ?_ | ((with_reducible refine wb2 ?_ ?_) <;> (intro hb; try simp only [hb])) | fail) <;> try simp only [go_sem, seval, hd5, hl0, h_same, h_upd2])
        exact ⟨_, _, GL.refl _ _, rfl, rfl⟩
    · have hd5 : decide ((i : Int) < 5) = false := by simp; omega
      have e : rrNum (s, false) = (0, (s.drop i, true)) := by rw [rrNum, if_neg (by simp), hv, rnL_end (by omega)]
      rw [e]
      repeat' ((first | with_reducible refine wr ?_ | ((with_reducible refine wb2 ?_ ?_) <;> (intro hb; try simp only [hb])) | fail) <;> try simp only [go_sem, seval, hd5, h_same, h_upd2])
      exact ⟨_, _, GL.refl _ _, rfl, rfl⟩
theorem c_rrcnt (s : RS) (most : Int) (H : Hp) (cc t : Nat) (ht : H t = some (rdB s)) (htc : t < cc) :
    AC Tryd.prog 36 [.ptr t 0, I64 most] H cc (fun v H' c' => v = I64 ((rrCnt most s).1 : Int) ∧ H' = H.upd t (rdB (rrCnt most s).2)) := by
  refine AC.body mixedU isU36 (Nat.le_of_ble_eq_true rfl) fun hfr => ?_
  show IW Tryd.prog 23 u36_1 ⟨argT _, _, _⟩ (rt [.tmp 4] _)
  repeat' ((first | with_reducible refine wr ?_ | ((with_reducible refine wb2 ?_ ?_) <;> (intro hb; try simp only [hb])) | fail) <;> try simp only [go_sem, seval])
  refine AC.call (c_rrnum s H cc t ht htc) ?_
  rintro v H' c1 ⟨rfl, rfl⟩ hc
  by_cases h1 : (rrNum s).1 < 0
  · have hd1 : decide ((rrNum s).1 < 0) = true := by simpa using h1
    have e : rrCnt most s = (0, ((rrNum s).2.1, true)) := by rw [rrCnt, if_pos (.inl h1)]
    simp only [go_sem, seval, hd1]
    repeat' ((first | with_reducible refine wr ?_ | ((with_reducible refine wb2 ?_ ?_) <;> (intro hb; try simp only [hb])) | fail) <;> try simp only [go_sem, seval, hd1])
    rw [e]
    exact ⟨_, _, GL.refl _ _, rfl, by rw [h_upd2]⟩
  have hd1 : decide ((rrNum s).1 < 0) = false := by simpa using h1
  by_cases h2 : (rrNum s).1 > most
  · have hd2 : decide ((rrNum s).1 > most) = true := by simpa using h2
    have e : rrCnt most s = (0, ((rrNum s).2.1, true)) := by rw [rrCnt, if_pos (.inr h2)]
    simp only [go_sem, seval, hd1, hd2]
    repeat' ((first | with_reducible refine wr ?_ | ((with_reducible refine wb2 ?_ ?_) <;> (intro hb; try simp only [hb])) | fail) <;> try simp only [go_sem, seval, hd1, hd2])
    rw [e]
    exact ⟨_, _, GL.refl _ _, rfl, by rw [h_upd2]⟩
  · have hd2 : decide ((rrNum s).1 > most) = false := by simpa using h2
    by_cases h3 : (rrNum s).2.2 = true
    · have e : rrCnt most s = (0, (rrNum s).2) := by rw [rrCnt, if_neg (by omega), if_pos h3]
      simp only [go_sem, seval, hd1, hd2, h3]
      repeat' ((first | with_reducible refine wr ?_ | ((with_reducible refine wb2 ?_ ?_) <;> (intro hb; try simp only [hb])) | fail) <;> try simp only [go_sem, seval, hd1, hd2, h3])
      rw [e]
      exact ⟨_, _, GL.refl _ _, rfl, by simp only [rdB, h3]⟩
    · have h3' : (rrNum s).2.2 = false := by simpa using h3
      have e : rrCnt most s = ((rrNum s).1.toNat, (rrNum s).2) := by rw [rrCnt, if_neg (by omega), if_neg h3]
      simp only [go_sem, seval, hd1, hd2, h3']
      repeat' ((first | with_reducible refine wr ?_ | ((with_reducible refine wb2 ?_ ?_) <;> (intro hb; try simp only [hb])) | fail) <;> try simp only [go_sem, seval, hd1, hd2, h3'])
      rw [e]
      exact ⟨_, _, GL.refl _ _, by simp only; congr 1; omega, by simp only [rdB, h3']⟩
theorem c_rrnums (s : RS) (most : Int) (hm : most ≤ 1000) (H : Hp) (cc t : Nat) (ht : H t = some (rdB s)) (htc : t < cc) :
    AC Tryd.prog 38 [.ptr t 0, I64 most] H cc (fun v H' c' => v = ints (rrNums most s).1 ∧ H' = H.upd t (rdB (rrNums most s).2)) := by
  refine AC.body mixedU isU38 (Nat.le_of_ble_eq_true rfl) fun hfr => ?_
  show IW Tryd.prog 20 u38_1 ⟨argT _, _, _⟩ (rt [.tmp 4] _)
  repeat' ((first | with_reducible refine wr ?_ | ((with_reducible refine wb2 ?_ ?_) <;> (intro hb; try simp only [hb])) | fail) <;> try simp only [go_sem, seval])
  refine AC.call (c_rrcnt s most H cc t ht htc) ?_
  rintro v H' c1 ⟨rfl, rfl⟩ hc
  obtain ⟨n, hn⟩ : ∃ n, n = (rrCnt most s).1 := ⟨_, rfl⟩
  obtain ⟨st, hst⟩ : ∃ st, st = (rrCnt most s).2 := ⟨_, rfl⟩
  have hn1 : n ≤ 1000 := by rw [hn]; exact rrCnt_le hm
  have e : rrNums most s = rrAll n st := by rw [hn, hst]; rfl
  rw [e]
  rw [← hn, ← hst]
  simp only [go_sem, seval]
  repeat' ((first | with_reducible refine wr ?_ | ((with_reducible refine wb2 ?_ ?_) <;> (intro hb; try simp only [hb])) | fail) <;> try simp only [go_sem, seval])
  refine i_loop (fun q : Nat × Option Nat × List Int × RS => [(0, .ptr t 0), (5, todoV q.2.1 q.2.2.1.length), (6, I64 ((n - q.1 : Nat) : Int))]) (fun q => optH (H.upd t (rdB q.2.2.2)) q.2.1 ⟨1, true, q.2.2.1.map I64⟩)
    (fun q c => cc ≤ c ∧ q.1 ≤ n ∧ q.2.2.1.length = q.1 ∧ (q.2.1 = none → q.2.2.1 = []) ∧ (∀ i, q.2.1 = some i → cc ≤ i ∧ i < c) ∧ (q.2.2.1 ++ (rrAll (n - q.1) q.2.2.2).1, (rrAll (n - q.1) q.2.2.2).2) = rrAll n st) (fun q => n - q.1) (0, none, [], st)
    (by simp [tmLe, tm, Tm.upd, todoV]) (Sub.refl _) ⟨hc, Nat.zero_le _, rfl, fun _ => rfl, (fun i hi => by cases hi), rfl⟩ ?_
  rintro ⟨j, o, l, u⟩ c ⟨hc2, hj, hlj, hno, ho, hv⟩
  simp only at hj hlj hno ho hv
  simp only
  have hHt : optH (H.upd t (rdB u)) o ⟨1, true, l.map I64⟩ t = some (rdB u) := by rw [optH_ne (fun i hi => by have := ho i hi; omega), h_same]
  by_cases hlt : j < n
  · have hd : decide (((n - j : Nat) : Int) > 0) = true := by simp; omega
    have hw : IntKind.i64.wrap (((n - j : Nat) : Int) - 1) = ((n - (j + 1) : Nat) : Int) := by rw [w64 (by omega) (by omega)]; omega
    repeat' ((first | with_reducible refine wr ?_ | ((with_reducible refine wb2 ?_ ?_) <;> (intro hb; try simp only [hb])) | fail) <;> try simp only [go_sem, seval, hd])
    refine AC.call (c_rrnum u _ c t hHt (by omega)) ?_
    rintro v H' c2 ⟨rfl, rfl⟩ hc3
    have ne0 : ¬ t = c2 := by omega
    have ne1 : ¬ t = c2 + 1 := by omega
    have ne2 : ¬ c2 = t := by omega
    have ne3 : ¬ c2 = c2 + 1 := by omega
    have ne4 : ¬ c2 + 1 = t := by omega
    have ne5 : ¬ c2 + 1 = c2 := by omega
    simp only [go_sem, seval, ne0, ne1, ne2, ne3, ne4, ne5]
    repeat' ((first | with_reducible refine wr ?_ | ((with_reducible refine wb2 ?_ ?_) <;> (intro hb; try simp only [hb])) | fail) <;> try simp only [go_sem, seval, hw, ne0, ne1, ne2, ne3, ne4, ne5])
    refine k_eval (r_apptodo (cs := l.map I64) (fun e => ⟨by rw [hno e]; rfl, by rw [hno e]; rfl⟩) (fun i hi => ?_) (by simp) (by omega) (by omega) (by omega)) ?_
    · have := ho i hi
      rw [h_ne (by omega), h_ne (by omega)]; subst hi; exact h_same
    simp only [go_sem, seval, hw, ne0, ne1, ne2, ne3, ne4, ne5]
    repeat' ((first | with_reducible refine wr ?_ | ((with_reducible refine wb2 ?_ ?_) <;> (intro hb; try simp only [hb])) | fail) <;> try simp only [go_sem, seval, hw, ne0, ne1, ne2, ne3, ne4, ne5])
    refine ⟨(j + 1, some (c2 + 1), l ++ [(rrNum u).1], (rrNum u).2), ⟨by simp only [List.length_append, List.length_singleton]; rfl, rfl⟩, ?_, inv ⟨by omega, hlt, by simp [hlj], (fun h => by cases h), (fun i hi => by cases hi; omega), ?_⟩, by simp only; omega⟩
    · intro jj b hj
      simp only [optH] at hj
      by_cases e1 : jj = c2 + 1
      · subst e1; rw [h_same] at hj ⊢; rw [← hj]; simp
      · rw [h_ne e1] at hj ⊢
        by_cases e2 : jj = t
        · subst e2; rw [h_same] at hj; rw [delO_ne (fun i hi => by have := ho i hi; omega), h_ne (by omega), h_same]; exact hj
        · rw [h_ne e2] at hj
          have hjc : jj < cc := Classical.byContradiction fun h => by rw [hfr jj (by omega)] at hj; cases hj
          rw [delO_ne (fun i hi => by have := ho i hi; omega), h_ne (by omega), h_ne e2, optH_ne (fun i hi => by have := ho i hi; omega), h_ne e2]; exact hj
    · rw [← hv, show n - j = n - (j + 1) + 1 by omega]
      simp [rrAll]
  · have hd : decide (((n - j : Nat) : Int) > 0) = false := by simp; omega
    repeat' ((first | with_reducible refine wr ?_ | ((with_reducible refine wb2 ?_ ?_) <;> (intro hb; try simp only [hb])) | fail) <;> try simp only [go_sem, seval, hd])
    have hjn : n - j = 0 := by omega
    rw [hjn] at hv
    have e1 : (rrAll n st).1 = l := by rw [← hv]; simp [rrAll]
    have e2 : (rrAll n st).2 = u := by rw [← hv]; simp [rrAll]
    rw [e1, e2]
    refine ⟨_, _, ?_, rfl, rfl⟩
    cases o with
    | none =>
      obtain rfl := hno rfl
      exact GL.view fun ρ vs hA => ⟨hA.1, fun i x y hx hy => by
        cases i with
        | zero => simp at hx; subst hx; exact (hA.2 0 _ y rfl hy).snil_lst
        | succ i => simp at hx⟩
    | some a =>
      have := ho a rfl
      refine GL.frzS (id := a) h_same rfl (fun jj => ?_) (.cons _ _ _ _ (fz_slc (u := 1) (by simp) (ints_unit l) ⟨[], by simp [cells_ints]⟩) .nil)
      by_cases e1 : jj = a
      · subst e1; left; rw [h_ne (by omega)]; exact hfr _ (by omega)
      · right; exact ⟨e1, (h_ne e1).symm⟩
end Go.Proofs.YtcallbfckjlagaaDoor
set_option maxHeartbeats 4000000
set_option maxRecDepth 100000
set_option linter.unusedSimpArgs false
set_option linter.unusedVariables false
namespace Go.Proofs.YtcallbfckjlagaaDoor
open Go.Eng (IC IOper DReg IFn IsFn)
open Go.Sym Go.Pb
noncomputable section
def u34_8 : IC := .cond (.t 15) .skip (.exit 0)
def u34_7r : List IOper := [oP 5 (.mv (.t 4)), oP 6 (.mv (.t 0)), oP 7 (.nck (.t 6)), oP 8 (.fad 0 (.t 7)), oP 9 (.ld 1 false (.t 8)), oP 10 (.lens (.t 9)), oP 11 (.bin .lss (.t 5) (.t 10)), oP 12 (.mv (.t 11)), oG 13 (.mv (.t 4)) 12, oG 14 (.bin .lss (.t 13) (.k (.int .i64 8))) 12, oP 15 (.pick (.t 12) (.t 14) (.k (.bool false)))]
def u34_7 : IC := .seq (.reg u34_7r) u34_8
def u34_17r : List IOper := [oP 51 (.mv (.t 3)), oP 52 (.bin .quo (.t 51) (.k (.int .u64 2))), oP 53 (.cvi .i64 (.t 52)), oP 54 (.un .neg (.t 53)), oP 55 (.bin .sub (.t 54) (.k (.int .i64 1))), oP 2 (.mv (.t 55))]
def u34_17 : IC := .seq (.reg u34_17r) .ret
def u34_16 : IC := .cond (.t 50) u34_17 .skip
def u34_15r : List IOper := [oP 48 (.mv (.t 3)), oP 49 (.bin .rem (.t 48) (.k (.int .u64 2))), oP 50 (.bin .eql (.t 49) (.k (.int .u64 1)))]
def u34_15 : IC := .seq (.reg u34_15r) u34_16
def u34_18r : List IOper := [oP 56 (.mv (.t 3)), oP 57 (.bin .quo (.t 56) (.k (.int .u64 2))), oP 58 (.cvi .i64 (.t 57)), oP 2 (.mv (.t 58))]
def u34_18 : IC := .seq (.reg u34_18r) .ret
def u34_14 : IC := .seq u34_15 u34_18
def u34_13r : List IOper := [oP 38 (.mv (.t 0)), oP 39 (.mv (.t 0)), oP 40 (.nck (.t 39)), oP 41 (.fad 0 (.t 40)), oP 42 (.ld 1 false (.t 41)), oP 43 (.mv (.t 4)), oP 44 (.bin .add (.t 43) (.k (.int .i64 1))), oP 45 (.sls (.t 42) (some (.t 44)) none), oP 46 (.nck (.t 38)), oP 47 (.fad 0 (.t 46)), ⟨none, .eff (.st 1 (.t 47) (.t 45)), none⟩]
def u34_13 : IC := .seq (.reg u34_13r) u34_14
def u34_12 : IC := .cond (.t 37) u34_13 .skip
def u34_11r : List IOper := [oP 31 (.mv (.t 0)), oP 32 (.nck (.t 31)), oP 33 (.fad 0 (.t 32)), oP 34 (.ld 1 false (.t 33)), oP 35 (.mv (.t 4)), oP 36 (.idx (.t 34) (.t 35)), oP 37 (.bin .lss (.t 36) (.k (.int .u8 128)))]
def u34_11 : IC := .seq (.reg u34_11r) u34_12
def u34_10r : List IOper := [oP 18 (.mv (.t 3)), oP 19 (.mv (.t 0)), oP 20 (.nck (.t 19)), oP 21 (.fad 0 (.t 20)), oP 22 (.ld 1 false (.t 21)), oP 23 (.mv (.t 4)), oP 24 (.idx (.t 22) (.t 23)), oP 25 (.bin .and (.t 24) (.k (.int .u8 127))), oP 26 (.cvi .u64 (.t 25)), oP 27 (.mv (.t 4)), oP 28 (.bin .mul (.k (.int .i64 7)) (.t 27)), oP 29 (.bin .shl (.t 26) (.t 28)), oP 30 (.bin .or (.t 18) (.t 29)), oP 3 (.mv (.t 30))]
def u34_10 : IC := .seq (.reg u34_10r) u34_11
def u34_19r : List IOper := [oP 16 (.mv (.t 4)), oP 17 (.bin .add (.t 16) (.k (.int .i64 1))), oP 4 (.mv (.t 17))]
def u34_19 : IC := .reg u34_19r
def u34_9 : IC := .seq (.blk 1 u34_10) u34_19
def u34_6 : IC := .seq u34_7 u34_9
def u34_5 : IC := .blk 0 (.loop u34_6)
def u34_4r : List IOper := [oP 4 (.mv (.k (.int .i64 0)))]
def u34_4 : IC := .seq (.reg u34_4r) u34_5
def u34_21r : List IOper := [oP 2 (.mv (.k (.int .i64 0)))]
def u34_21 : IC := .seq (.reg u34_21r) .ret
def u34_20r : List IOper := [oP 59 (.mv (.t 0)), oP 60 (.mv (.t 0)), oP 61 (.nck (.t 59)), oP 62 (.fad 1 (.t 61)), ⟨none, .eff (.st 1 (.t 62) (.k (.bool true))), none⟩, oP 63 (.nck (.t 60)), oP 64 (.fad 0 (.t 63)), ⟨none, .eff (.st 1 (.t 64) (.k (.string ⟨#[]⟩))), none⟩]
def u34_20 : IC := .seq (.reg u34_20r) u34_21
def u34_3 : IC := .seq u34_4 u34_20
def u34_2r : List IOper := [oP 3 (.mv (.k (.int .u64 0)))]
def u34_2 : IC := .seq (.reg u34_2r) u34_3
def u34_1r : List IOper := [oP 2 (.mv (.k (.int .i64 0)))]
def u34_1 : IC := .seq (.reg u34_1r) u34_2
def u34 : IFn := ⟨65, u34_1, [.tmp 2]⟩
end
theorem isU34 : IsFn Tryd.prog 34 u34 := by unfold IsFn; kernel_rfl
instance i34_8 : WR Tryd.prog 65 u34_8 (rCE (.t 15) .skip (.exit 0) [0, 3, 4, 15]) := ⟨mkCE⟩
instance i34_7 : WR Tryd.prog 65 u34_7 (rS u34_7r u34_8 [0, 3, 4]) := ⟨mkS⟩
instance i34_17 : WR Tryd.prog 65 u34_17 (rS u34_17r .ret [3]) := ⟨mkS⟩
instance i34_16 : WR Tryd.prog 65 u34_16 (rCE (.t 50) u34_17 .skip [3, 50]) := ⟨mkCE⟩
instance i34_15 : WR Tryd.prog 65 u34_15 (rS u34_15r u34_16 [3]) := ⟨mkS⟩
instance i34_18 : WR Tryd.prog 65 u34_18 (rS u34_18r .ret [3]) := ⟨mkS⟩
instance i34_14 : WR Tryd.prog 65 u34_14 (rQ u34_15 u34_18 [3]) := ⟨mkQ⟩
instance i34_13 : WR Tryd.prog 65 u34_13 (rS u34_13r u34_14 [0, 3, 4]) := ⟨mkS⟩
instance i34_12 : WR Tryd.prog 65 u34_12 (rCE (.t 37) u34_13 .skip [0, 3, 4, 37]) := ⟨mkCE⟩
instance i34_11 : WR Tryd.prog 65 u34_11 (rS u34_11r u34_12 [0, 3, 4]) := ⟨mkS⟩
instance i34_10 : WR Tryd.prog 65 u34_10 (rS u34_10r u34_11 [0, 3, 4]) := ⟨mkS⟩
instance i34_19 : WR Tryd.prog 65 u34_19 (rE u34_19r [0, 3, 4]) := ⟨mkE⟩
instance i34_9 : WR Tryd.prog 65 u34_9 (rB 1 u34_10 u34_19 [0, 3, 4]) := ⟨mkB⟩
instance i34_6 : WR Tryd.prog 65 u34_6 (rQ u34_7 u34_9 [0, 3, 4]) := ⟨mkQ⟩
instance i34_5 : WR Tryd.prog 65 u34_5 (rBE 0 (.loop u34_6) [0, 3, 4]) := ⟨mkBE⟩
instance i34_4 : WR Tryd.prog 65 u34_4 (rS u34_4r u34_5 [0, 3]) := ⟨mkS⟩
instance i34_21 : WR Tryd.prog 65 u34_21 (rS u34_21r .ret []) := ⟨mkS⟩
instance i34_20 : WR Tryd.prog 65 u34_20 (rS u34_20r u34_21 [0]) := ⟨mkS⟩
instance i34_3 : WR Tryd.prog 65 u34_3 (rQ u34_4 u34_20 [0, 3]) := ⟨mkQ⟩
instance i34_2 : WR Tryd.prog 65 u34_2 (rS u34_2r u34_3 [0]) := ⟨mkS⟩
instance i34_1 : WR Tryd.prog 65 u34_1 (rS u34_1r u34_2 [0]) := ⟨mkS⟩
attribute [go_sem] u34_7r u34_17r u34_15r u34_18r u34_13r u34_11r u34_10r u34_19r u34_4r u34_21r u34_20r u34_2r u34_1r
noncomputable section
def u33_7r : List IOper := [oP 2 (.mv (.k (.int .i64 0)))]
def u33_7 : IC := .seq (.reg u33_7r) .ret
def u33_6r : List IOper := [oP 17 (.mv (.t 0)), oP 18 (.mv (.t 0)), oP 19 (.nck (.t 17)), oP 20 (.fad 1 (.t 19)), ⟨none, .eff (.st 1 (.t 20) (.k (.bool true))), none⟩, oP 21 (.nck (.t 18)), oP 22 (.fad 0 (.t 21)), ⟨none, .eff (.st 1 (.t 22) (.k (.string ⟨#[]⟩))), none⟩]
def u33_6 : IC := .seq (.reg u33_6r) u33_7
def u33_5 : IC := .cond (.t 16) u33_6 .skip
def u33_4r : List IOper := [oP 6 (.mv (.t 3)), oP 7 (.bin .lss (.t 6) (.k (.int .i64 0))), oP 8 (.mv (.t 7)), ⟨some 9, .pur (.mv (.t 3)), some (8, false)⟩, ⟨some 10, .pur (.mv (.t 0)), some (8, false)⟩, ⟨some 11, .pur (.nck (.t 10)), some (8, false)⟩, ⟨some 12, .pur (.fad 0 (.t 11)), some (8, false)⟩, ⟨some 13, .pur (.ld 1 false (.t 12)), some (8, false)⟩, ⟨some 14, .pur (.lens (.t 13)), some (8, false)⟩, ⟨some 15, .pur (.bin .gtr (.t 9) (.t 14)), some (8, false)⟩, oP 16 (.pick (.t 8) (.k (.bool true)) (.t 15))]
def u33_4 : IC := .seq (.reg u33_4r) u33_5
def u33_8r : List IOper := [oP 23 (.mv (.t 3)), oP 2 (.mv (.t 23))]
def u33_8 : IC := .seq (.reg u33_8r) .ret
def u33_3 : IC := .seq u33_4 u33_8
def u33_2r : List IOper := [oP 4 (.mv (.t 0)), ⟨some 5, .call 34 [.t 4], none⟩, oP 3 (.mv (.t 5))]
def u33_2 : IC := .seq (.reg u33_2r) u33_3
def u33_1r : List IOper := [oP 2 (.mv (.k (.int .i64 0)))]
def u33_1 : IC := .seq (.reg u33_1r) u33_2
def u33 : IFn := ⟨24, u33_1, [.tmp 2]⟩
end
theorem isU33 : IsFn Tryd.prog 33 u33 := by unfold IsFn; kernel_rfl
instance i33_7 : WR Tryd.prog 24 u33_7 (rS u33_7r .ret []) := ⟨mkS⟩
instance i33_6 : WR Tryd.prog 24 u33_6 (rS u33_6r u33_7 [0]) := ⟨mkS⟩
instance i33_5 : WR Tryd.prog 24 u33_5 (rCE (.t 16) u33_6 .skip [0, 3, 16]) := ⟨mkCE⟩
instance i33_4 : WR Tryd.prog 24 u33_4 (rS u33_4r u33_5 [0, 3]) := ⟨mkS⟩
instance i33_8 : WR Tryd.prog 24 u33_8 (rS u33_8r .ret [3]) := ⟨mkS⟩
instance i33_3 : WR Tryd.prog 24 u33_3 (rQ u33_4 u33_8 [0, 3]) := ⟨mkQ⟩
instance i33_2 : WR Tryd.prog 24 u33_2 (rS u33_2r u33_3 [0]) := ⟨mkS⟩
instance i33_1 : WR Tryd.prog 24 u33_1 (rS u33_1r u33_2 [0]) := ⟨mkS⟩
attribute [go_sem] u33_7r u33_6r u33_4r u33_8r u33_2r u33_1r
noncomputable section
def u35_10r : List IOper := [oP 13 (.mv (.t 3)), oP 14 (.mv (.t 4)), oP 15 (.mv (.t 0)), ⟨some 16, .call 34 [.t 15], none⟩, oP 17 (.iad 1 (.t 13) (.t 14)), ⟨none, .eff (.st 1 (.t 17) (.t 16)), none⟩]
def u35_10 : IC := .reg u35_10r
def u35_9r : List IOper := [oP 12 (.mv (.t 10)), oP 4 (.mv (.t 12))]
def u35_9 : IC := .seq (.reg u35_9r) u35_10
def u35_11r : List IOper := [oP 18 (.bin .add (.t 10) (.k (.int .i64 1))), oP 10 (.mv (.t 18))]
def u35_11 : IC := .reg u35_11r
def u35_8 : IC := .seq (.blk 1 u35_9) u35_11
def u35_7 : IC := .seq (.cond (.t 11) .skip (.exit 0)) u35_8
def u35_6r : List IOper := [oP 11 (.bin .lss (.t 10) (.t 9))]
def u35_6 : IC := .seq (.reg u35_6r) u35_7
def u35_5 : IC := .blk 0 (.loop u35_6)
def u35_4r : List IOper := [oP 8 (.mv (.t 3)), oP 9 (.len (.t 8)), oP 10 (.mv (.k (.int .i64 0)))]
def u35_4 : IC := .seq (.reg u35_4r) u35_5
def u35_12r : List IOper := [oP 19 (.mv (.t 3)), oP 2 (.mv (.t 19))]
def u35_12 : IC := .seq (.reg u35_12r) .ret
def u35_3 : IC := .seq u35_4 u35_12
def u35_2r : List IOper := [oP 5 (.mv (.t 0)), ⟨some 6, .call 33 [.t 5], none⟩, ⟨some 7, .new (.msl 1 8 #[.int .i64 0] (.t 6) (.t 6)), none⟩, oP 3 (.mv (.t 7))]
def u35_2 : IC := .seq (.reg u35_2r) u35_3
def u35_1r : List IOper := [oP 2 (.mv (.k (.slice none 0 0)))]
def u35_1 : IC := .seq (.reg u35_1r) u35_2
def u35 : IFn := ⟨20, u35_1, [.tmp 2]⟩
end
theorem isU35 : IsFn Tryd.prog 35 u35 := by unfold IsFn; kernel_rfl
instance i35_10 : WR Tryd.prog 20 u35_10 (rE u35_10r [0, 3, 4, 9, 10]) := ⟨mkE⟩
instance i35_9 : WR Tryd.prog 20 u35_9 (rS u35_9r u35_10 [0, 3, 9, 10]) := ⟨mkS⟩
instance i35_11 : WR Tryd.prog 20 u35_11 (rE u35_11r [0, 3, 9, 10]) := ⟨mkE⟩
instance i35_8 : WR Tryd.prog 20 u35_8 (rB 1 u35_9 u35_11 [0, 3, 9, 10]) := ⟨mkB⟩
instance i35_7 : WR Tryd.prog 20 u35_7 (rC (.t 11) .skip (.exit 0) u35_8 [0, 3, 9, 10, 11]) := ⟨mkC⟩
instance i35_6 : WR Tryd.prog 20 u35_6 (rS u35_6r u35_7 [0, 3, 9, 10]) := ⟨mkS⟩
instance i35_5 : WR Tryd.prog 20 u35_5 (rBE 0 (.loop u35_6) [0, 3, 9, 10]) := ⟨mkBE⟩
instance i35_4 : WR Tryd.prog 20 u35_4 (rS u35_4r u35_5 [0, 3]) := ⟨mkS⟩
instance i35_12 : WR Tryd.prog 20 u35_12 (rS u35_12r .ret [3]) := ⟨mkS⟩
instance i35_3 : WR Tryd.prog 20 u35_3 (rQ u35_4 u35_12 [0, 3]) := ⟨mkQ⟩
instance i35_2 : WR Tryd.prog 20 u35_2 (rS u35_2r u35_3 [0]) := ⟨mkS⟩
instance i35_1 : WR Tryd.prog 20 u35_1 (rS u35_1r u35_2 [0]) := ⟨mkS⟩
attribute [go_sem] u35_10r u35_9r u35_11r u35_6r u35_4r u35_12r u35_2r u35_1r
theorem c_rnum (s : RS) (hs : s.1.length ≤ 1000000) (H : Hp) (cc t : Nat) (ht : H t = some (rdB s)) (htc : t < cc) :
    AC Tryd.prog 34 [.ptr t 0] H cc (fun v H' c' => v = I64 (rdNum s).1 ∧ H' = H.upd t (rdB (rdNum s).2)) := by
  obtain ⟨s, bd⟩ := s
  simp only at hs
  refine AC.body mixedU isU34 (Nat.le_of_ble_eq_true rfl) fun hfr => ?_
  show IW Tryd.prog 65 u34_1 ⟨argT _, _, _⟩ (rt [.tmp 2] _)
  repeat' ((first | with_reducible refine wr ?_ | ((with_reducible refine wb2 ?_ ?_) <;> (intro hb; try simp only [hb])) | fail) <;> try simp only [go_sem, seval])
  refine i_loop (fun q : Nat × Nat => [(0, .ptr t 0), (3, .int .u64 (q.2 : Int)), (4, I64 q.1)]) (fun _ => H) (fun q c => cc ≤ c ∧ q.1 ≤ 8 ∧ q.1 ≤ s.length ∧ q.2 < 2 ^ (7 * q.1) ∧ varL 8 0 0 s = varL (8 - q.1) q.1 q.2 (s.drop q.1)) (fun q => 8 - q.1) (0, 0) (by simp [tmLe, tm, Tm.upd]) (Sub.refl _) (by simp) ?_
  rintro ⟨k, z⟩ c ⟨hc, hk8, hkl, hz, hv⟩
  simp only at hk8 hkl hz hv
  by_cases hlt : k < s.length ∧ k < 8
  · obtain ⟨h1, h2⟩ := hlt
    have hd1 : decide ((k : Int) < s.length) = true := by simpa using h1
    have hd2 : decide ((k : Int) < 8) = true := by simp; omega
    obtain ⟨b, hb⟩ : ∃ b, b = s[k] := ⟨_, rfl⟩
    have hg : s[k]? = some b := by rw [hb]; exact List.getElem?_eq_getElem h1
    have hx : b.toNat % 128 < 128 := Nat.mod_lt _ (by omega)
    have hand := and127 b
    have hc64 := wu64 (n := ((b.toNat % 128 : Nat) : Int)) (by omega) (by omega)
    have hmul : IntKind.i64.wrap (7 * (k : Int)) = ((7 * k : Nat) : Int) := by rw [w64 (by omega) (by omega)]; omega
    have hshl := shl64 (k := k) hx (by omega)
    have hor := or64 (k := k) hz hx (by omega)
    have hw : IntKind.i64.wrap ((k : Int) + 1) = ((k + 1 : Nat) : Int) := by rw [w64 (by omega) (by omega)]; omega
    have hst := varL_step (n := 7 - k) (z := z) hg
    have e8 : 8 - k = 7 - k + 1 := by omega
    rw [e8, hst] at hv
    have hz' : z + b.toNat % 128 * 2 ^ (7 * k) < 2 ^ (7 * (k + 1)) := by
      have : b.toNat % 128 * 2 ^ (7 * k) ≤ 127 * 2 ^ (7 * k) := Nat.mul_le_mul_right _ (by omega)
      have e := pow7 k
      omega
    have hz8 : 2 ^ (7 * (k + 1)) ≤ 2 ^ 56 := Nat.pow_le_pow_right (by omega) (by omega)
    generalize z + b.toNat % 128 * 2 ^ (7 * k) = z' at *
    by_cases hlo : b.toNat < 128
    · have hd3 : decide ((b.toNat : Int) < 128) = true := by simp; omega
      rw [if_pos hlo] at hv
      have hsl := sls_from (s := s) (k := k + 1) (by omega)
      have hq := quo2 (z := z') (by omega)
      have hr := rem2 z'
      have hn2 : ¬(2 : Int) = 0 := by omega
      have wq := w64 (n := ((z' / 2 : Nat) : Int)) (by omega) (by omega)
      have e : rdNum (s, bd) = (unzig z', (s.drop (k + 1), bd)) := by rw [rdNum, hv]
      rw [e]
      by_cases h2z : z' % 2 = 1
      · have hd4 : (((z' % 2 : Nat) : Int) == 1) = true := by rw [h2z]; rfl
        have w1 : IntKind.i64.wrap (0 - ((z' / 2 : Nat) : Int)) = -((z' / 2 : Nat) : Int) := by rw [w64 (by omega) (by omega)]; omega
        have w2 := w64 (n := -((z' / 2 : Nat) : Int) - 1) (by omega) (by omega)
        repeat' ((first | with_reducible refine wr ?_ | ((with_reducible refine wb2 ?_ ?_) <;> (intro hb; try simp only [hb])) | fail) <;> try simp only [go_sem, seval, ht, hd1, hd2, hg, hand, hc64, hmul, hshl, hor, hw, hd3, hsl, r_quo, r_rem, hq, hr, hn2, wq, hd4, w1, w2])
        exact ⟨_, _, GL.refl _ _, by rw [unzig, if_pos h2z], rfl⟩
      · have hd4 : (((z' % 2 : Nat) : Int) == 1) = false := by simp; omega
        repeat' ((first | with_reducible refine wr ?_ | ((with_reducible refine wb2 ?_ ?_) <;> (intro hb; try simp only [hb])) | fail) <;> try simp only [go_sem, seval, ht, hd1, hd2, hg, hand, hc64, hmul, hshl, hor, hw, hd3, hsl, r_quo, r_rem, hq, hr, hn2, wq, hd4])
        exact ⟨_, _, GL.refl _ _, by rw [unzig, if_neg h2z], rfl⟩
    · have hd3 : decide ((b.toNat : Int) < 128) = false := by simp; omega
      rw [if_neg hlo] at hv
      repeat' ((first | with_reducible refine wr ?_ | ((with_reducible refine wb2 ?_ ?_) <;> (intro hb; try simp only [hb])) | fail) <;> try simp only [go_sem, seval, ht, hd1, hd2, hg, hand, hc64, hmul, hshl, hor, hw, hd3])
      exact ⟨(k + 1, z'), by simp, Sub.refl _, inv ⟨by omega, by simp only; omega, by simp only; omega, hz', by simp only; rw [hv]; congr 1; omega⟩, by simp only; omega⟩
  · have e : rdNum (s, bd) = (0, ([], true)) := by
      rw [rdNum, hv, varL_end (by omega)]
    rw [e]
    by_cases h1 : k < s.length
    · have hd1 : decide ((k : Int) < s.length) = true := by simpa using h1
      have hd2 : decide ((k : Int) < 8) = false := by simp; omega
      repeat' ((first | with_reducible refine wr ?_ | ((with_reducible refine wb2 ?_ ?_) <;> (intro hb; try simp only [hb])) | fail) <;> try simp only [go_sem, seval, ht, hd1, hd2])
      exact ⟨_, _, GL.refl _ _, rfl, h_upd2⟩
    · have hd1 : decide ((k : Int) < s.length) = false := by simp; omega
      repeat' ((first | with_reducible refine wr ?_ | ((with_reducible refine wb2 ?_ ?_) <;> (intro hb; try simp only [hb])) | fail) <;> try simp only [go_sem, seval, ht, hd1])
      exact ⟨_, _, GL.refl _ _, rfl, h_upd2⟩
theorem c_rcnt (s : RS) (hs : s.1.length ≤ 1000000) (H : Hp) (cc t : Nat) (ht : H t = some (rdB s)) (htc : t < cc) :
    AC Tryd.prog 33 [.ptr t 0] H cc (fun v H' c' => v = I64 ((rdCnt s).1 : Int) ∧ H' = H.upd t (rdB (rdCnt s).2)) := by
  refine AC.body mixedU isU33 (Nat.le_of_ble_eq_true rfl) fun hfr => ?_
  show IW Tryd.prog 24 u33_1 ⟨argT _, _, _⟩ (rt [.tmp 2] _)
  repeat' ((first | with_reducible refine wr ?_ | ((with_reducible refine wb2 ?_ ?_) <;> (intro hb; try simp only [hb])) | fail) <;> try simp only [go_sem, seval])
  refine AC.call (c_rnum s hs H cc t ht htc) ?_
  rintro v H' c1 ⟨rfl, rfl⟩ hc
  have hB := rdNum_bd s
  have hL := rdNum_len s
  by_cases h1 : (rdNum s).1 < 0
  · have hd1 : decide ((rdNum s).1 < 0) = true := by simpa using h1
    have e : rdCnt s = (0, ([], true)) := by rw [rdCnt, if_pos (.inl h1)]
    simp only [go_sem, seval, hd1]
    repeat' ((first | with_reducible refine wr ?_ | ((with_reducible refine wb2 ?_ ?_) <;> (intro hb; try simp only [hb])) | fail) <;> try simp only [go_sem, seval, hd1])
    rw [e]
    exact ⟨_, _, GL.refl _ _, rfl, by rw [h_upd2, h_upd2]⟩
  have hd1 : decide ((rdNum s).1 < 0) = false := by simpa using h1
  by_cases h2 : (rdNum s).1 > (rdNum s).2.1.length
  · have hd2 : decide ((rdNum s).1 > (rdNum s).2.1.length) = true := by simpa using h2
    have e : rdCnt s = (0, ([], true)) := by rw [rdCnt, if_pos (.inr h2)]
    simp only [go_sem, seval, hd1, hd2]
    repeat' ((first | with_reducible refine wr ?_ | ((with_reducible refine wb2 ?_ ?_) <;> (intro hb; try simp only [hb])) | fail) <;> try simp only [go_sem, seval, hd1, hd2])
    rw [e]
    exact ⟨_, _, GL.refl _ _, rfl, by rw [h_upd2, h_upd2]⟩
  · have hd2 : decide ((rdNum s).1 > (rdNum s).2.1.length) = false := by simpa using h2
    have e : rdCnt s = ((rdNum s).1.toNat, (rdNum s).2) := by rw [rdCnt, if_neg (by omega)]
    simp only [go_sem, seval, hd1, hd2]
    repeat' ((first | with_reducible refine wr ?_ | ((with_reducible refine wb2 ?_ ?_) <;> (intro hb; try simp only [hb])) | fail) <;> try simp only [go_sem, seval, hd1, hd2])
    rw [e]
    exact ⟨_, _, GL.refl _ _, by simp only; congr 1; omega, rfl⟩
theorem c_rnums (s : RS) (hs : s.1.length ≤ 1000000) (H : Hp) (cc t : Nat) (ht : H t = some (rdB s)) (htc : t < cc) :
    AC Tryd.prog 35 [.ptr t 0] H cc (fun v H' c' => v = ints (rdNums s).1 ∧ H' = H.upd t (rdB (rdNums s).2)) := by
  refine AC.body mixedU isU35 (Nat.le_of_ble_eq_true rfl) fun hfr => ?_
  show IW Tryd.prog 20 u35_1 ⟨argT _, _, _⟩ (rt [.tmp 2] _)
  repeat' ((first | with_reducible refine wr ?_ | ((with_reducible refine wb2 ?_ ?_) <;> (intro hb; try simp only [hb])) | fail) <;> try simp only [go_sem, seval])
  refine AC.call (c_rcnt s hs H cc t ht htc) ?_
  rintro v H' id ⟨rfl, rfl⟩ hc
  obtain ⟨L1, L2⟩ := rdCnt_len s
  obtain ⟨n, hn⟩ : ∃ n, n = (rdCnt s).1 := ⟨_, rfl⟩
  obtain ⟨st, hst⟩ : ∃ st, st = (rdCnt s).2 := ⟨_, rfl⟩
  have e : rdNums s = rdMany rdNum n st := by rw [hn, hst]; rfl
  rw [e]
  rw [← hn, ← hst] at L2 ⊢
  have Ln : n ≤ 1000000 := by have := hst ▸ L1; omega
  rw [← hst] at L1
  simp only [go_sem, seval]
  repeat' ((first | with_reducible refine wr ?_ | ((with_reducible refine wb2 ?_ ?_) <;> (intro hb; try simp only [hb])) | ((with_reducible refine k_nval (r_msl (by omega) (by omega) rfl rfl) ?_)) | fail) <;> try simp only [go_sem, seval])
  refine i_loop (fun k : Nat => [(0, .ptr t 0), (3, .slc id 0 n), (9, I64 n), (10, I64 k)]) (fun k => (H.upd t (rdB (rdMany rdNum k st).2)).upd id ⟨1, true, ((rdMany rdNum k st).1 ++ List.replicate (n - k) 0).map I64⟩) (fun k c => id < c ∧ k ≤ n) (fun k => n - k) 0 (by simp [tmLe, tm, Tm.upd]) (by simp [rdMany, madeL_one]; exact Sub.refl _) (by omega) ?_
  rintro k c ⟨hc1, hk⟩
  have hti : ¬ t = id := by omega
  obtain ⟨M1, M2⟩ := rdMany_len (f := rdNum) rdNum_len k st
  by_cases hlt : k < n
  · have hd : decide ((k : Int) < (n : Int)) = true := by simpa using hlt
    have hw : IntKind.i64.wrap ((k : Int) + 1) = ((k + 1 : Nat) : Int) := by rw [w64 (by omega) (by omega)]; omega
    repeat' ((first | with_reducible refine wr ?_ | ((with_reducible refine wb2 ?_ ?_) <;> (intro hb; try simp only [hb])) | fail) <;> try simp only [go_sem, seval, hd])
    refine AC.call (c_rnum (rdMany rdNum k st).2 (by omega) _ c t (by rw [h_ne hti, h_same]) (by omega)) ?_
    rintro v H' c1 ⟨rfl, rfl⟩ hcc
    have hti2 : ¬ id = t := by omega
    have hia := r_iadsn (id := id) (off := 0) (l := n) (sz := 1) (k := .i64) hlt
    have hlen : ((rdMany rdNum k st).1 ++ List.replicate (n - k) 0).length = n := by simp [M2]; omega
    have hle : k + 1 ≤ n := hlt
    simp only [go_sem, seval, hia, hti, hti2, hlen, hle]
    repeat' ((first | with_reducible refine wr ?_ | ((with_reducible refine wb2 ?_ ?_) <;> (intro hb; try simp only [hb])) | fail) <;> try simp only [go_sem, seval, hia, hw, hti, hti2, hlen, hle])
    refine ⟨k + 1, rfl, ?_, inv ⟨by omega, hlt⟩, by omega⟩
    rw [put_map (by rw [hlen]; omega)]
    have e2 : ((rdMany rdNum k st).1 ++ List.replicate (n - k) 0).set k (rdNum (rdMany rdNum k st).2).1 = (rdMany rdNum (k + 1) st).1 ++ List.replicate (n - (k + 1)) 0 := by
      obtain ⟨m, hm⟩ : ∃ m, n - k = m + 1 := ⟨n - k - 1, by omega⟩
      have hm2 : n - (k + 1) = m := by omega
      rw [hm, hm2, List.set_append_right _ _ (by omega), M2, Nat.sub_self, List.replicate_succ, List.set_cons_zero, rdMany]
      simp
    rw [e2]
    intro j b hj
    simp only [Hp.upd] at hj ⊢
    repeat' split at hj
    all_goals (repeat' split)
    all_goals first | exact hj | (exfalso; omega) | (simp only [rdMany] at hj ⊢; exact hj)
  · have hd : decide ((k : Int) < (n : Int)) = false := by simpa using hlt
    obtain rfl : k = n := by omega
    repeat' ((first | with_reducible refine wr ?_ | ((with_reducible refine wb2 ?_ ?_) <;> (intro hb; try simp only [hb])) | fail) <;> try simp only [go_sem, seval, hd])
    refine ⟨_, _, GL.frzS (H' := H.upd t (rdB (rdMany rdNum k st).2)) (id := id) h_same rfl (fun j => ?_) (.cons _ _ _ _ (fz_slc (u := 1) (by simp [M2]) (ints_unit (rdMany rdNum k st).1) ⟨[], by simp [cells_ints]⟩) .nil), rfl, rfl⟩
    by_cases ej : j = id
    · subst ej; left; rw [h_ne (Ne.symm hti)]; exact hfr j hc
    · right; exact ⟨ej, (h_ne ej).symm⟩
end Go.Proofs.YtcallbfckjlagaaDoor
