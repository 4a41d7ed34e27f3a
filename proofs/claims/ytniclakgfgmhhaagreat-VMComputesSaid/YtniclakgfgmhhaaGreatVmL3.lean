import Derived.Test.YtniclakgfgmhhaaGreatVmW2
import Derived.Test.YtniclakgfgmhhaaGreatVmS
import Derived.Test.YtniclakgfgmhhaaGreatEngX
set_option maxRecDepth 10000
set_option linter.unusedSimpArgs false
set_option linter.unusedVariables false
namespace Go.Proofs.YtniclakgfgmhhaaGreat
open Go.Eng

theorem law3g (F : Int → Int) (U : Int → Int → Int) (B : Int → Int → Int → Int)
    (c10 : ∀ k a H c, AC Tryz.prog 10 [.int .i64 k, .int .i64 a] H c (Same (.int .i64 (U k a)) H c)) (c11 : ∀ k a H c, AC Tryz.prog 11 [.int .i64 k, .int .i64 a] H c (Same (.int .i64 (U k a)) H c))
    (c12 : ∀ k a b H c, AC Tryz.prog 12 [.int .i64 k, .int .i64 a, .int .i64 b] H c (Same (.int .i64 (B k a b)) H c)) (c13 : ∀ k a b H c, AC Tryz.prog 13 [.int .i64 k, .int .i64 a, .int .i64 b] H c (Same (.int .i64 (B k a b)) H c))
    (c14 : ∀ n H c, AC Tryz.prog 14 [.int .i64 n] H c (Same (.int .i64 (F n)) H c)) (c15 : ∀ n H c, AC Tryz.prog 15 [.int .i64 n] H c (Same (.int .i64 (F n)) H c))
    (kd a b : Int) (H : Hp) (c : Nat) : AC Tryz.prog 3 [.int .i64 kd, .int .i64 a, .int .i64 b] H c (fun v _ _ => v = .bool true) := by
  refine AC.of mixedU isU3 (Nat.le_of_ble_eq_true rfl) ?_
  simp only [u3]
  rw [k_seq, k_reg]
  simp only [k_pur, f_mv, k_some, k_nil, k_nor, u_some, ev_k]
  rw [k_sn]
  refine k_mid (fun s => s.T 0 = .int .i64 kd ∧ s.T 1 = .int .i64 a ∧ s.T 2 = .int .i64 b ∧ s.H = H ∧ s.c = c) ?_ ?_
  · simp only [k_seq, k_reg, k_nor, k_sn, k_sr, k_se, k_nil, k_pur, k_new, k_eff, k_call, k_some, k_nsome, k_esome, k_ap, k_grd, k_gt, k_gf, k_want, k_cond, k_ct, k_cf, wpI_blk, wpI_ret, wpI_exit, wpI_skip, then_n, then_r, then_e, blk_n, blk_r, blk_e, blk_ne, u_some, u_none, f_mv, f_bin, f_un, n_neg, n_not, p_t, p_f, ev_t, ev_k, upd_same, upd_ne, arg0, argS, Nat.reduceEqDiff, not_false_eq_true, List.map, bin_eql, bin_neq, bin_lss, bin_leq, bin_gtr, bin_geq, bin_add, bin_sub, bin_mul, ret_r1, ret_n1, beq_self_eq_true, bne_self_eq_false, Bool.true_beq, Bool.false_beq, Bool.not_true, Bool.not_false]
    rw [wpI_loop]
    refine IW.loop (fun n s => ∃ k : Nat, k ≤ 27 ∧ n = 27 - k ∧ s.T 0 = .int .i64 kd ∧ s.T 1 = .int .i64 a ∧ s.T 2 = .int .i64 b ∧ s.T 7 = .int .i64 k ∧ s.H = H ∧ s.c = c) 27 ⟨0, by omega, rfl, ?_, ?_, ?_, ?_, rfl, rfl⟩ ?_
    · rfl
    · rfl
    · rfl
    · rfl
    rintro n ⟨T, H1, c1⟩ ⟨k, hk, rfl, h0, h1, h2, h7, e1, e2⟩
    obtain rfl := e1.symm
    obtain rfl := e2.symm
    clear e1 e2
    replace h0 : T 0 = .int .i64 kd := h0
    replace h1 : T 1 = .int .i64 a := h1
    replace h2 : T 2 = .int .i64 b := h2
    replace h7 : T 7 = .int .i64 k := h7
    simp only [k_seq, k_reg, k_nor, k_sn, k_sr, k_se, k_nil, k_pur, k_new, k_eff, k_call, k_some, k_nsome, k_esome, k_ap, k_grd, k_gt, k_gf, k_want, k_cond, k_ct, k_cf, wpI_blk, wpI_ret, wpI_exit, wpI_skip, then_n, then_r, then_e, blk_n, blk_r, blk_e, blk_ne, u_some, u_none, f_mv, f_bin, f_un, n_neg, n_not, p_t, p_f, ev_t, ev_k, upd_same, upd_ne, arg0, argS, Nat.reduceEqDiff, not_false_eq_true, List.map, bin_eql, bin_neq, bin_lss, bin_leq, bin_gtr, bin_geq, bin_add, bin_sub, bin_mul, ret_r1, ret_n1, beq_self_eq_true, bne_self_eq_false, Bool.true_beq, Bool.false_beq, Bool.not_true, Bool.not_false, h0, h1, h2, h7]
    refine k_cb (fun hlt => ?_) (fun hge => ?_)
    rotate_left
    · simp only [k_seq, k_reg, k_nor, k_sn, k_sr, k_se, k_nil, k_pur, k_new, k_eff, k_call, k_some, k_nsome, k_esome, k_ap, k_grd, k_gt, k_gf, k_want, k_cond, k_ct, k_cf, wpI_blk, wpI_ret, wpI_exit, wpI_skip, then_n, then_r, then_e, blk_n, blk_r, blk_e, blk_ne, u_some, u_none, f_mv, f_bin, f_un, n_neg, n_not, p_t, p_f, ev_t, ev_k, upd_same, upd_ne, arg0, argS, Nat.reduceEqDiff, not_false_eq_true, List.map, bin_eql, bin_neq, bin_lss, bin_leq, bin_gtr, bin_geq, bin_add, bin_sub, bin_mul, ret_r1, ret_n1, beq_self_eq_true, bne_self_eq_false, Bool.true_beq, Bool.false_beq, Bool.not_true, Bool.not_false, h0, h1, h2, h7, and_self]
    simp only [decide_eq_true_eq] at hlt
    simp only [k_seq, k_reg, k_nor, k_sn, k_sr, k_se, k_nil, k_pur, k_new, k_eff, k_call, k_some, k_nsome, k_esome, k_ap, k_grd, k_gt, k_gf, k_want, k_cond, k_ct, k_cf, wpI_blk, wpI_ret, wpI_exit, wpI_skip, then_n, then_r, then_e, blk_n, blk_r, blk_e, blk_ne, u_some, u_none, f_mv, f_bin, f_un, n_neg, n_not, p_t, p_f, ev_t, ev_k, upd_same, upd_ne, arg0, argS, Nat.reduceEqDiff, not_false_eq_true, List.map, bin_eql, bin_neq, bin_lss, bin_leq, bin_gtr, bin_geq, bin_add, bin_sub, bin_mul, ret_r1, ret_n1, beq_self_eq_true, bne_self_eq_false, Bool.true_beq, Bool.false_beq, Bool.not_true, Bool.not_false, h0, h1, h2, h7]
    refine (c10 _ _ _ _).mono ?_
    rintro _ _ _ ⟨rfl, e1, e2⟩; obtain rfl := e1.symm; obtain rfl := e2.symm; clear e1 e2
    simp only [k_seq, k_reg, k_nor, k_sn, k_sr, k_se, k_nil, k_pur, k_new, k_eff, k_call, k_some, k_nsome, k_esome, k_ap, k_grd, k_gt, k_gf, k_want, k_cond, k_ct, k_cf, wpI_blk, wpI_ret, wpI_exit, wpI_skip, then_n, then_r, then_e, blk_n, blk_r, blk_e, blk_ne, u_some, u_none, f_mv, f_bin, f_un, n_neg, n_not, p_t, p_f, ev_t, ev_k, upd_same, upd_ne, arg0, argS, Nat.reduceEqDiff, not_false_eq_true, List.map, bin_eql, bin_neq, bin_lss, bin_leq, bin_gtr, bin_geq, bin_add, bin_sub, bin_mul, ret_r1, ret_n1, beq_self_eq_true, bne_self_eq_false, Bool.true_beq, Bool.false_beq, Bool.not_true, Bool.not_false, h0, h1, h2, h7]
    refine (c11 _ _ _ _).mono ?_
    rintro _ _ _ ⟨rfl, e1, e2⟩; obtain rfl := e1.symm; obtain rfl := e2.symm; clear e1 e2
    simp only [k_seq, k_reg, k_nor, k_sn, k_sr, k_se, k_nil, k_pur, k_new, k_eff, k_call, k_some, k_nsome, k_esome, k_ap, k_grd, k_gt, k_gf, k_want, k_cond, k_ct, k_cf, wpI_blk, wpI_ret, wpI_exit, wpI_skip, then_n, then_r, then_e, blk_n, blk_r, blk_e, blk_ne, u_some, u_none, f_mv, f_bin, f_un, n_neg, n_not, p_t, p_f, ev_t, ev_k, upd_same, upd_ne, arg0, argS, Nat.reduceEqDiff, not_false_eq_true, List.map, bin_eql, bin_neq, bin_lss, bin_leq, bin_gtr, bin_geq, bin_add, bin_sub, bin_mul, ret_r1, ret_n1, beq_self_eq_true, bne_self_eq_false, Bool.true_beq, Bool.false_beq, Bool.not_true, Bool.not_false, h0, h1, h2, h7]
    refine (c12 _ _ _ _ _).mono ?_
    rintro _ _ _ ⟨rfl, e1, e2⟩; obtain rfl := e1.symm; obtain rfl := e2.symm; clear e1 e2
    simp only [k_seq, k_reg, k_nor, k_sn, k_sr, k_se, k_nil, k_pur, k_new, k_eff, k_call, k_some, k_nsome, k_esome, k_ap, k_grd, k_gt, k_gf, k_want, k_cond, k_ct, k_cf, wpI_blk, wpI_ret, wpI_exit, wpI_skip, then_n, then_r, then_e, blk_n, blk_r, blk_e, blk_ne, u_some, u_none, f_mv, f_bin, f_un, n_neg, n_not, p_t, p_f, ev_t, ev_k, upd_same, upd_ne, arg0, argS, Nat.reduceEqDiff, not_false_eq_true, List.map, bin_eql, bin_neq, bin_lss, bin_leq, bin_gtr, bin_geq, bin_add, bin_sub, bin_mul, ret_r1, ret_n1, beq_self_eq_true, bne_self_eq_false, Bool.true_beq, Bool.false_beq, Bool.not_true, Bool.not_false, h0, h1, h2, h7]
    refine (c13 _ _ _ _ _).mono ?_
    rintro _ _ _ ⟨rfl, e1, e2⟩; obtain rfl := e1.symm; obtain rfl := e2.symm; clear e1 e2
    simp only [k_seq, k_reg, k_nor, k_sn, k_sr, k_se, k_nil, k_pur, k_new, k_eff, k_call, k_some, k_nsome, k_esome, k_ap, k_grd, k_gt, k_gf, k_want, k_cond, k_ct, k_cf, wpI_blk, wpI_ret, wpI_exit, wpI_skip, then_n, then_r, then_e, blk_n, blk_r, blk_e, blk_ne, u_some, u_none, f_mv, f_bin, f_un, n_neg, n_not, p_t, p_f, ev_t, ev_k, upd_same, upd_ne, arg0, argS, Nat.reduceEqDiff, not_false_eq_true, List.map, bin_eql, bin_neq, bin_lss, bin_leq, bin_gtr, bin_geq, bin_add, bin_sub, bin_mul, ret_r1, ret_n1, beq_self_eq_true, bne_self_eq_false, Bool.true_beq, Bool.false_beq, Bool.not_true, Bool.not_false, h0, h1, h2, h7]
    have hw : IntKind.i64.wrap ((k : Int) + 1) = ((k + 1 : Nat) : Int) := by rw [wrap64 (by omega) (by omega)]; omega
    rw [hw]
    exact ⟨26 - k, by omega, k + 1, by omega, by omega, by simp only [k_seq, k_reg, k_nor, k_sn, k_sr, k_se, k_nil, k_pur, k_new, k_eff, k_call, k_some, k_nsome, k_esome, k_ap, k_grd, k_gt, k_gf, k_want, k_cond, k_ct, k_cf, wpI_blk, wpI_ret, wpI_exit, wpI_skip, then_n, then_r, then_e, blk_n, blk_r, blk_e, blk_ne, u_some, u_none, f_mv, f_bin, f_un, n_neg, n_not, p_t, p_f, ev_t, ev_k, upd_same, upd_ne, arg0, argS, Nat.reduceEqDiff, not_false_eq_true, List.map, bin_eql, bin_neq, bin_lss, bin_leq, bin_gtr, bin_geq, bin_add, bin_sub, bin_mul, ret_r1, ret_n1, beq_self_eq_true, bne_self_eq_false, Bool.true_beq, Bool.false_beq, Bool.not_true, Bool.not_false, h0], by simp only [k_seq, k_reg, k_nor, k_sn, k_sr, k_se, k_nil, k_pur, k_new, k_eff, k_call, k_some, k_nsome, k_esome, k_ap, k_grd, k_gt, k_gf, k_want, k_cond, k_ct, k_cf, wpI_blk, wpI_ret, wpI_exit, wpI_skip, then_n, then_r, then_e, blk_n, blk_r, blk_e, blk_ne, u_some, u_none, f_mv, f_bin, f_un, n_neg, n_not, p_t, p_f, ev_t, ev_k, upd_same, upd_ne, arg0, argS, Nat.reduceEqDiff, not_false_eq_true, List.map, bin_eql, bin_neq, bin_lss, bin_leq, bin_gtr, bin_geq, bin_add, bin_sub, bin_mul, ret_r1, ret_n1, beq_self_eq_true, bne_self_eq_false, Bool.true_beq, Bool.false_beq, Bool.not_true, Bool.not_false, h1], by simp only [k_seq, k_reg, k_nor, k_sn, k_sr, k_se, k_nil, k_pur, k_new, k_eff, k_call, k_some, k_nsome, k_esome, k_ap, k_grd, k_gt, k_gf, k_want, k_cond, k_ct, k_cf, wpI_blk, wpI_ret, wpI_exit, wpI_skip, then_n, then_r, then_e, blk_n, blk_r, blk_e, blk_ne, u_some, u_none, f_mv, f_bin, f_un, n_neg, n_not, p_t, p_f, ev_t, ev_k, upd_same, upd_ne, arg0, argS, Nat.reduceEqDiff, not_false_eq_true, List.map, bin_eql, bin_neq, bin_lss, bin_leq, bin_gtr, bin_geq, bin_add, bin_sub, bin_mul, ret_r1, ret_n1, beq_self_eq_true, bne_self_eq_false, Bool.true_beq, Bool.false_beq, Bool.not_true, Bool.not_false, h2], by simp only [k_seq, k_reg, k_nor, k_sn, k_sr, k_se, k_nil, k_pur, k_new, k_eff, k_call, k_some, k_nsome, k_esome, k_ap, k_grd, k_gt, k_gf, k_want, k_cond, k_ct, k_cf, wpI_blk, wpI_ret, wpI_exit, wpI_skip, then_n, then_r, then_e, blk_n, blk_r, blk_e, blk_ne, u_some, u_none, f_mv, f_bin, f_un, n_neg, n_not, p_t, p_f, ev_t, ev_k, upd_same, upd_ne, arg0, argS, Nat.reduceEqDiff, not_false_eq_true, List.map, bin_eql, bin_neq, bin_lss, bin_leq, bin_gtr, bin_geq, bin_add, bin_sub, bin_mul, ret_r1, ret_n1, beq_self_eq_true, bne_self_eq_false, Bool.true_beq, Bool.false_beq, Bool.not_true, Bool.not_false], trivial, trivial⟩
  · rintro ⟨T, H1, c1⟩ ⟨h0, h1, h2, e1, e2⟩
    obtain rfl := e1.symm
    obtain rfl := e2.symm
    clear e1 e2
    replace h0 : T 0 = .int .i64 kd := h0
    replace h1 : T 1 = .int .i64 a := h1
    replace h2 : T 2 = .int .i64 b := h2
    simp only [k_seq, k_reg, k_nor, k_sn, k_sr, k_se, k_nil, k_pur, k_new, k_eff, k_call, k_some, k_nsome, k_esome, k_ap, k_grd, k_gt, k_gf, k_want, k_cond, k_ct, k_cf, wpI_blk, wpI_ret, wpI_exit, wpI_skip, then_n, then_r, then_e, blk_n, blk_r, blk_e, blk_ne, u_some, u_none, f_mv, f_bin, f_un, n_neg, n_not, p_t, p_f, ev_t, ev_k, upd_same, upd_ne, arg0, argS, Nat.reduceEqDiff, not_false_eq_true, List.map, bin_eql, bin_neq, bin_lss, bin_leq, bin_gtr, bin_geq, bin_add, bin_sub, bin_mul, ret_r1, ret_n1, beq_self_eq_true, bne_self_eq_false, Bool.true_beq, Bool.false_beq, Bool.not_true, Bool.not_false, h0, h1, h2]
    refine (c14 _ _ _).mono ?_
    rintro _ _ _ ⟨rfl, e1, e2⟩; obtain rfl := e1.symm; obtain rfl := e2.symm; clear e1 e2
    simp only [k_seq, k_reg, k_nor, k_sn, k_sr, k_se, k_nil, k_pur, k_new, k_eff, k_call, k_some, k_nsome, k_esome, k_ap, k_grd, k_gt, k_gf, k_want, k_cond, k_ct, k_cf, wpI_blk, wpI_ret, wpI_exit, wpI_skip, then_n, then_r, then_e, blk_n, blk_r, blk_e, blk_ne, u_some, u_none, f_mv, f_bin, f_un, n_neg, n_not, p_t, p_f, ev_t, ev_k, upd_same, upd_ne, arg0, argS, Nat.reduceEqDiff, not_false_eq_true, List.map, bin_eql, bin_neq, bin_lss, bin_leq, bin_gtr, bin_geq, bin_add, bin_sub, bin_mul, ret_r1, ret_n1, beq_self_eq_true, bne_self_eq_false, Bool.true_beq, Bool.false_beq, Bool.not_true, Bool.not_false, h0, h1, h2]
    refine (c15 _ _ _).mono ?_
    rintro _ _ _ ⟨rfl, e1, e2⟩; obtain rfl := e1.symm; obtain rfl := e2.symm; clear e1 e2
    simp only [k_seq, k_reg, k_nor, k_sn, k_sr, k_se, k_nil, k_pur, k_new, k_eff, k_call, k_some, k_nsome, k_esome, k_ap, k_grd, k_gt, k_gf, k_want, k_cond, k_ct, k_cf, wpI_blk, wpI_ret, wpI_exit, wpI_skip, then_n, then_r, then_e, blk_n, blk_r, blk_e, blk_ne, u_some, u_none, f_mv, f_bin, f_un, n_neg, n_not, p_t, p_f, ev_t, ev_k, upd_same, upd_ne, arg0, argS, Nat.reduceEqDiff, not_false_eq_true, List.map, bin_eql, bin_neq, bin_lss, bin_leq, bin_gtr, bin_geq, bin_add, bin_sub, bin_mul, ret_r1, ret_n1, beq_self_eq_true, bne_self_eq_false, Bool.true_beq, Bool.false_beq, Bool.not_true, Bool.not_false, h0, h1, h2]
    refine (c10 _ _ _ _).mono ?_
    rintro _ _ _ ⟨rfl, e1, e2⟩; obtain rfl := e1.symm; obtain rfl := e2.symm; clear e1 e2
    simp only [k_seq, k_reg, k_nor, k_sn, k_sr, k_se, k_nil, k_pur, k_new, k_eff, k_call, k_some, k_nsome, k_esome, k_ap, k_grd, k_gt, k_gf, k_want, k_cond, k_ct, k_cf, wpI_blk, wpI_ret, wpI_exit, wpI_skip, then_n, then_r, then_e, blk_n, blk_r, blk_e, blk_ne, u_some, u_none, f_mv, f_bin, f_un, n_neg, n_not, p_t, p_f, ev_t, ev_k, upd_same, upd_ne, arg0, argS, Nat.reduceEqDiff, not_false_eq_true, List.map, bin_eql, bin_neq, bin_lss, bin_leq, bin_gtr, bin_geq, bin_add, bin_sub, bin_mul, ret_r1, ret_n1, beq_self_eq_true, bne_self_eq_false, Bool.true_beq, Bool.false_beq, Bool.not_true, Bool.not_false, h0, h1, h2]
    refine (c11 _ _ _ _).mono ?_
    rintro _ _ _ ⟨rfl, e1, e2⟩; obtain rfl := e1.symm; obtain rfl := e2.symm; clear e1 e2
    simp only [k_seq, k_reg, k_nor, k_sn, k_sr, k_se, k_nil, k_pur, k_new, k_eff, k_call, k_some, k_nsome, k_esome, k_ap, k_grd, k_gt, k_gf, k_want, k_cond, k_ct, k_cf, wpI_blk, wpI_ret, wpI_exit, wpI_skip, then_n, then_r, then_e, blk_n, blk_r, blk_e, blk_ne, u_some, u_none, f_mv, f_bin, f_un, n_neg, n_not, p_t, p_f, ev_t, ev_k, upd_same, upd_ne, arg0, argS, Nat.reduceEqDiff, not_false_eq_true, List.map, bin_eql, bin_neq, bin_lss, bin_leq, bin_gtr, bin_geq, bin_add, bin_sub, bin_mul, ret_r1, ret_n1, beq_self_eq_true, bne_self_eq_false, Bool.true_beq, Bool.false_beq, Bool.not_true, Bool.not_false, h0, h1, h2]
    refine (c12 _ _ _ _ _).mono ?_
    rintro _ _ _ ⟨rfl, e1, e2⟩; obtain rfl := e1.symm; obtain rfl := e2.symm; clear e1 e2
    simp only [k_seq, k_reg, k_nor, k_sn, k_sr, k_se, k_nil, k_pur, k_new, k_eff, k_call, k_some, k_nsome, k_esome, k_ap, k_grd, k_gt, k_gf, k_want, k_cond, k_ct, k_cf, wpI_blk, wpI_ret, wpI_exit, wpI_skip, then_n, then_r, then_e, blk_n, blk_r, blk_e, blk_ne, u_some, u_none, f_mv, f_bin, f_un, n_neg, n_not, p_t, p_f, ev_t, ev_k, upd_same, upd_ne, arg0, argS, Nat.reduceEqDiff, not_false_eq_true, List.map, bin_eql, bin_neq, bin_lss, bin_leq, bin_gtr, bin_geq, bin_add, bin_sub, bin_mul, ret_r1, ret_n1, beq_self_eq_true, bne_self_eq_false, Bool.true_beq, Bool.false_beq, Bool.not_true, Bool.not_false, h0, h1, h2]
    refine (c13 _ _ _ _ _).mono ?_
    rintro _ _ _ ⟨rfl, e1, e2⟩; obtain rfl := e1.symm; obtain rfl := e2.symm; clear e1 e2
    simp only [k_seq, k_reg, k_nor, k_sn, k_sr, k_se, k_nil, k_pur, k_new, k_eff, k_call, k_some, k_nsome, k_esome, k_ap, k_grd, k_gt, k_gf, k_want, k_cond, k_ct, k_cf, wpI_blk, wpI_ret, wpI_exit, wpI_skip, then_n, then_r, then_e, blk_n, blk_r, blk_e, blk_ne, u_some, u_none, f_mv, f_bin, f_un, n_neg, n_not, p_t, p_f, ev_t, ev_k, upd_same, upd_ne, arg0, argS, Nat.reduceEqDiff, not_false_eq_true, List.map, bin_eql, bin_neq, bin_lss, bin_leq, bin_gtr, bin_geq, bin_add, bin_sub, bin_mul, ret_r1, ret_n1, beq_self_eq_true, bne_self_eq_false, Bool.true_beq, Bool.false_beq, Bool.not_true, Bool.not_false, h0, h1, h2]
    refine (sane _ _).mono ?_
    rintro _ _ _ ⟨rfl, e1, e2⟩; obtain rfl := e1.symm; obtain rfl := e2.symm; clear e1 e2
    simp only [k_seq, k_reg, k_nor, k_sn, k_sr, k_se, k_nil, k_pur, k_new, k_eff, k_call, k_some, k_nsome, k_esome, k_ap, k_grd, k_gt, k_gf, k_want, k_cond, k_ct, k_cf, wpI_blk, wpI_ret, wpI_exit, wpI_skip, then_n, then_r, then_e, blk_n, blk_r, blk_e, blk_ne, u_some, u_none, f_mv, f_bin, f_un, n_neg, n_not, p_t, p_f, ev_t, ev_k, upd_same, upd_ne, arg0, argS, Nat.reduceEqDiff, not_false_eq_true, List.map, bin_eql, bin_neq, bin_lss, bin_leq, bin_gtr, bin_geq, bin_add, bin_sub, bin_mul, ret_r1, ret_n1, beq_self_eq_true, bne_self_eq_false, Bool.true_beq, Bool.false_beq, Bool.not_true, Bool.not_false, h0, h1, h2]
theorem law3 (kd a b : Int) (H : Hp) (c : Nat) : AC Tryz.prog 3 [.int .i64 kd, .int .i64 a, .int .i64 b] H c (fun v _ _ => v = .bool true) :=
  law3g clZ unZ binZ c10 c11 c12 c13 c14 c15 kd a b H c
end Go.Proofs.YtniclakgfgmhhaaGreat
