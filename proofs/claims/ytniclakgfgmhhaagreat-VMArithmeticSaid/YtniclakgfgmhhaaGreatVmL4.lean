import Derived.Test.YtniclakgfgmhhaaGreatVmW2
import Derived.Test.YtniclakgfgmhhaaGreatVmS
import Derived.Test.YtniclakgfgmhhaaGreatEngX
set_option maxRecDepth 10000
set_option linter.unusedSimpArgs false
set_option linter.unusedVariables false
namespace Go.Proofs.YtniclakgfgmhhaaGreat
open Go.Eng
noncomputable def b4 (m1 m2 : Int) : IC := .seq (.reg [⟨(some 4), .pur (.mv (.k (.bool false))), none⟩])
 (.seq (.reg [⟨(some 11), .pur (.mv (.t 0)), none⟩,
   ⟨(some 12), .call 14 [(.t 11)], none⟩,
   ⟨(some 13), .pur (.mv (.t 1)), none⟩,
   ⟨(some 14), .call 14 [(.t 13)], none⟩,
   ⟨(some 5), .pur (.mv (.t 12)), none⟩,
   ⟨(some 6), .pur (.mv (.t 14)), none⟩])
 (.seq (.seq (.reg [⟨(some 7), .pur (.mv (.k (.int .i64 12))), none⟩])
 (.blk 0 (.loop (.seq (.seq (.reg [⟨(some 15), .pur (.mv (.t 7)), none⟩,
     ⟨(some 16), .pur (.bin .leq (.t 15) (.k (.int .i64 24))), none⟩])
   (.cond (.t 16)
    (.skip)
    (.exit 0)))
   (.seq (.blk 1 (.seq (.reg [⟨(some 19), .pur (.mv (.t 7)), none⟩,
      ⟨(some 20), .pur (.mv (.t 0)), none⟩,
      ⟨(some 21), .pur (.mv (.t 1)), none⟩,
      ⟨(some 22), .call 12 [(.t 19), (.t 20), (.t 21)], none⟩,
      ⟨(some 8), .pur (.mv (.t 22)), none⟩])
    (.seq (.reg [⟨(some 23), .pur (.mv (.t 8)), none⟩,
      ⟨(some 24), .pur (.bin .lss (.t 23) (.k (.int .i64 m1))), none⟩,
      ⟨(some 25), .pur (.mv (.t 24)), none⟩,
      ⟨(some 26), .pur (.mv (.t 8)), some (25, false)⟩,
      ⟨(some 27), .pur (.bin .gtr (.t 26) (.k (.int .i64 m2))), some (25, false)⟩,
      ⟨(some 28), .pur (.pick (.t 25) (.k (.bool true)) (.t 27)), none⟩,
      ⟨(some 29), .pur (.mv (.t 28)), none⟩,
      ⟨(some 30), .pur (.mv (.t 8)), some (29, false)⟩,
      ⟨(some 31), .pur (.mv (.t 7)), some (29, false)⟩,
      ⟨(some 32), .pur (.mv (.t 5)), some (29, false)⟩,
      ⟨(some 33), .pur (.mv (.t 6)), some (29, false)⟩,
      ⟨(some 34), .call 12 [(.t 31), (.t 32), (.t 33)], some (29, false)⟩,
      ⟨(some 35), .pur (.bin .neq (.t 30) (.t 34)), some (29, false)⟩,
      ⟨(some 36), .pur (.pick (.t 29) (.k (.bool true)) (.t 35)), none⟩,
      ⟨(some 37), .pur (.mv (.t 36)), none⟩,
      ⟨(some 38), .pur (.mv (.t 7)), some (37, false)⟩,
      ⟨(some 39), .pur (.bin .geq (.t 38) (.k (.int .i64 17))), some (37, false)⟩,
      ⟨(some 40), .pur (.mv (.t 39)), some (37, false)⟩,
      ⟨(some 41), .pur (.mv (.t 8)), some (40, true)⟩,
      ⟨(some 42), .pur (.bin .neq (.t 41) (.k (.int .i64 0))), some (40, true)⟩,
      ⟨(some 43), .pur (.pick (.t 40) (.t 42) (.k (.bool false))), some (37, false)⟩,
      ⟨(some 44), .pur (.mv (.t 43)), some (37, false)⟩,
      ⟨(some 45), .pur (.mv (.t 8)), some (44, true)⟩,
      ⟨(some 46), .pur (.bin .neq (.t 45) (.k (.int .i64 1))), some (44, true)⟩,
      ⟨(some 47), .pur (.pick (.t 44) (.t 46) (.k (.bool false))), some (37, false)⟩,
      ⟨(some 48), .pur (.pick (.t 37) (.k (.bool true)) (.t 47)), none⟩])
    (.cond (.t 48)
     (.seq (.reg [⟨(some 4), .pur (.mv (.k (.bool false))), none⟩])
     (.ret))
     (.skip)))))
   (.reg [⟨(some 17), .pur (.mv (.t 7)), none⟩,
     ⟨(some 18), .pur (.bin .add (.t 17) (.k (.int .i64 1))), none⟩,
     ⟨(some 7), .pur (.mv (.t 18)), none⟩]))))))
 (.seq (.reg [⟨(some 49), .pur (.mv (.t 5)), none⟩,
   ⟨(some 50), .pur (.mv (.t 6)), none⟩,
   ⟨(some 51), .call 12 [(.k (.int .i64 13)), (.t 49), (.t 50)], none⟩,
   ⟨(some 52), .pur (.mv (.t 5)), none⟩,
   ⟨(some 53), .pur (.mv (.t 6)), none⟩,
   ⟨(some 54), .call 12 [(.k (.int .i64 14)), (.t 52), (.t 53)], none⟩,
   ⟨(some 9), .pur (.mv (.t 51)), none⟩,
   ⟨(some 10), .pur (.mv (.t 54)), none⟩])
 (.seq (.seq (.reg [⟨(some 55), .pur (.mv (.t 6)), none⟩,
   ⟨(some 56), .pur (.bin .neq (.t 55) (.k (.int .i64 0))), none⟩,
   ⟨(some 57), .pur (.mv (.t 56)), none⟩,
   ⟨(some 58), .pur (.mv (.t 9)), some (57, true)⟩,
   ⟨(some 59), .pur (.mv (.t 6)), some (57, true)⟩,
   ⟨(some 60), .pur (.bin .mul (.t 58) (.t 59)), some (57, true)⟩,
   ⟨(some 61), .pur (.mv (.t 10)), some (57, true)⟩,
   ⟨(some 62), .pur (.bin .add (.t 60) (.t 61)), some (57, true)⟩,
   ⟨(some 63), .pur (.mv (.t 5)), some (57, true)⟩,
   ⟨(some 64), .pur (.bin .neq (.t 62) (.t 63)), some (57, true)⟩,
   ⟨(some 65), .pur (.mv (.t 64)), some (57, true)⟩,
   ⟨(some 66), .pur (.mv (.t 10)), some (65, false)⟩,
   ⟨(some 67), .pur (.bin .neq (.t 66) (.k (.int .i64 0))), some (65, false)⟩,
   ⟨(some 68), .pur (.mv (.t 67)), some (65, false)⟩,
   ⟨(some 69), .pur (.mv (.t 10)), some (68, true)⟩,
   ⟨(some 70), .pur (.bin .lss (.t 69) (.k (.int .i64 0))), some (68, true)⟩,
   ⟨(some 71), .pur (.mv (.t 5)), some (68, true)⟩,
   ⟨(some 72), .pur (.bin .lss (.t 71) (.k (.int .i64 0))), some (68, true)⟩,
   ⟨(some 73), .pur (.eqb true (.t 70) (.t 72)), some (68, true)⟩,
   ⟨(some 74), .pur (.pick (.t 68) (.t 73) (.k (.bool false))), some (65, false)⟩,
   ⟨(some 75), .pur (.pick (.t 65) (.k (.bool true)) (.t 74)), some (57, true)⟩,
   ⟨(some 76), .pur (.mv (.t 75)), some (57, true)⟩,
   ⟨(some 77), .pur (.mv (.t 10)), some (76, false)⟩,
   ⟨(some 78), .pur (.mv (.t 10)), some (76, false)⟩,
   ⟨(some 79), .pur (.bin .mul (.t 77) (.t 78)), some (76, false)⟩,
   ⟨(some 80), .pur (.mv (.t 6)), some (76, false)⟩,
   ⟨(some 81), .pur (.mv (.t 6)), some (76, false)⟩,
   ⟨(some 82), .pur (.bin .mul (.t 80) (.t 81)), some (76, false)⟩,
   ⟨(some 83), .pur (.bin .geq (.t 79) (.t 82)), some (76, false)⟩,
   ⟨(some 84), .pur (.pick (.t 76) (.k (.bool true)) (.t 83)), some (57, true)⟩,
   ⟨(some 85), .pur (.pick (.t 57) (.t 84) (.k (.bool false))), none⟩,
   ⟨(some 86), .pur (.mv (.t 85)), none⟩,
   ⟨(some 87), .pur (.mv (.t 6)), some (86, false)⟩,
   ⟨(some 88), .pur (.bin .eql (.t 87) (.k (.int .i64 0))), some (86, false)⟩,
   ⟨(some 89), .pur (.mv (.t 88)), some (86, false)⟩,
   ⟨(some 90), .pur (.mv (.t 9)), some (89, true)⟩,
   ⟨(some 91), .pur (.bin .neq (.t 90) (.k (.int .i64 0))), some (89, true)⟩,
   ⟨(some 92), .pur (.mv (.t 91)), some (89, true)⟩,
   ⟨(some 93), .pur (.mv (.t 10)), some (92, false)⟩,
   ⟨(some 94), .pur (.bin .neq (.t 93) (.k (.int .i64 0))), some (92, false)⟩,
   ⟨(some 95), .pur (.pick (.t 92) (.k (.bool true)) (.t 94)), some (89, true)⟩,
   ⟨(some 96), .pur (.pick (.t 89) (.t 95) (.k (.bool false))), some (86, false)⟩,
   ⟨(some 97), .pur (.pick (.t 86) (.k (.bool true)) (.t 96)), none⟩])
 (.cond (.t 97)
  (.seq (.reg [⟨(some 4), .pur (.mv (.k (.bool false))), none⟩])
  (.ret))
  (.skip)))
 (.seq (.reg [⟨(some 98), .pur (.mv (.t 5)), none⟩,
   ⟨(some 99), .pur (.mv (.t 6)), none⟩,
   ⟨(some 100), .call 12 [(.k (.int .i64 17)), (.t 98), (.t 99)], none⟩,
   ⟨(some 101), .pur (.mv (.t 5)), none⟩,
   ⟨(some 102), .pur (.mv (.t 6)), none⟩,
   ⟨(some 103), .call 12 [(.k (.int .i64 20)), (.t 101), (.t 102)], none⟩,
   ⟨(some 104), .pur (.bin .add (.t 100) (.t 103)), none⟩,
   ⟨(some 105), .pur (.bin .eql (.t 104) (.k (.int .i64 1))), none⟩,
   ⟨(some 106), .pur (.mv (.t 105)), none⟩,
   ⟨(some 107), .pur (.mv (.t 5)), some (106, true)⟩,
   ⟨(some 108), .pur (.mv (.t 6)), some (106, true)⟩,
   ⟨(some 109), .call 12 [(.k (.int .i64 19)), (.t 107), (.t 108)], some (106, true)⟩,
   ⟨(some 110), .pur (.mv (.t 5)), some (106, true)⟩,
   ⟨(some 111), .pur (.mv (.t 6)), some (106, true)⟩,
   ⟨(some 112), .call 12 [(.k (.int .i64 18)), (.t 110), (.t 111)], some (106, true)⟩,
   ⟨(some 113), .pur (.bin .add (.t 109) (.t 112)), some (106, true)⟩,
   ⟨(some 114), .pur (.bin .eql (.t 113) (.k (.int .i64 1))), some (106, true)⟩,
   ⟨(some 115), .pur (.pick (.t 106) (.t 114) (.k (.bool false))), none⟩,
   ⟨(some 116), .pur (.mv (.t 115)), none⟩,
   ⟨(some 117), .pur (.mv (.t 5)), some (116, true)⟩,
   ⟨(some 118), .pur (.mv (.t 6)), some (116, true)⟩,
   ⟨(some 119), .call 12 [(.k (.int .i64 21)), (.t 117), (.t 118)], some (116, true)⟩,
   ⟨(some 120), .pur (.mv (.t 5)), some (116, true)⟩,
   ⟨(some 121), .pur (.mv (.t 6)), some (116, true)⟩,
   ⟨(some 122), .call 12 [(.k (.int .i64 22)), (.t 120), (.t 121)], some (116, true)⟩,
   ⟨(some 123), .pur (.bin .add (.t 119) (.t 122)), some (116, true)⟩,
   ⟨(some 124), .pur (.bin .eql (.t 123) (.k (.int .i64 1))), some (116, true)⟩,
   ⟨(some 125), .pur (.pick (.t 116) (.t 124) (.k (.bool false))), none⟩,
   ⟨(some 126), .pur (.mv (.t 125)), none⟩,
   ⟨(some 127), .pur (.mv (.t 5)), some (126, true)⟩,
   ⟨(some 128), .pur (.mv (.t 6)), some (126, true)⟩,
   ⟨(some 129), .call 12 [(.k (.int .i64 17)), (.t 127), (.t 128)], some (126, true)⟩,
   ⟨(some 130), .pur (.mv (.t 6)), some (126, true)⟩,
   ⟨(some 131), .pur (.mv (.t 5)), some (126, true)⟩,
   ⟨(some 132), .call 12 [(.k (.int .i64 19)), (.t 130), (.t 131)], some (126, true)⟩,
   ⟨(some 133), .pur (.bin .eql (.t 129) (.t 132)), some (126, true)⟩,
   ⟨(some 134), .pur (.pick (.t 126) (.t 133) (.k (.bool false))), none⟩,
   ⟨(some 135), .pur (.mv (.t 134)), none⟩,
   ⟨(some 136), .pur (.mv (.t 5)), some (135, true)⟩,
   ⟨(some 137), .pur (.mv (.t 6)), some (135, true)⟩,
   ⟨(some 138), .call 12 [(.k (.int .i64 15)), (.t 136), (.t 137)], some (135, true)⟩,
   ⟨(some 139), .pur (.mv (.t 6)), some (135, true)⟩,
   ⟨(some 140), .pur (.mv (.t 5)), some (135, true)⟩,
   ⟨(some 141), .call 12 [(.k (.int .i64 15)), (.t 139), (.t 140)], some (135, true)⟩,
   ⟨(some 142), .pur (.bin .eql (.t 138) (.t 141)), some (135, true)⟩,
   ⟨(some 143), .pur (.pick (.t 135) (.t 142) (.k (.bool false))), none⟩,
   ⟨(some 144), .pur (.mv (.t 143)), none⟩,
   ⟨(some 145), .pur (.mv (.t 5)), some (144, true)⟩,
   ⟨(some 146), .pur (.mv (.t 6)), some (144, true)⟩,
   ⟨(some 147), .call 12 [(.k (.int .i64 16)), (.t 145), (.t 146)], some (144, true)⟩,
   ⟨(some 148), .pur (.mv (.t 5)), some (144, true)⟩,
   ⟨(some 149), .pur (.mv (.t 6)), some (144, true)⟩,
   ⟨(some 150), .call 10 [(.k (.int .i64 10)), (.t 149)], some (144, true)⟩,
   ⟨(some 151), .call 12 [(.k (.int .i64 15)), (.t 148), (.t 150)], some (144, true)⟩,
   ⟨(some 152), .pur (.bin .eql (.t 147) (.t 151)), some (144, true)⟩,
   ⟨(some 153), .pur (.pick (.t 144) (.t 152) (.k (.bool false))), none⟩,
   ⟨(some 154), .pur (.mv (.t 153)), none⟩,
   ⟨(some 155), .call 16 [], some (154, true)⟩,
   ⟨(some 156), .pur (.pick (.t 154) (.t 155) (.k (.bool false))), none⟩,
   ⟨(some 4), .pur (.mv (.t 156)), none⟩])
 (.ret))))))
theorem b4_is : u4.body = b4 (-2147483647) 2147483647 := rfl
theorem law4g (F : Int → Int) (U : Int → Int → Int) (B : Int → Int → Int → Int) (m1 m2 : Int)
    (c10 : ∀ k a H c, AC Tryz.prog 10 [.int .i64 k, .int .i64 a] H c (Same (.int .i64 (U k a)) H c))
    (c12 : ∀ k a b H c, AC Tryz.prog 12 [.int .i64 k, .int .i64 a, .int .i64 b] H c (Same (.int .i64 (B k a b)) H c))
    (c14 : ∀ n H c, AC Tryz.prog 14 [.int .i64 n] H c (Same (.int .i64 (F n)) H c))
    (x y : Int)
    (hB1 : ∀ k, 12 ≤ k → k ≤ 24 → m1 ≤ B k x y ∧ B k x y ≤ m2) (hB2 : ∀ k, B k (F x) (F y) = B k x y) (hB3 : ∀ k, 17 ≤ k → k ≤ 24 → B k x y = 0 ∨ B k x y = 1)
    (hq1 : ¬ F y = 0 → IntKind.i64.wrap (IntKind.i64.wrap (B 13 (F x) (F y) * F y) + B 14 (F x) (F y)) = F x)
    (hq2 : ¬ F y = 0 → B 14 (F x) (F y) = 0 ∨ (B 14 (F x) (F y) < 0 ↔ F x < 0))
    (hq3 : ¬ F y = 0 → IntKind.i64.wrap (B 14 (F x) (F y) * B 14 (F x) (F y)) < IntKind.i64.wrap (F y * F y))
    (hq4 : F y = 0 → B 13 (F x) (F y) = 0 ∧ B 14 (F x) (F y) = 0)
    (g1 : IntKind.i64.wrap (B 17 (F x) (F y) + B 20 (F x) (F y)) = 1) (g2 : IntKind.i64.wrap (B 19 (F x) (F y) + B 18 (F x) (F y)) = 1) (g3 : IntKind.i64.wrap (B 21 (F x) (F y) + B 22 (F x) (F y)) = 1)
    (g4 : (B 17 (F x) (F y) == B 19 (F y) (F x)) = true) (g5 : (B 15 (F x) (F y) == B 15 (F y) (F x)) = true) (g6 : (B 16 (F x) (F y) == B 15 (F x) (U 10 (F y))) = true)
    (H : Hp) (c : Nat) : wpI Tryz.prog 157 (b4 m1 m2) ⟨argT [.int .i64 x, .int .i64 y], H, c⟩ (retQ [.tmp 4] fun v _ _ => v = .bool true) := by
  simp only [b4]
  rw [k_seq, k_reg]
  simp only [k_pur, f_mv, k_some, k_nil, k_nor, u_some, ev_k]
  rw [k_sn, k_seq, k_reg]
  simp only [k_seq, k_reg, k_nor, k_sn, k_sr, k_se, k_nil, k_pur, k_new, k_eff, k_call, k_some, k_nsome, k_esome, k_ap, k_grd, k_gt, k_gf, k_want, k_wu, k_cond, k_ct, k_cf, wpI_blk, wpI_ret, wpI_exit, wpI_skip, then_n, then_r, then_e, blk_n, blk_r, blk_e, blk_ne, u_some, u_none, f_mv, f_bin, f_un, n_neg, n_not, p_t, p_f, q_b, q_c, ev_t, ev_k, upd_same, upd_ne, arg0, argS, Nat.reduceEqDiff, not_false_eq_true, List.map, bin_eql, bin_neq, bin_lss, bin_leq, bin_gtr, bin_geq, bin_add, bin_sub, bin_mul, ret_r1, ret_n1, beq_self_eq_true, bne_self_eq_false, Bool.true_beq, Bool.false_beq, Bool.not_true, Bool.not_false]
  refine (c14 _ _ _).mono ?_
  rintro _ _ _ ⟨rfl, e1, e2⟩; obtain rfl := e1.symm; obtain rfl := e2.symm; clear e1 e2
  simp only [k_seq, k_reg, k_nor, k_sn, k_sr, k_se, k_nil, k_pur, k_new, k_eff, k_call, k_some, k_nsome, k_esome, k_ap, k_grd, k_gt, k_gf, k_want, k_wu, k_cond, k_ct, k_cf, wpI_blk, wpI_ret, wpI_exit, wpI_skip, then_n, then_r, then_e, blk_n, blk_r, blk_e, blk_ne, u_some, u_none, f_mv, f_bin, f_un, n_neg, n_not, p_t, p_f, q_b, q_c, ev_t, ev_k, upd_same, upd_ne, arg0, argS, Nat.reduceEqDiff, not_false_eq_true, List.map, bin_eql, bin_neq, bin_lss, bin_leq, bin_gtr, bin_geq, bin_add, bin_sub, bin_mul, ret_r1, ret_n1, beq_self_eq_true, bne_self_eq_false, Bool.true_beq, Bool.false_beq, Bool.not_true, Bool.not_false]
  refine (c14 _ _ _).mono ?_
  rintro _ _ _ ⟨rfl, e1, e2⟩; obtain rfl := e1.symm; obtain rfl := e2.symm; clear e1 e2
  simp only [k_ap, k_pur, f_mv, k_some, k_nil, k_nor, u_some, ev_t, upd_same, upd_ne, Nat.reduceEqDiff, not_false_eq_true]
  rw [k_sn]
  refine k_mid (fun s => s.T 0 = .int .i64 x ∧ s.T 1 = .int .i64 y ∧ s.T 5 = .int .i64 (F x) ∧ s.T 6 = .int .i64 (F y) ∧ s.H = H ∧ s.c = c) ?_ ?_
  · simp only [k_seq, k_reg, k_nor, k_sn, k_sr, k_se, k_nil, k_pur, k_new, k_eff, k_call, k_some, k_nsome, k_esome, k_ap, k_grd, k_gt, k_gf, k_want, k_wu, k_cond, k_ct, k_cf, wpI_blk, wpI_ret, wpI_exit, wpI_skip, then_n, then_r, then_e, blk_n, blk_r, blk_e, blk_ne, u_some, u_none, f_mv, f_bin, f_un, n_neg, n_not, p_t, p_f, q_b, q_c, ev_t, ev_k, upd_same, upd_ne, arg0, argS, Nat.reduceEqDiff, not_false_eq_true, List.map, bin_eql, bin_neq, bin_lss, bin_leq, bin_gtr, bin_geq, bin_add, bin_sub, bin_mul, ret_r1, ret_n1, beq_self_eq_true, bne_self_eq_false, Bool.true_beq, Bool.false_beq, Bool.not_true, Bool.not_false]
    rw [wpI_loop]
    refine IW.loop (fun n s => ∃ k : Nat, 12 ≤ k ∧ k ≤ 25 ∧ n = 25 - k ∧ s.T 0 = .int .i64 x ∧ s.T 1 = .int .i64 y ∧ s.T 5 = .int .i64 (F x) ∧ s.T 6 = .int .i64 (F y) ∧ s.T 7 = .int .i64 k ∧ s.H = H ∧ s.c = c) 13 ⟨12, by omega, by omega, rfl, rfl, rfl, rfl, rfl, rfl, rfl, rfl⟩ ?_
    rintro n ⟨T, H1, c1⟩ ⟨k, hk0, hk, rfl, h0, h1, h5, h6, h7, e1, e2⟩
    obtain rfl := e1.symm
    obtain rfl := e2.symm
    clear e1 e2
    replace h0 : T 0 = .int .i64 x := h0
    replace h1 : T 1 = .int .i64 y := h1
    replace h5 : T 5 = .int .i64 (F x) := h5
    replace h6 : T 6 = .int .i64 (F y) := h6
    replace h7 : T 7 = .int .i64 k := h7
    simp only [k_seq, k_reg, k_nor, k_sn, k_sr, k_se, k_nil, k_pur, k_new, k_eff, k_call, k_some, k_nsome, k_esome, k_ap, k_grd, k_gt, k_gf, k_want, k_wu, k_cond, k_ct, k_cf, wpI_blk, wpI_ret, wpI_exit, wpI_skip, then_n, then_r, then_e, blk_n, blk_r, blk_e, blk_ne, u_some, u_none, f_mv, f_bin, f_un, n_neg, n_not, p_t, p_f, q_b, q_c, ev_t, ev_k, upd_same, upd_ne, arg0, argS, Nat.reduceEqDiff, not_false_eq_true, List.map, bin_eql, bin_neq, bin_lss, bin_leq, bin_gtr, bin_geq, bin_add, bin_sub, bin_mul, ret_r1, ret_n1, beq_self_eq_true, bne_self_eq_false, Bool.true_beq, Bool.false_beq, Bool.not_true, Bool.not_false, h0, h1, h5, h6, h7]
    refine k_cb (fun hlt => ?_) (fun hge => ?_)
    rotate_left
    · simp only [k_seq, k_reg, k_nor, k_sn, k_sr, k_se, k_nil, k_pur, k_new, k_eff, k_call, k_some, k_nsome, k_esome, k_ap, k_grd, k_gt, k_gf, k_want, k_wu, k_cond, k_ct, k_cf, wpI_blk, wpI_ret, wpI_exit, wpI_skip, then_n, then_r, then_e, blk_n, blk_r, blk_e, blk_ne, u_some, u_none, f_mv, f_bin, f_un, n_neg, n_not, p_t, p_f, q_b, q_c, ev_t, ev_k, upd_same, upd_ne, arg0, argS, Nat.reduceEqDiff, not_false_eq_true, List.map, bin_eql, bin_neq, bin_lss, bin_leq, bin_gtr, bin_geq, bin_add, bin_sub, bin_mul, ret_r1, ret_n1, beq_self_eq_true, bne_self_eq_false, Bool.true_beq, Bool.false_beq, Bool.not_true, Bool.not_false, h0, h1, h5, h6, and_self]
    simp only [decide_eq_true_eq] at hlt
    obtain ⟨l1, l2⟩ := hB1 k (by omega) (by omega)
    have d1 : decide (B k x y < m1) = false := decide_eq_false (by omega)
    have d2 : decide (B k x y > m2) = false := decide_eq_false (by omega)
    have d3 := hB2 k
    have fin : wpI Tryz.prog 157 .skip ⟨T, H, c⟩ (fun _ _ => True) := trivial
    simp only [k_seq, k_reg, k_nor, k_sn, k_sr, k_se, k_nil, k_pur, k_new, k_eff, k_call, k_some, k_nsome, k_esome, k_ap, k_grd, k_gt, k_gf, k_want, k_wu, k_cond, k_ct, k_cf, wpI_blk, wpI_ret, wpI_exit, wpI_skip, then_n, then_r, then_e, blk_n, blk_r, blk_e, blk_ne, u_some, u_none, f_mv, f_bin, f_un, n_neg, n_not, p_t, p_f, q_b, q_c, ev_t, ev_k, upd_same, upd_ne, arg0, argS, Nat.reduceEqDiff, not_false_eq_true, List.map, bin_eql, bin_neq, bin_lss, bin_leq, bin_gtr, bin_geq, bin_add, bin_sub, bin_mul, ret_r1, ret_n1, beq_self_eq_true, bne_self_eq_false, Bool.true_beq, Bool.false_beq, Bool.not_true, Bool.not_false, h0, h1, h5, h6, h7]
    refine (c12 _ _ _ _ _).mono ?_
    rintro _ _ _ ⟨rfl, e1, e2⟩; obtain rfl := e1.symm; obtain rfl := e2.symm; clear e1 e2
    simp only [k_seq, k_reg, k_nor, k_sn, k_sr, k_se, k_nil, k_pur, k_new, k_eff, k_call, k_some, k_nsome, k_esome, k_ap, k_grd, k_gt, k_gf, k_want, k_wu, k_cond, k_ct, k_cf, wpI_blk, wpI_ret, wpI_exit, wpI_skip, then_n, then_r, then_e, blk_n, blk_r, blk_e, blk_ne, u_some, u_none, f_mv, f_bin, f_un, n_neg, n_not, p_t, p_f, q_b, q_c, ev_t, ev_k, upd_same, upd_ne, arg0, argS, Nat.reduceEqDiff, not_false_eq_true, List.map, bin_eql, bin_neq, bin_lss, bin_leq, bin_gtr, bin_geq, bin_add, bin_sub, bin_mul, ret_r1, ret_n1, beq_self_eq_true, bne_self_eq_false, Bool.true_beq, Bool.false_beq, Bool.not_true, Bool.not_false, h0, h1, h5, h6, h7, d1, d2]
    refine (c12 _ _ _ _ _).mono ?_
    rintro _ _ _ ⟨rfl, e1, e2⟩; obtain rfl := e1.symm; obtain rfl := e2.symm; clear e1 e2
    rw [d3]
    simp only [k_seq, k_reg, k_nor, k_sn, k_sr, k_se, k_nil, k_pur, k_new, k_eff, k_call, k_some, k_nsome, k_esome, k_ap, k_grd, k_gt, k_gf, k_want, k_wu, k_cond, k_ct, k_cf, wpI_blk, wpI_ret, wpI_exit, wpI_skip, then_n, then_r, then_e, blk_n, blk_r, blk_e, blk_ne, u_some, u_none, f_mv, f_bin, f_un, n_neg, n_not, p_t, p_f, q_b, q_c, ev_t, ev_k, upd_same, upd_ne, arg0, argS, Nat.reduceEqDiff, not_false_eq_true, List.map, bin_eql, bin_neq, bin_lss, bin_leq, bin_gtr, bin_geq, bin_add, bin_sub, bin_mul, ret_r1, ret_n1, beq_self_eq_true, bne_self_eq_false, Bool.true_beq, Bool.false_beq, Bool.not_true, Bool.not_false, h0, h1, h5, h6, h7, d1, d2]
    have hw : IntKind.i64.wrap ((k : Int) + 1) = ((k + 1 : Nat) : Int) := by rw [wrap64 (by omega) (by omega)]; omega
    by_cases h17 : 17 ≤ k
    · have d4 : decide ((k : Int) ≥ 17) = true := decide_eq_true (by omega)
      rcases hB3 k (by omega) (by omega) with hz | hz
      · simp only [k_seq, k_reg, k_nor, k_sn, k_sr, k_se, k_nil, k_pur, k_new, k_eff, k_call, k_some, k_nsome, k_esome, k_ap, k_grd, k_gt, k_gf, k_want, k_wu, k_cond, k_ct, k_cf, wpI_blk, wpI_ret, wpI_exit, wpI_skip, then_n, then_r, then_e, blk_n, blk_r, blk_e, blk_ne, u_some, u_none, f_mv, f_bin, f_un, n_neg, n_not, p_t, p_f, q_b, q_c, ev_t, ev_k, upd_same, upd_ne, arg0, argS, Nat.reduceEqDiff, not_false_eq_true, List.map, bin_eql, bin_neq, bin_lss, bin_leq, bin_gtr, bin_geq, bin_add, bin_sub, bin_mul, ret_r1, ret_n1, beq_self_eq_true, bne_self_eq_false, Bool.true_beq, Bool.false_beq, Bool.not_true, Bool.not_false, h0, h1, h5, h6, h7, d1, d2, d4, hz]
        rw [hw]
        exact ⟨24 - k, by omega, k + 1, by omega, by omega, by omega, by simp only [k_seq, k_reg, k_nor, k_sn, k_sr, k_se, k_nil, k_pur, k_new, k_eff, k_call, k_some, k_nsome, k_esome, k_ap, k_grd, k_gt, k_gf, k_want, k_wu, k_cond, k_ct, k_cf, wpI_blk, wpI_ret, wpI_exit, wpI_skip, then_n, then_r, then_e, blk_n, blk_r, blk_e, blk_ne, u_some, u_none, f_mv, f_bin, f_un, n_neg, n_not, p_t, p_f, q_b, q_c, ev_t, ev_k, upd_same, upd_ne, arg0, argS, Nat.reduceEqDiff, not_false_eq_true, List.map, bin_eql, bin_neq, bin_lss, bin_leq, bin_gtr, bin_geq, bin_add, bin_sub, bin_mul, ret_r1, ret_n1, beq_self_eq_true, bne_self_eq_false, Bool.true_beq, Bool.false_beq, Bool.not_true, Bool.not_false, h0], by simp only [k_seq, k_reg, k_nor, k_sn, k_sr, k_se, k_nil, k_pur, k_new, k_eff, k_call, k_some, k_nsome, k_esome, k_ap, k_grd, k_gt, k_gf, k_want, k_wu, k_cond, k_ct, k_cf, wpI_blk, wpI_ret, wpI_exit, wpI_skip, then_n, then_r, then_e, blk_n, blk_r, blk_e, blk_ne, u_some, u_none, f_mv, f_bin, f_un, n_neg, n_not, p_t, p_f, q_b, q_c, ev_t, ev_k, upd_same, upd_ne, arg0, argS, Nat.reduceEqDiff, not_false_eq_true, List.map, bin_eql, bin_neq, bin_lss, bin_leq, bin_gtr, bin_geq, bin_add, bin_sub, bin_mul, ret_r1, ret_n1, beq_self_eq_true, bne_self_eq_false, Bool.true_beq, Bool.false_beq, Bool.not_true, Bool.not_false, h1], by simp only [k_seq, k_reg, k_nor, k_sn, k_sr, k_se, k_nil, k_pur, k_new, k_eff, k_call, k_some, k_nsome, k_esome, k_ap, k_grd, k_gt, k_gf, k_want, k_wu, k_cond, k_ct, k_cf, wpI_blk, wpI_ret, wpI_exit, wpI_skip, then_n, then_r, then_e, blk_n, blk_r, blk_e, blk_ne, u_some, u_none, f_mv, f_bin, f_un, n_neg, n_not, p_t, p_f, q_b, q_c, ev_t, ev_k, upd_same, upd_ne, arg0, argS, Nat.reduceEqDiff, not_false_eq_true, List.map, bin_eql, bin_neq, bin_lss, bin_leq, bin_gtr, bin_geq, bin_add, bin_sub, bin_mul, ret_r1, ret_n1, beq_self_eq_true, bne_self_eq_false, Bool.true_beq, Bool.false_beq, Bool.not_true, Bool.not_false, h5], by simp only [k_seq, k_reg, k_nor, k_sn, k_sr, k_se, k_nil, k_pur, k_new, k_eff, k_call, k_some, k_nsome, k_esome, k_ap, k_grd, k_gt, k_gf, k_want, k_wu, k_cond, k_ct, k_cf, wpI_blk, wpI_ret, wpI_exit, wpI_skip, then_n, then_r, then_e, blk_n, blk_r, blk_e, blk_ne, u_some, u_none, f_mv, f_bin, f_un, n_neg, n_not, p_t, p_f, q_b, q_c, ev_t, ev_k, upd_same, upd_ne, arg0, argS, Nat.reduceEqDiff, not_false_eq_true, List.map, bin_eql, bin_neq, bin_lss, bin_leq, bin_gtr, bin_geq, bin_add, bin_sub, bin_mul, ret_r1, ret_n1, beq_self_eq_true, bne_self_eq_false, Bool.true_beq, Bool.false_beq, Bool.not_true, Bool.not_false, h6], by simp only [k_seq, k_reg, k_nor, k_sn, k_sr, k_se, k_nil, k_pur, k_new, k_eff, k_call, k_some, k_nsome, k_esome, k_ap, k_grd, k_gt, k_gf, k_want, k_wu, k_cond, k_ct, k_cf, wpI_blk, wpI_ret, wpI_exit, wpI_skip, then_n, then_r, then_e, blk_n, blk_r, blk_e, blk_ne, u_some, u_none, f_mv, f_bin, f_un, n_neg, n_not, p_t, p_f, q_b, q_c, ev_t, ev_k, upd_same, upd_ne, arg0, argS, Nat.reduceEqDiff, not_false_eq_true, List.map, bin_eql, bin_neq, bin_lss, bin_leq, bin_gtr, bin_geq, bin_add, bin_sub, bin_mul, ret_r1, ret_n1, beq_self_eq_true, bne_self_eq_false, Bool.true_beq, Bool.false_beq, Bool.not_true, Bool.not_false], trivial, trivial⟩
      · have o1 : ((1 : Int) != 0) = true := rfl
        simp only [k_seq, k_reg, k_nor, k_sn, k_sr, k_se, k_nil, k_pur, k_new, k_eff, k_call, k_some, k_nsome, k_esome, k_ap, k_grd, k_gt, k_gf, k_want, k_wu, k_cond, k_ct, k_cf, wpI_blk, wpI_ret, wpI_exit, wpI_skip, then_n, then_r, then_e, blk_n, blk_r, blk_e, blk_ne, u_some, u_none, f_mv, f_bin, f_un, n_neg, n_not, p_t, p_f, q_b, q_c, ev_t, ev_k, upd_same, upd_ne, arg0, argS, Nat.reduceEqDiff, not_false_eq_true, List.map, bin_eql, bin_neq, bin_lss, bin_leq, bin_gtr, bin_geq, bin_add, bin_sub, bin_mul, ret_r1, ret_n1, beq_self_eq_true, bne_self_eq_false, Bool.true_beq, Bool.false_beq, Bool.not_true, Bool.not_false, h0, h1, h5, h6, h7, d1, d2, d4, hz, o1]
        rw [hw]
        exact ⟨24 - k, by omega, k + 1, by omega, by omega, by omega, by simp only [k_seq, k_reg, k_nor, k_sn, k_sr, k_se, k_nil, k_pur, k_new, k_eff, k_call, k_some, k_nsome, k_esome, k_ap, k_grd, k_gt, k_gf, k_want, k_wu, k_cond, k_ct, k_cf, wpI_blk, wpI_ret, wpI_exit, wpI_skip, then_n, then_r, then_e, blk_n, blk_r, blk_e, blk_ne, u_some, u_none, f_mv, f_bin, f_un, n_neg, n_not, p_t, p_f, q_b, q_c, ev_t, ev_k, upd_same, upd_ne, arg0, argS, Nat.reduceEqDiff, not_false_eq_true, List.map, bin_eql, bin_neq, bin_lss, bin_leq, bin_gtr, bin_geq, bin_add, bin_sub, bin_mul, ret_r1, ret_n1, beq_self_eq_true, bne_self_eq_false, Bool.true_beq, Bool.false_beq, Bool.not_true, Bool.not_false, h0], by simp only [k_seq, k_reg, k_nor, k_sn, k_sr, k_se, k_nil, k_pur, k_new, k_eff, k_call, k_some, k_nsome, k_esome, k_ap, k_grd, k_gt, k_gf, k_want, k_wu, k_cond, k_ct, k_cf, wpI_blk, wpI_ret, wpI_exit, wpI_skip, then_n, then_r, then_e, blk_n, blk_r, blk_e, blk_ne, u_some, u_none, f_mv, f_bin, f_un, n_neg, n_not, p_t, p_f, q_b, q_c, ev_t, ev_k, upd_same, upd_ne, arg0, argS, Nat.reduceEqDiff, not_false_eq_true, List.map, bin_eql, bin_neq, bin_lss, bin_leq, bin_gtr, bin_geq, bin_add, bin_sub, bin_mul, ret_r1, ret_n1, beq_self_eq_true, bne_self_eq_false, Bool.true_beq, Bool.false_beq, Bool.not_true, Bool.not_false, h1], by simp only [k_seq, k_reg, k_nor, k_sn, k_sr, k_se, k_nil, k_pur, k_new, k_eff, k_call, k_some, k_nsome, k_esome, k_ap, k_grd, k_gt, k_gf, k_want, k_wu, k_cond, k_ct, k_cf, wpI_blk, wpI_ret, wpI_exit, wpI_skip, then_n, then_r, then_e, blk_n, blk_r, blk_e, blk_ne, u_some, u_none, f_mv, f_bin, f_un, n_neg, n_not, p_t, p_f, q_b, q_c, ev_t, ev_k, upd_same, upd_ne, arg0, argS, Nat.reduceEqDiff, not_false_eq_true, List.map, bin_eql, bin_neq, bin_lss, bin_leq, bin_gtr, bin_geq, bin_add, bin_sub, bin_mul, ret_r1, ret_n1, beq_self_eq_true, bne_self_eq_false, Bool.true_beq, Bool.false_beq, Bool.not_true, Bool.not_false, h5], by simp only [k_seq, k_reg, k_nor, k_sn, k_sr, k_se, k_nil, k_pur, k_new, k_eff, k_call, k_some, k_nsome, k_esome, k_ap, k_grd, k_gt, k_gf, k_want, k_wu, k_cond, k_ct, k_cf, wpI_blk, wpI_ret, wpI_exit, wpI_skip, then_n, then_r, then_e, blk_n, blk_r, blk_e, blk_ne, u_some, u_none, f_mv, f_bin, f_un, n_neg, n_not, p_t, p_f, q_b, q_c, ev_t, ev_k, upd_same, upd_ne, arg0, argS, Nat.reduceEqDiff, not_false_eq_true, List.map, bin_eql, bin_neq, bin_lss, bin_leq, bin_gtr, bin_geq, bin_add, bin_sub, bin_mul, ret_r1, ret_n1, beq_self_eq_true, bne_self_eq_false, Bool.true_beq, Bool.false_beq, Bool.not_true, Bool.not_false, h6], by simp only [k_seq, k_reg, k_nor, k_sn, k_sr, k_se, k_nil, k_pur, k_new, k_eff, k_call, k_some, k_nsome, k_esome, k_ap, k_grd, k_gt, k_gf, k_want, k_wu, k_cond, k_ct, k_cf, wpI_blk, wpI_ret, wpI_exit, wpI_skip, then_n, then_r, then_e, blk_n, blk_r, blk_e, blk_ne, u_some, u_none, f_mv, f_bin, f_un, n_neg, n_not, p_t, p_f, q_b, q_c, ev_t, ev_k, upd_same, upd_ne, arg0, argS, Nat.reduceEqDiff, not_false_eq_true, List.map, bin_eql, bin_neq, bin_lss, bin_leq, bin_gtr, bin_geq, bin_add, bin_sub, bin_mul, ret_r1, ret_n1, beq_self_eq_true, bne_self_eq_false, Bool.true_beq, Bool.false_beq, Bool.not_true, Bool.not_false], trivial, trivial⟩
    · have d4 : decide ((k : Int) ≥ 17) = false := decide_eq_false (by omega)
      simp only [k_seq, k_reg, k_nor, k_sn, k_sr, k_se, k_nil, k_pur, k_new, k_eff, k_call, k_some, k_nsome, k_esome, k_ap, k_grd, k_gt, k_gf, k_want, k_wu, k_cond, k_ct, k_cf, wpI_blk, wpI_ret, wpI_exit, wpI_skip, then_n, then_r, then_e, blk_n, blk_r, blk_e, blk_ne, u_some, u_none, f_mv, f_bin, f_un, n_neg, n_not, p_t, p_f, q_b, q_c, ev_t, ev_k, upd_same, upd_ne, arg0, argS, Nat.reduceEqDiff, not_false_eq_true, List.map, bin_eql, bin_neq, bin_lss, bin_leq, bin_gtr, bin_geq, bin_add, bin_sub, bin_mul, ret_r1, ret_n1, beq_self_eq_true, bne_self_eq_false, Bool.true_beq, Bool.false_beq, Bool.not_true, Bool.not_false, h0, h1, h5, h6, h7, d1, d2, d4]
      rw [hw]
      exact ⟨24 - k, by omega, k + 1, by omega, by omega, by omega, by simp only [k_seq, k_reg, k_nor, k_sn, k_sr, k_se, k_nil, k_pur, k_new, k_eff, k_call, k_some, k_nsome, k_esome, k_ap, k_grd, k_gt, k_gf, k_want, k_wu, k_cond, k_ct, k_cf, wpI_blk, wpI_ret, wpI_exit, wpI_skip, then_n, then_r, then_e, blk_n, blk_r, blk_e, blk_ne, u_some, u_none, f_mv, f_bin, f_un, n_neg, n_not, p_t, p_f, q_b, q_c, ev_t, ev_k, upd_same, upd_ne, arg0, argS, Nat.reduceEqDiff, not_false_eq_true, List.map, bin_eql, bin_neq, bin_lss, bin_leq, bin_gtr, bin_geq, bin_add, bin_sub, bin_mul, ret_r1, ret_n1, beq_self_eq_true, bne_self_eq_false, Bool.true_beq, Bool.false_beq, Bool.not_true, Bool.not_false, h0], by simp only [k_seq, k_reg, k_nor, k_sn, k_sr, k_se, k_nil, k_pur, k_new, k_eff, k_call, k_some, k_nsome, k_esome, k_ap, k_grd, k_gt, k_gf, k_want, k_wu, k_cond, k_ct, k_cf, wpI_blk, wpI_ret, wpI_exit, wpI_skip, then_n, then_r, then_e, blk_n, blk_r, blk_e, blk_ne, u_some, u_none, f_mv, f_bin, f_un, n_neg, n_not, p_t, p_f, q_b, q_c, ev_t, ev_k, upd_same, upd_ne, arg0, argS, Nat.reduceEqDiff, not_false_eq_true, List.map, bin_eql, bin_neq, bin_lss, bin_leq, bin_gtr, bin_geq, bin_add, bin_sub, bin_mul, ret_r1, ret_n1, beq_self_eq_true, bne_self_eq_false, Bool.true_beq, Bool.false_beq, Bool.not_true, Bool.not_false, h1], by simp only [k_seq, k_reg, k_nor, k_sn, k_sr, k_se, k_nil, k_pur, k_new, k_eff, k_call, k_some, k_nsome, k_esome, k_ap, k_grd, k_gt, k_gf, k_want, k_wu, k_cond, k_ct, k_cf, wpI_blk, wpI_ret, wpI_exit, wpI_skip, then_n, then_r, then_e, blk_n, blk_r, blk_e, blk_ne, u_some, u_none, f_mv, f_bin, f_un, n_neg, n_not, p_t, p_f, q_b, q_c, ev_t, ev_k, upd_same, upd_ne, arg0, argS, Nat.reduceEqDiff, not_false_eq_true, List.map, bin_eql, bin_neq, bin_lss, bin_leq, bin_gtr, bin_geq, bin_add, bin_sub, bin_mul, ret_r1, ret_n1, beq_self_eq_true, bne_self_eq_false, Bool.true_beq, Bool.false_beq, Bool.not_true, Bool.not_false, h5], by simp only [k_seq, k_reg, k_nor, k_sn, k_sr, k_se, k_nil, k_pur, k_new, k_eff, k_call, k_some, k_nsome, k_esome, k_ap, k_grd, k_gt, k_gf, k_want, k_wu, k_cond, k_ct, k_cf, wpI_blk, wpI_ret, wpI_exit, wpI_skip, then_n, then_r, then_e, blk_n, blk_r, blk_e, blk_ne, u_some, u_none, f_mv, f_bin, f_un, n_neg, n_not, p_t, p_f, q_b, q_c, ev_t, ev_k, upd_same, upd_ne, arg0, argS, Nat.reduceEqDiff, not_false_eq_true, List.map, bin_eql, bin_neq, bin_lss, bin_leq, bin_gtr, bin_geq, bin_add, bin_sub, bin_mul, ret_r1, ret_n1, beq_self_eq_true, bne_self_eq_false, Bool.true_beq, Bool.false_beq, Bool.not_true, Bool.not_false, h6], by simp only [k_seq, k_reg, k_nor, k_sn, k_sr, k_se, k_nil, k_pur, k_new, k_eff, k_call, k_some, k_nsome, k_esome, k_ap, k_grd, k_gt, k_gf, k_want, k_wu, k_cond, k_ct, k_cf, wpI_blk, wpI_ret, wpI_exit, wpI_skip, then_n, then_r, then_e, blk_n, blk_r, blk_e, blk_ne, u_some, u_none, f_mv, f_bin, f_un, n_neg, n_not, p_t, p_f, q_b, q_c, ev_t, ev_k, upd_same, upd_ne, arg0, argS, Nat.reduceEqDiff, not_false_eq_true, List.map, bin_eql, bin_neq, bin_lss, bin_leq, bin_gtr, bin_geq, bin_add, bin_sub, bin_mul, ret_r1, ret_n1, beq_self_eq_true, bne_self_eq_false, Bool.true_beq, Bool.false_beq, Bool.not_true, Bool.not_false], trivial, trivial⟩
  · rintro ⟨T, H1, c1⟩ ⟨h0, h1, h5, h6, e1, e2⟩
    obtain rfl := e1.symm
    obtain rfl := e2.symm
    clear e1 e2
    replace h0 : T 0 = .int .i64 x := h0
    replace h1 : T 1 = .int .i64 y := h1
    replace h5 : T 5 = .int .i64 (F x) := h5
    replace h6 : T 6 = .int .i64 (F y) := h6
    simp only [k_seq, k_reg, k_nor, k_sn, k_sr, k_se, k_nil, k_pur, k_new, k_eff, k_call, k_some, k_nsome, k_esome, k_ap, k_grd, k_gt, k_gf, k_want, k_wu, k_cond, k_ct, k_cf, wpI_blk, wpI_ret, wpI_exit, wpI_skip, then_n, then_r, then_e, blk_n, blk_r, blk_e, blk_ne, u_some, u_none, f_mv, f_bin, f_un, n_neg, n_not, p_t, p_f, q_b, q_c, ev_t, ev_k, upd_same, upd_ne, arg0, argS, Nat.reduceEqDiff, not_false_eq_true, List.map, bin_eql, bin_neq, bin_lss, bin_leq, bin_gtr, bin_geq, bin_add, bin_sub, bin_mul, ret_r1, ret_n1, beq_self_eq_true, bne_self_eq_false, Bool.true_beq, Bool.false_beq, Bool.not_true, Bool.not_false, h0, h1, h5, h6]
    refine (c12 _ _ _ _ _).mono ?_
    rintro _ _ _ ⟨rfl, e1, e2⟩; obtain rfl := e1.symm; obtain rfl := e2.symm; clear e1 e2
    simp only [k_seq, k_reg, k_nor, k_sn, k_sr, k_se, k_nil, k_pur, k_new, k_eff, k_call, k_some, k_nsome, k_esome, k_ap, k_grd, k_gt, k_gf, k_want, k_wu, k_cond, k_ct, k_cf, wpI_blk, wpI_ret, wpI_exit, wpI_skip, then_n, then_r, then_e, blk_n, blk_r, blk_e, blk_ne, u_some, u_none, f_mv, f_bin, f_un, n_neg, n_not, p_t, p_f, q_b, q_c, ev_t, ev_k, upd_same, upd_ne, arg0, argS, Nat.reduceEqDiff, not_false_eq_true, List.map, bin_eql, bin_neq, bin_lss, bin_leq, bin_gtr, bin_geq, bin_add, bin_sub, bin_mul, ret_r1, ret_n1, beq_self_eq_true, bne_self_eq_false, Bool.true_beq, Bool.false_beq, Bool.not_true, Bool.not_false, h0, h1, h5, h6]
    refine (c12 _ _ _ _ _).mono ?_
    rintro _ _ _ ⟨rfl, e1, e2⟩; obtain rfl := e1.symm; obtain rfl := e2.symm; clear e1 e2
    generalize hQ : B 13 (F x) (F y) = Q at *
    generalize hR : B 14 (F x) (F y) = R at *
    generalize hA : F x = A at *
    generalize hDD : F y = D at *
    simp only [k_ap, k_pur, f_mv, k_some, k_nil, k_nor, u_some, ev_t, upd_same, upd_ne, Nat.reduceEqDiff, not_false_eq_true]
    rw [k_sn]
    refine k_mid (fun s => s.T 5 = .int .i64 A ∧ s.T 6 = .int .i64 D ∧ s.H = H ∧ s.c = c) ?_ ?_
    · by_cases hz : D = 0
      · obtain ⟨z1, z2⟩ := hq4 hz
        have b1 : (D != 0) = false := by rw [hz]; rfl
        have b2 : (D == 0) = true := by rw [hz]; rfl
        have b3 : (Q != 0) = false := by rw [z1]; rfl
        have b4 : (R != 0) = false := by rw [z2]; rfl
        simp only [k_seq, k_reg, k_nor, k_sn, k_sr, k_se, k_nil, k_pur, k_new, k_eff, k_call, k_some, k_nsome, k_esome, k_ap, k_grd, k_gt, k_gf, k_want, k_wu, k_cond, k_ct, k_cf, wpI_blk, wpI_ret, wpI_exit, wpI_skip, then_n, then_r, then_e, blk_n, blk_r, blk_e, blk_ne, u_some, u_none, f_mv, f_bin, f_un, n_neg, n_not, p_t, p_f, q_b, q_c, ev_t, ev_k, upd_same, upd_ne, arg0, argS, Nat.reduceEqDiff, not_false_eq_true, List.map, bin_eql, bin_neq, bin_lss, bin_leq, bin_gtr, bin_geq, bin_add, bin_sub, bin_mul, ret_r1, ret_n1, beq_self_eq_true, bne_self_eq_false, Bool.true_beq, Bool.false_beq, Bool.not_true, Bool.not_false, h0, h1, h5, h6, b1, b2, b3, b4, and_self]
      · have b1 : (D != 0) = true := by simpa using hz
        have b2 : (D == 0) = false := by simpa using hz
        have n1 : (IntKind.i64.wrap (IntKind.i64.wrap (Q * D) + R) != A) = false := by rw [hq1 hz]; simp
        have n2 : decide (IntKind.i64.wrap (R * R) ≥ IntKind.i64.wrap (D * D)) = false := decide_eq_false (by have := hq3 hz; omega)
        by_cases hr0 : R = 0
        · have n3 : (R != 0) = false := by rw [hr0]; rfl
          simp only [k_seq, k_reg, k_nor, k_sn, k_sr, k_se, k_nil, k_pur, k_new, k_eff, k_call, k_some, k_nsome, k_esome, k_ap, k_grd, k_gt, k_gf, k_want, k_wu, k_cond, k_ct, k_cf, wpI_blk, wpI_ret, wpI_exit, wpI_skip, then_n, then_r, then_e, blk_n, blk_r, blk_e, blk_ne, u_some, u_none, f_mv, f_bin, f_un, n_neg, n_not, p_t, p_f, q_b, q_c, ev_t, ev_k, upd_same, upd_ne, arg0, argS, Nat.reduceEqDiff, not_false_eq_true, List.map, bin_eql, bin_neq, bin_lss, bin_leq, bin_gtr, bin_geq, bin_add, bin_sub, bin_mul, ret_r1, ret_n1, beq_self_eq_true, bne_self_eq_false, Bool.true_beq, Bool.false_beq, Bool.not_true, Bool.not_false, h0, h1, h5, h6, b1, b2, n1, n2, n3, and_self]
        · have n3 : (R != 0) = true := by simpa using hr0
          have n4 : (decide (R < 0) == decide (A < 0)) = true := by
            rcases hq2 hz with hr | hr
            · exact absurd hr hr0
            · rw [decide_eq_decide.2 hr]; exact beq_self_eq_true _
          have n5 : (true != true) = false := rfl
          simp only [k_seq, k_reg, k_nor, k_sn, k_sr, k_se, k_nil, k_pur, k_new, k_eff, k_call, k_some, k_nsome, k_esome, k_ap, k_grd, k_gt, k_gf, k_want, k_wu, k_cond, k_ct, k_cf, wpI_blk, wpI_ret, wpI_exit, wpI_skip, then_n, then_r, then_e, blk_n, blk_r, blk_e, blk_ne, u_some, u_none, f_mv, f_bin, f_un, n_neg, n_not, p_t, p_f, q_b, q_c, ev_t, ev_k, upd_same, upd_ne, arg0, argS, Nat.reduceEqDiff, not_false_eq_true, List.map, bin_eql, bin_neq, bin_lss, bin_leq, bin_gtr, bin_geq, bin_add, bin_sub, bin_mul, ret_r1, ret_n1, beq_self_eq_true, bne_self_eq_false, Bool.true_beq, Bool.false_beq, Bool.not_true, Bool.not_false, h0, h1, h5, h6, b1, b2, n1, n2, n3, n4, n5, and_self]
    · rintro ⟨T2, H2, c2⟩ ⟨k5, k6, e1, e2⟩
      obtain rfl := e1.symm
      obtain rfl := e2.symm
      clear e1 e2
      replace k5 : T2 5 = .int .i64 A := k5
      replace k6 : T2 6 = .int .i64 D := k6
      simp only [k_seq, k_reg, k_nor, k_sn, k_sr, k_se, k_nil, k_pur, k_new, k_eff, k_call, k_some, k_nsome, k_esome, k_ap, k_grd, k_gt, k_gf, k_want, k_wu, k_cond, k_ct, k_cf, wpI_blk, wpI_ret, wpI_exit, wpI_skip, then_n, then_r, then_e, blk_n, blk_r, blk_e, blk_ne, u_some, u_none, f_mv, f_bin, f_un, n_neg, n_not, p_t, p_f, q_b, q_c, ev_t, ev_k, upd_same, upd_ne, arg0, argS, Nat.reduceEqDiff, not_false_eq_true, List.map, bin_eql, bin_neq, bin_lss, bin_leq, bin_gtr, bin_geq, bin_add, bin_sub, bin_mul, ret_r1, ret_n1, beq_self_eq_true, bne_self_eq_false, Bool.true_beq, Bool.false_beq, Bool.not_true, Bool.not_false, k5, k6]
      refine (c12 _ _ _ _ _).mono ?_
      rintro _ _ _ ⟨rfl, e1, e2⟩; obtain rfl := e1.symm; obtain rfl := e2.symm; clear e1 e2
      simp only [k_seq, k_reg, k_nor, k_sn, k_sr, k_se, k_nil, k_pur, k_new, k_eff, k_call, k_some, k_nsome, k_esome, k_ap, k_grd, k_gt, k_gf, k_want, k_wu, k_cond, k_ct, k_cf, wpI_blk, wpI_ret, wpI_exit, wpI_skip, then_n, then_r, then_e, blk_n, blk_r, blk_e, blk_ne, u_some, u_none, f_mv, f_bin, f_un, n_neg, n_not, p_t, p_f, q_b, q_c, ev_t, ev_k, upd_same, upd_ne, arg0, argS, Nat.reduceEqDiff, not_false_eq_true, List.map, bin_eql, bin_neq, bin_lss, bin_leq, bin_gtr, bin_geq, bin_add, bin_sub, bin_mul, ret_r1, ret_n1, beq_self_eq_true, bne_self_eq_false, Bool.true_beq, Bool.false_beq, Bool.not_true, Bool.not_false, k5, k6, g1, g2, g3, g4, g5, g6]
      refine (c12 _ _ _ _ _).mono ?_
      rintro _ _ _ ⟨rfl, e1, e2⟩; obtain rfl := e1.symm; obtain rfl := e2.symm; clear e1 e2
      simp only [k_seq, k_reg, k_nor, k_sn, k_sr, k_se, k_nil, k_pur, k_new, k_eff, k_call, k_some, k_nsome, k_esome, k_ap, k_grd, k_gt, k_gf, k_want, k_wu, k_cond, k_ct, k_cf, wpI_blk, wpI_ret, wpI_exit, wpI_skip, then_n, then_r, then_e, blk_n, blk_r, blk_e, blk_ne, u_some, u_none, f_mv, f_bin, f_un, n_neg, n_not, p_t, p_f, q_b, q_c, ev_t, ev_k, upd_same, upd_ne, arg0, argS, Nat.reduceEqDiff, not_false_eq_true, List.map, bin_eql, bin_neq, bin_lss, bin_leq, bin_gtr, bin_geq, bin_add, bin_sub, bin_mul, ret_r1, ret_n1, beq_self_eq_true, bne_self_eq_false, Bool.true_beq, Bool.false_beq, Bool.not_true, Bool.not_false, k5, k6, g1, g2, g3, g4, g5, g6]
      refine (c12 _ _ _ _ _).mono ?_
      rintro _ _ _ ⟨rfl, e1, e2⟩; obtain rfl := e1.symm; obtain rfl := e2.symm; clear e1 e2
      simp only [k_seq, k_reg, k_nor, k_sn, k_sr, k_se, k_nil, k_pur, k_new, k_eff, k_call, k_some, k_nsome, k_esome, k_ap, k_grd, k_gt, k_gf, k_want, k_wu, k_cond, k_ct, k_cf, wpI_blk, wpI_ret, wpI_exit, wpI_skip, then_n, then_r, then_e, blk_n, blk_r, blk_e, blk_ne, u_some, u_none, f_mv, f_bin, f_un, n_neg, n_not, p_t, p_f, q_b, q_c, ev_t, ev_k, upd_same, upd_ne, arg0, argS, Nat.reduceEqDiff, not_false_eq_true, List.map, bin_eql, bin_neq, bin_lss, bin_leq, bin_gtr, bin_geq, bin_add, bin_sub, bin_mul, ret_r1, ret_n1, beq_self_eq_true, bne_self_eq_false, Bool.true_beq, Bool.false_beq, Bool.not_true, Bool.not_false, k5, k6, g1, g2, g3, g4, g5, g6]
      refine (c12 _ _ _ _ _).mono ?_
      rintro _ _ _ ⟨rfl, e1, e2⟩; obtain rfl := e1.symm; obtain rfl := e2.symm; clear e1 e2
      simp only [k_seq, k_reg, k_nor, k_sn, k_sr, k_se, k_nil, k_pur, k_new, k_eff, k_call, k_some, k_nsome, k_esome, k_ap, k_grd, k_gt, k_gf, k_want, k_wu, k_cond, k_ct, k_cf, wpI_blk, wpI_ret, wpI_exit, wpI_skip, then_n, then_r, then_e, blk_n, blk_r, blk_e, blk_ne, u_some, u_none, f_mv, f_bin, f_un, n_neg, n_not, p_t, p_f, q_b, q_c, ev_t, ev_k, upd_same, upd_ne, arg0, argS, Nat.reduceEqDiff, not_false_eq_true, List.map, bin_eql, bin_neq, bin_lss, bin_leq, bin_gtr, bin_geq, bin_add, bin_sub, bin_mul, ret_r1, ret_n1, beq_self_eq_true, bne_self_eq_false, Bool.true_beq, Bool.false_beq, Bool.not_true, Bool.not_false, k5, k6, g1, g2, g3, g4, g5, g6]
      refine (c12 _ _ _ _ _).mono ?_
      rintro _ _ _ ⟨rfl, e1, e2⟩; obtain rfl := e1.symm; obtain rfl := e2.symm; clear e1 e2
      simp only [k_seq, k_reg, k_nor, k_sn, k_sr, k_se, k_nil, k_pur, k_new, k_eff, k_call, k_some, k_nsome, k_esome, k_ap, k_grd, k_gt, k_gf, k_want, k_wu, k_cond, k_ct, k_cf, wpI_blk, wpI_ret, wpI_exit, wpI_skip, then_n, then_r, then_e, blk_n, blk_r, blk_e, blk_ne, u_some, u_none, f_mv, f_bin, f_un, n_neg, n_not, p_t, p_f, q_b, q_c, ev_t, ev_k, upd_same, upd_ne, arg0, argS, Nat.reduceEqDiff, not_false_eq_true, List.map, bin_eql, bin_neq, bin_lss, bin_leq, bin_gtr, bin_geq, bin_add, bin_sub, bin_mul, ret_r1, ret_n1, beq_self_eq_true, bne_self_eq_false, Bool.true_beq, Bool.false_beq, Bool.not_true, Bool.not_false, k5, k6, g1, g2, g3, g4, g5, g6]
      refine (c12 _ _ _ _ _).mono ?_
      rintro _ _ _ ⟨rfl, e1, e2⟩; obtain rfl := e1.symm; obtain rfl := e2.symm; clear e1 e2
      simp only [k_seq, k_reg, k_nor, k_sn, k_sr, k_se, k_nil, k_pur, k_new, k_eff, k_call, k_some, k_nsome, k_esome, k_ap, k_grd, k_gt, k_gf, k_want, k_wu, k_cond, k_ct, k_cf, wpI_blk, wpI_ret, wpI_exit, wpI_skip, then_n, then_r, then_e, blk_n, blk_r, blk_e, blk_ne, u_some, u_none, f_mv, f_bin, f_un, n_neg, n_not, p_t, p_f, q_b, q_c, ev_t, ev_k, upd_same, upd_ne, arg0, argS, Nat.reduceEqDiff, not_false_eq_true, List.map, bin_eql, bin_neq, bin_lss, bin_leq, bin_gtr, bin_geq, bin_add, bin_sub, bin_mul, ret_r1, ret_n1, beq_self_eq_true, bne_self_eq_false, Bool.true_beq, Bool.false_beq, Bool.not_true, Bool.not_false, k5, k6, g1, g2, g3, g4, g5, g6]
      refine (c12 _ _ _ _ _).mono ?_
      rintro _ _ _ ⟨rfl, e1, e2⟩; obtain rfl := e1.symm; obtain rfl := e2.symm; clear e1 e2
      simp only [k_seq, k_reg, k_nor, k_sn, k_sr, k_se, k_nil, k_pur, k_new, k_eff, k_call, k_some, k_nsome, k_esome, k_ap, k_grd, k_gt, k_gf, k_want, k_wu, k_cond, k_ct, k_cf, wpI_blk, wpI_ret, wpI_exit, wpI_skip, then_n, then_r, then_e, blk_n, blk_r, blk_e, blk_ne, u_some, u_none, f_mv, f_bin, f_un, n_neg, n_not, p_t, p_f, q_b, q_c, ev_t, ev_k, upd_same, upd_ne, arg0, argS, Nat.reduceEqDiff, not_false_eq_true, List.map, bin_eql, bin_neq, bin_lss, bin_leq, bin_gtr, bin_geq, bin_add, bin_sub, bin_mul, ret_r1, ret_n1, beq_self_eq_true, bne_self_eq_false, Bool.true_beq, Bool.false_beq, Bool.not_true, Bool.not_false, k5, k6, g1, g2, g3, g4, g5, g6]
      refine (c12 _ _ _ _ _).mono ?_
      rintro _ _ _ ⟨rfl, e1, e2⟩; obtain rfl := e1.symm; obtain rfl := e2.symm; clear e1 e2
      simp only [k_seq, k_reg, k_nor, k_sn, k_sr, k_se, k_nil, k_pur, k_new, k_eff, k_call, k_some, k_nsome, k_esome, k_ap, k_grd, k_gt, k_gf, k_want, k_wu, k_cond, k_ct, k_cf, wpI_blk, wpI_ret, wpI_exit, wpI_skip, then_n, then_r, then_e, blk_n, blk_r, blk_e, blk_ne, u_some, u_none, f_mv, f_bin, f_un, n_neg, n_not, p_t, p_f, q_b, q_c, ev_t, ev_k, upd_same, upd_ne, arg0, argS, Nat.reduceEqDiff, not_false_eq_true, List.map, bin_eql, bin_neq, bin_lss, bin_leq, bin_gtr, bin_geq, bin_add, bin_sub, bin_mul, ret_r1, ret_n1, beq_self_eq_true, bne_self_eq_false, Bool.true_beq, Bool.false_beq, Bool.not_true, Bool.not_false, k5, k6, g1, g2, g3, g4, g5, g6]
      refine (c12 _ _ _ _ _).mono ?_
      rintro _ _ _ ⟨rfl, e1, e2⟩; obtain rfl := e1.symm; obtain rfl := e2.symm; clear e1 e2
      simp only [k_seq, k_reg, k_nor, k_sn, k_sr, k_se, k_nil, k_pur, k_new, k_eff, k_call, k_some, k_nsome, k_esome, k_ap, k_grd, k_gt, k_gf, k_want, k_wu, k_cond, k_ct, k_cf, wpI_blk, wpI_ret, wpI_exit, wpI_skip, then_n, then_r, then_e, blk_n, blk_r, blk_e, blk_ne, u_some, u_none, f_mv, f_bin, f_un, n_neg, n_not, p_t, p_f, q_b, q_c, ev_t, ev_k, upd_same, upd_ne, arg0, argS, Nat.reduceEqDiff, not_false_eq_true, List.map, bin_eql, bin_neq, bin_lss, bin_leq, bin_gtr, bin_geq, bin_add, bin_sub, bin_mul, ret_r1, ret_n1, beq_self_eq_true, bne_self_eq_false, Bool.true_beq, Bool.false_beq, Bool.not_true, Bool.not_false, k5, k6, g1, g2, g3, g4, g5, g6]
      refine (c12 _ _ _ _ _).mono ?_
      rintro _ _ _ ⟨rfl, e1, e2⟩; obtain rfl := e1.symm; obtain rfl := e2.symm; clear e1 e2
      simp only [k_seq, k_reg, k_nor, k_sn, k_sr, k_se, k_nil, k_pur, k_new, k_eff, k_call, k_some, k_nsome, k_esome, k_ap, k_grd, k_gt, k_gf, k_want, k_wu, k_cond, k_ct, k_cf, wpI_blk, wpI_ret, wpI_exit, wpI_skip, then_n, then_r, then_e, blk_n, blk_r, blk_e, blk_ne, u_some, u_none, f_mv, f_bin, f_un, n_neg, n_not, p_t, p_f, q_b, q_c, ev_t, ev_k, upd_same, upd_ne, arg0, argS, Nat.reduceEqDiff, not_false_eq_true, List.map, bin_eql, bin_neq, bin_lss, bin_leq, bin_gtr, bin_geq, bin_add, bin_sub, bin_mul, ret_r1, ret_n1, beq_self_eq_true, bne_self_eq_false, Bool.true_beq, Bool.false_beq, Bool.not_true, Bool.not_false, k5, k6, g1, g2, g3, g4, g5, g6]
      refine (c12 _ _ _ _ _).mono ?_
      rintro _ _ _ ⟨rfl, e1, e2⟩; obtain rfl := e1.symm; obtain rfl := e2.symm; clear e1 e2
      simp only [k_seq, k_reg, k_nor, k_sn, k_sr, k_se, k_nil, k_pur, k_new, k_eff, k_call, k_some, k_nsome, k_esome, k_ap, k_grd, k_gt, k_gf, k_want, k_wu, k_cond, k_ct, k_cf, wpI_blk, wpI_ret, wpI_exit, wpI_skip, then_n, then_r, then_e, blk_n, blk_r, blk_e, blk_ne, u_some, u_none, f_mv, f_bin, f_un, n_neg, n_not, p_t, p_f, q_b, q_c, ev_t, ev_k, upd_same, upd_ne, arg0, argS, Nat.reduceEqDiff, not_false_eq_true, List.map, bin_eql, bin_neq, bin_lss, bin_leq, bin_gtr, bin_geq, bin_add, bin_sub, bin_mul, ret_r1, ret_n1, beq_self_eq_true, bne_self_eq_false, Bool.true_beq, Bool.false_beq, Bool.not_true, Bool.not_false, k5, k6, g1, g2, g3, g4, g5, g6]
      refine (c10 _ _ _ _).mono ?_
      rintro _ _ _ ⟨rfl, e1, e2⟩; obtain rfl := e1.symm; obtain rfl := e2.symm; clear e1 e2
      simp only [k_seq, k_reg, k_nor, k_sn, k_sr, k_se, k_nil, k_pur, k_new, k_eff, k_call, k_some, k_nsome, k_esome, k_ap, k_grd, k_gt, k_gf, k_want, k_wu, k_cond, k_ct, k_cf, wpI_blk, wpI_ret, wpI_exit, wpI_skip, then_n, then_r, then_e, blk_n, blk_r, blk_e, blk_ne, u_some, u_none, f_mv, f_bin, f_un, n_neg, n_not, p_t, p_f, q_b, q_c, ev_t, ev_k, upd_same, upd_ne, arg0, argS, Nat.reduceEqDiff, not_false_eq_true, List.map, bin_eql, bin_neq, bin_lss, bin_leq, bin_gtr, bin_geq, bin_add, bin_sub, bin_mul, ret_r1, ret_n1, beq_self_eq_true, bne_self_eq_false, Bool.true_beq, Bool.false_beq, Bool.not_true, Bool.not_false, k5, k6, g1, g2, g3, g4, g5, g6]
      refine (c12 _ _ _ _ _).mono ?_
      rintro _ _ _ ⟨rfl, e1, e2⟩; obtain rfl := e1.symm; obtain rfl := e2.symm; clear e1 e2
      simp only [k_seq, k_reg, k_nor, k_sn, k_sr, k_se, k_nil, k_pur, k_new, k_eff, k_call, k_some, k_nsome, k_esome, k_ap, k_grd, k_gt, k_gf, k_want, k_wu, k_cond, k_ct, k_cf, wpI_blk, wpI_ret, wpI_exit, wpI_skip, then_n, then_r, then_e, blk_n, blk_r, blk_e, blk_ne, u_some, u_none, f_mv, f_bin, f_un, n_neg, n_not, p_t, p_f, q_b, q_c, ev_t, ev_k, upd_same, upd_ne, arg0, argS, Nat.reduceEqDiff, not_false_eq_true, List.map, bin_eql, bin_neq, bin_lss, bin_leq, bin_gtr, bin_geq, bin_add, bin_sub, bin_mul, ret_r1, ret_n1, beq_self_eq_true, bne_self_eq_false, Bool.true_beq, Bool.false_beq, Bool.not_true, Bool.not_false, k5, k6, g1, g2, g3, g4, g5, g6]
      refine (sane _ _).mono ?_
      rintro _ _ _ ⟨rfl, e1, e2⟩; obtain rfl := e1.symm; obtain rfl := e2.symm; clear e1 e2
      simp only [k_seq, k_reg, k_nor, k_sn, k_sr, k_se, k_nil, k_pur, k_new, k_eff, k_call, k_some, k_nsome, k_esome, k_ap, k_grd, k_gt, k_gf, k_want, k_wu, k_cond, k_ct, k_cf, wpI_blk, wpI_ret, wpI_exit, wpI_skip, then_n, then_r, then_e, blk_n, blk_r, blk_e, blk_ne, u_some, u_none, f_mv, f_bin, f_un, n_neg, n_not, p_t, p_f, q_b, q_c, ev_t, ev_k, upd_same, upd_ne, arg0, argS, Nat.reduceEqDiff, not_false_eq_true, List.map, bin_eql, bin_neq, bin_lss, bin_leq, bin_gtr, bin_geq, bin_add, bin_sub, bin_mul, ret_r1, ret_n1, beq_self_eq_true, bne_self_eq_false, Bool.true_beq, Bool.false_beq, Bool.not_true, Bool.not_false]
end Go.Proofs.YtniclakgfgmhhaaGreat
