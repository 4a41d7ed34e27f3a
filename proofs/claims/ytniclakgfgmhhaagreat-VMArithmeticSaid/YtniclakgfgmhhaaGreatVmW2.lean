import Derived.Test.YtniclakgfgmhhaaGreatEngW
import Derived.Test.YtniclakgfgmhhaaGreatVmU
set_option maxRecDepth 10000
set_option linter.unusedSimpArgs false
set_option linter.unusedVariables false
namespace Go.Proofs.YtniclakgfgmhhaaGreat
open Go.Eng

def clZ (n : Int) : Int := if 2147483647 < n then 2147483647 else if n < -2147483647 then -2147483647 else n
theorem clZ_max (n : Int) : (if (2147483647 : Int) < (if -2147483647 > n then -2147483647 else n) then 2147483647 else (if -2147483647 > n then -2147483647 else n)) = clZ n := by
  unfold clZ; split <;> split <;> (try split) <;> omega
theorem clZ_min (n : Int) : (if (-2147483647 : Int) > (if n < 2147483647 then n else 2147483647) then -2147483647 else (if n < 2147483647 then n else 2147483647)) = clZ n := by
  unfold clZ; split <;> split <;> (try split) <;> omega
abbrev Same (x : Value) (H : Hp) (c : Nat) : Value → Hp → Nat → Prop := fun v H' c' => v = x ∧ H' = H ∧ c' = c

def b14 (k1 k2 : Int) : IC := .seq (.reg [⟨(some 2), .pur (.mv (.k (.int .i64 0))), none⟩])
 (.seq (.reg [⟨(some 4), .pur (.mx (.t 0) (.k (.int .i64 k1))), none⟩,
   ⟨(some 5), .pur (.mn (.t 4) (.k (.int .i64 k2))), none⟩,
   ⟨(some 2), .pur (.mv (.t 5)), none⟩])
 (.ret))
theorem w14 (P : Program) (n k1 k2 : Int) (H : Hp) (c : Nat) : wpI P 6 (b14 k1 k2) ⟨argT [.int .i64 n], H, c⟩ (retQ [.tmp 2] (Same (.int .i64 (if k2 < (if k1 > n then k1 else n) then k2 else (if k1 > n then k1 else n))) H c)) := by
  simp only [b14, wpI, rwp, wantG, oneP, fev, updO, thenS, Opd.ev, upd_same, upd_ne, argT, List.getD_cons_zero, Nat.reduceEqDiff, not_false_eq_true, retQ, resV, resL, and_self, Same]
def b15 (k1 k2 : Int) : IC := .seq (.reg [⟨(some 2), .pur (.mv (.k (.int .i64 0))), none⟩])
 (.seq (.reg [⟨(some 4), .pur (.mn (.k (.int .i64 k2)) (.t 0)), none⟩,
   ⟨(some 5), .pur (.mx (.k (.int .i64 k1)) (.t 4)), none⟩,
   ⟨(some 2), .pur (.mv (.t 5)), none⟩])
 (.ret))
theorem w15 (P : Program) (n k1 k2 : Int) (H : Hp) (c : Nat) : wpI P 6 (b15 k1 k2) ⟨argT [.int .i64 n], H, c⟩ (retQ [.tmp 2] (Same (.int .i64 (if (if n < k2 then n else k2) > k1 then (if n < k2 then n else k2) else k1)) H c)) := by
  simp only [b15, wpI, rwp, wantG, oneP, fev, updO, thenS, Opd.ev, upd_same, upd_ne, argT, List.getD_cons_zero, Nat.reduceEqDiff, not_false_eq_true, retQ, resV, resL, and_self, Same]
theorem clZ_min2 (n : Int) : (if (if n < 2147483647 then n else 2147483647) > (-2147483647 : Int) then (if n < 2147483647 then n else 2147483647) else -2147483647) = clZ n := by
  unfold clZ; split <;> split <;> (try split) <;> omega

theorem c14 (n : Int) (H : Hp) (c : Nat) : AC Tryz.prog 14 [.int .i64 n] H c (Same (.int .i64 (clZ n)) H c) := by
  refine AC.of mixedU isU14 (Nat.le_of_ble_eq_true rfl) ?_
  have h := w14 Tryz.prog n (-2147483647) 2147483647 H c
  rw [clZ_max] at h
  exact h
theorem c15 (n : Int) (H : Hp) (c : Nat) : AC Tryz.prog 15 [.int .i64 n] H c (Same (.int .i64 (clZ n)) H c) := by
  refine AC.of mixedU isU15 (Nat.le_of_ble_eq_true rfl) ?_
  have h := w15 Tryz.prog n (-2147483647) 2147483647 H c
  rw [clZ_min2] at h
  exact h

def bitZ (b : Bool) : Int := if b then 1 else 0
theorem c27 (b : Bool) (H : Hp) (c : Nat) : AC Tryz.prog 27 [.bool b] H c (Same (.int .i64 (bitZ b)) H c) := by
  refine AC.of mixedU isU27 (Nat.le_of_ble_eq_true rfl) ?_
  cases b <;> simp only [u27, wpI, rwp, wantG, oneP, fev, updO, thenS, Opd.ev, upd_same, upd_ne, argT, List.getD_cons_zero, Nat.reduceEqDiff, not_false_eq_true, retQ, resV, resL] <;> exact ⟨rfl, rfl, rfl⟩
theorem c28 (b : Bool) (H : Hp) (c : Nat) : AC Tryz.prog 28 [.bool b] H c (Same (.int .i64 (bitZ b)) H c) := by
  refine AC.of mixedU isU28 (Nat.le_of_ble_eq_true rfl) ?_
  cases b <;> simp only [u28, wpI, rwp, wantG, oneP, fev, updO, thenS, Opd.ev, upd_same, upd_ne, argT, List.getD_cons_zero, Nat.reduceEqDiff, not_false_eq_true, retQ, resV, resL] <;> exact ⟨rfl, rfl, rfl⟩

def unZ (k a : Int) : Int := if k = 10 then IntKind.i64.wrap (0 - clZ a) else if k = 11 then bitZ (clZ a == 0) else 0

/-- Kind k of two numbers that are within the limits. -/
def bz (k A B : Int) : Int :=
  if k = 12 then clZ (IntKind.i64.wrap (A * B)) else if k = 13 then (if B = 0 then 0 else IntKind.i64.wrap (A.tdiv B)) else if k = 14 then (if B = 0 then 0 else A.tmod B) else if k = 15 then clZ (IntKind.i64.wrap (A + B)) else if k = 16 then clZ (IntKind.i64.wrap (A - B)) else if k = 17 then bitZ (decide (A < B)) else if k = 18 then bitZ (decide (A ≤ B)) else if k = 19 then bitZ (decide (A > B)) else if k = 20 then bitZ (decide (A ≥ B)) else if k = 21 then bitZ (A == B) else if k = 22 then bitZ (A != B) else if k = 23 then bitZ (A != 0 && B != 0) else if k = 24 then bitZ (A != 0 || B != 0) else 0
def binZ (k a b : Int) : Int := bz k (clZ a) (clZ b)
theorem bz_12 (A B : Int) : bz 12 A B = clZ (IntKind.i64.wrap (A * B)) := by unfold bz; simp only [Int.reduceEq]; simp only [if_true, if_false]
theorem bz_13 (A B : Int) : bz 13 A B = if B = 0 then 0 else IntKind.i64.wrap (A.tdiv B) := by unfold bz; simp only [Int.reduceEq]; simp only [if_true, if_false]
theorem bz_14 (A B : Int) : bz 14 A B = if B = 0 then 0 else A.tmod B := by unfold bz; simp only [Int.reduceEq]; simp only [if_true, if_false]
theorem bz_15 (A B : Int) : bz 15 A B = clZ (IntKind.i64.wrap (A + B)) := by unfold bz; simp only [Int.reduceEq]; simp only [if_true, if_false]
theorem bz_16 (A B : Int) : bz 16 A B = clZ (IntKind.i64.wrap (A - B)) := by unfold bz; simp only [Int.reduceEq]; simp only [if_true, if_false]
theorem bz_17 (A B : Int) : bz 17 A B = bitZ (decide (A < B)) := by unfold bz; simp only [Int.reduceEq]; simp only [if_true, if_false]
theorem bz_18 (A B : Int) : bz 18 A B = bitZ (decide (A ≤ B)) := by unfold bz; simp only [Int.reduceEq]; simp only [if_true, if_false]
theorem bz_19 (A B : Int) : bz 19 A B = bitZ (decide (A > B)) := by unfold bz; simp only [Int.reduceEq]; simp only [if_true, if_false]
theorem bz_20 (A B : Int) : bz 20 A B = bitZ (decide (A ≥ B)) := by unfold bz; simp only [Int.reduceEq]; simp only [if_true, if_false]
theorem bz_21 (A B : Int) : bz 21 A B = bitZ (A == B) := by unfold bz; simp only [Int.reduceEq]; simp only [if_true, if_false]
theorem bz_22 (A B : Int) : bz 22 A B = bitZ (A != B) := by unfold bz; simp only [Int.reduceEq]; simp only [if_true, if_false]
theorem bz_23 (A B : Int) : bz 23 A B = bitZ (A != 0 && B != 0) := by unfold bz; simp only [Int.reduceEq]; simp only [if_true, if_false]
theorem bz_24 (A B : Int) : bz 24 A B = bitZ (A != 0 || B != 0) := by unfold bz; simp only [Int.reduceEq]; simp only [if_true, if_false]
theorem c10 (k a : Int) (H : Hp) (c : Nat) : AC Tryz.prog 10 [.int .i64 k, .int .i64 a] H c (Same (.int .i64 (unZ k a)) H c) := by
  refine AC.of mixedU isU10 (Nat.le_of_ble_eq_true rfl) ?_
  simp only [u10]
  simp only [wpI_seq, wpI_reg, wpI_blk, wpI_ret, wpI_exit, wpI_skip, wpI_cond, ex_bool, rwp, wantG, wantV, oneP, fev, unR, updO, then_n, then_r, then_e, blk_n, blk_r, blk_e, ev_t, ev_k, upd_same, upd_ne, arg0, argS, Nat.reduceEqDiff, not_false_eq_true, List.map, bin_eql, bin_neq, bin_lss, bin_leq, bin_gtr, bin_geq, bin_add, bin_sub, bin_mul, ret_r1, ret_n1, beq_self_eq_true, Bool.true_beq, Bool.false_beq, Bool.not_true, Bool.not_false]
  refine (c14 a H c).mono ?_
  rintro _ _ _ ⟨rfl, e1, e2⟩; obtain rfl := e1.symm; obtain rfl := e2.symm; clear e1 e2
  simp only [wpI_seq, wpI_reg, wpI_blk, wpI_ret, wpI_exit, wpI_skip, wpI_cond, ex_bool, rwp, wantG, wantV, oneP, fev, unR, updO, then_n, then_r, then_e, blk_n, blk_r, blk_e, ev_t, ev_k, upd_same, upd_ne, arg0, argS, Nat.reduceEqDiff, not_false_eq_true, List.map, bin_eql, bin_neq, bin_lss, bin_leq, bin_gtr, bin_geq, bin_add, bin_sub, bin_mul, ret_r1, ret_n1, beq_self_eq_true, Bool.true_beq, Bool.false_beq, Bool.not_true, Bool.not_false]
  refine ⟨fun h => ?_, fun h => ⟨fun h2 => ?_, fun h2 => ?_⟩⟩
  · refine ⟨?_, rfl, rfl⟩
    simp only [beq_iff_eq] at h
    simp only [unZ, h, if_true]
  · refine (c27 _ _ _).mono ?_
    rintro _ _ _ ⟨rfl, e1, e2⟩; obtain rfl := e1.symm; obtain rfl := e2.symm; clear e1 e2
    refine ⟨?_, rfl, rfl⟩
    simp only [beq_iff_eq] at h2
    simp only [unZ, h2]
    rfl
  · refine ⟨?_, rfl, rfl⟩
    simp only [beq_eq_false_iff_ne] at h h2
    simp only [unZ, if_neg h, if_neg h2]
theorem c11 (k a : Int) (H : Hp) (c : Nat) : AC Tryz.prog 11 [.int .i64 k, .int .i64 a] H c (Same (.int .i64 (unZ k a)) H c) := by
  refine AC.of mixedU isU11 (Nat.le_of_ble_eq_true rfl) ?_
  simp only [u11]
  simp only [wpI_seq, wpI_reg, wpI_blk, wpI_ret, wpI_exit, wpI_skip, wpI_cond, ex_bool, rwp, wantG, wantV, oneP, fev, unR, updO, then_n, then_r, then_e, blk_n, blk_r, blk_e, ev_t, ev_k, upd_same, upd_ne, arg0, argS, Nat.reduceEqDiff, not_false_eq_true, List.map, bin_eql, bin_neq, bin_lss, bin_leq, bin_gtr, bin_geq, bin_add, bin_sub, bin_mul, ret_r1, ret_n1, beq_self_eq_true, Bool.true_beq, Bool.false_beq, Bool.not_true, Bool.not_false]
  refine (c15 a H c).mono ?_
  rintro _ _ _ ⟨rfl, e1, e2⟩; obtain rfl := e1.symm; obtain rfl := e2.symm; clear e1 e2
  simp only [wpI_seq, wpI_reg, wpI_blk, wpI_ret, wpI_exit, wpI_skip, wpI_cond, ex_bool, rwp, wantG, wantV, oneP, fev, unR, updO, then_n, then_r, then_e, blk_n, blk_r, blk_e, ev_t, ev_k, upd_same, upd_ne, arg0, argS, Nat.reduceEqDiff, not_false_eq_true, List.map, bin_eql, bin_neq, bin_lss, bin_leq, bin_gtr, bin_geq, bin_add, bin_sub, bin_mul, ret_r1, ret_n1, beq_self_eq_true, Bool.true_beq, Bool.false_beq, Bool.not_true, Bool.not_false]
  refine ⟨fun h => ?_, fun h => ⟨fun h2 => ?_, fun h2 => ?_⟩⟩
  · refine ⟨?_, rfl, rfl⟩
    simp only [beq_iff_eq] at h
    simp only [unZ, h, if_true]
  · refine (c28 _ _ _).mono ?_
    rintro _ _ _ ⟨rfl, e1, e2⟩; obtain rfl := e1.symm; obtain rfl := e2.symm; clear e1 e2
    refine ⟨?_, rfl, rfl⟩
    simp only [beq_iff_eq] at h2
    simp only [unZ, h2]
    rfl
  · refine ⟨?_, rfl, rfl⟩
    simp only [beq_eq_false_iff_ne] at h h2
    simp only [unZ, if_neg h, if_neg h2]
theorem c12 (k a b : Int) (H : Hp) (c : Nat) : AC Tryz.prog 12 [.int .i64 k, .int .i64 a, .int .i64 b] H c (Same (.int .i64 (binZ k a b)) H c) := by
  refine AC.of mixedU isU12 (Nat.le_of_ble_eq_true rfl) ?_
  simp only [u12]
  simp only [wpI_seq, wpI_reg, wpI_blk, wpI_ret, wpI_exit, wpI_skip, wpI_cond, ex_bool, rwp, wantG, wantV, oneP, fev, unR, updO, then_n, then_r, then_e, blk_n, blk_r, blk_e, ev_t, ev_k, upd_same, upd_ne, arg0, argS, Nat.reduceEqDiff, not_false_eq_true, List.map, bin_eql, bin_neq, bin_lss, bin_leq, bin_gtr, bin_geq, bin_add, bin_sub, bin_mul, ret_r1, ret_n1, beq_self_eq_true, Bool.true_beq, Bool.false_beq, Bool.not_true, Bool.not_false]
  refine (c14 a H c).mono ?_
  rintro _ _ _ ⟨rfl, e1, e2⟩; obtain rfl := e1.symm; obtain rfl := e2.symm; clear e1 e2
  simp only [wpI_seq, wpI_reg, wpI_blk, wpI_ret, wpI_exit, wpI_skip, wpI_cond, ex_bool, rwp, wantG, wantV, oneP, fev, unR, updO, then_n, then_r, then_e, blk_n, blk_r, blk_e, ev_t, ev_k, upd_same, upd_ne, arg0, argS, Nat.reduceEqDiff, not_false_eq_true, List.map, bin_eql, bin_neq, bin_lss, bin_leq, bin_gtr, bin_geq, bin_add, bin_sub, bin_mul, ret_r1, ret_n1, beq_self_eq_true, Bool.true_beq, Bool.false_beq, Bool.not_true, Bool.not_false]
  refine (c14 b H c).mono ?_
  rintro _ _ _ ⟨rfl, e1, e2⟩; obtain rfl := e1.symm; obtain rfl := e2.symm; clear e1 e2
  simp only [wpI_seq, wpI_reg, wpI_blk, wpI_ret, wpI_exit, wpI_skip, wpI_cond, ex_bool, rwp, wantG, wantV, oneP, fev, unR, updO, then_n, then_r, then_e, blk_n, blk_r, blk_e, ev_t, ev_k, upd_same, upd_ne, arg0, argS, Nat.reduceEqDiff, not_false_eq_true, List.map, bin_eql, bin_neq, bin_lss, bin_leq, bin_gtr, bin_geq, bin_add, bin_sub, bin_mul, ret_r1, ret_n1, beq_self_eq_true, Bool.true_beq, Bool.false_beq, Bool.not_true, Bool.not_false]
  unfold binZ
  generalize clZ a = A
  generalize clZ b = B
  refine ⟨fun h12 => ?_, fun n12 => ⟨fun h13 => ?_, fun n13 => ⟨fun h14 => ?_, fun n14 => ⟨fun h15 => ?_, fun n15 => ⟨fun h16 => ?_, fun n16 => ⟨fun h17 => ?_, fun n17 => ⟨fun h18 => ?_, fun n18 => ⟨fun h19 => ?_, fun n19 => ⟨fun h20 => ?_, fun n20 => ⟨fun h21 => ?_, fun n21 => ⟨fun h22 => ?_, fun n22 => ⟨fun h23 => ?_, fun n23 => ⟨fun h24 => ?_, fun n24 => ?_⟩⟩⟩⟩⟩⟩⟩⟩⟩⟩⟩⟩⟩
  · obtain rfl := beq_iff_eq.1 h12
    rw [bz_12]
    refine (c14 _ _ _).mono ?_
    rintro _ _ _ ⟨rfl, e1, e2⟩; obtain rfl := e1.symm; obtain rfl := e2.symm; clear e1 e2
    exact ⟨rfl, rfl, rfl⟩
  · obtain rfl := beq_iff_eq.1 h13
    rw [bz_13]
    refine ⟨fun h => ?_, fun h => ?_⟩
    · have hb : ¬ B = 0 := by simpa using h
      simp only [bin_quo .i64 A B hb]
      try simp only [wpI_seq, wpI_reg, wpI_blk, wpI_ret, wpI_exit, wpI_skip, wpI_cond, ex_bool, rwp, wantG, wantV, oneP, fev, unR, updO, then_n, then_r, then_e, blk_n, blk_r, blk_e, ev_t, ev_k, upd_same, upd_ne, arg0, argS, Nat.reduceEqDiff, not_false_eq_true, List.map, bin_eql, bin_neq, bin_lss, bin_leq, bin_gtr, bin_geq, bin_add, bin_sub, bin_mul, ret_r1, ret_n1, beq_self_eq_true, Bool.true_beq, Bool.false_beq, Bool.not_true, Bool.not_false]
      exact ⟨by rw [if_neg hb], rfl, rfl⟩
    · have hb : B = 0 := by simpa using h
      exact ⟨by rw [if_pos hb], rfl, rfl⟩
  · obtain rfl := beq_iff_eq.1 h14
    rw [bz_14]
    refine ⟨fun h => ?_, fun h => ?_⟩
    · have hb : ¬ B = 0 := by simpa using h
      simp only [bin_rem .i64 A B hb]
      try simp only [wpI_seq, wpI_reg, wpI_blk, wpI_ret, wpI_exit, wpI_skip, wpI_cond, ex_bool, rwp, wantG, wantV, oneP, fev, unR, updO, then_n, then_r, then_e, blk_n, blk_r, blk_e, ev_t, ev_k, upd_same, upd_ne, arg0, argS, Nat.reduceEqDiff, not_false_eq_true, List.map, bin_eql, bin_neq, bin_lss, bin_leq, bin_gtr, bin_geq, bin_add, bin_sub, bin_mul, ret_r1, ret_n1, beq_self_eq_true, Bool.true_beq, Bool.false_beq, Bool.not_true, Bool.not_false]
      exact ⟨by rw [if_neg hb], rfl, rfl⟩
    · have hb : B = 0 := by simpa using h
      exact ⟨by rw [if_pos hb], rfl, rfl⟩
  · obtain rfl := beq_iff_eq.1 h15
    rw [bz_15]
    refine (c14 _ _ _).mono ?_
    rintro _ _ _ ⟨rfl, e1, e2⟩; obtain rfl := e1.symm; obtain rfl := e2.symm; clear e1 e2
    exact ⟨rfl, rfl, rfl⟩
  · obtain rfl := beq_iff_eq.1 h16
    rw [bz_16]
    refine (c14 _ _ _).mono ?_
    rintro _ _ _ ⟨rfl, e1, e2⟩; obtain rfl := e1.symm; obtain rfl := e2.symm; clear e1 e2
    exact ⟨rfl, rfl, rfl⟩
  · obtain rfl := beq_iff_eq.1 h17
    rw [bz_17]
    refine (c27 _ _ _).mono ?_
    rintro _ _ _ ⟨rfl, e1, e2⟩; obtain rfl := e1.symm; obtain rfl := e2.symm; clear e1 e2
    exact ⟨rfl, rfl, rfl⟩
  · obtain rfl := beq_iff_eq.1 h18
    rw [bz_18]
    refine (c27 _ _ _).mono ?_
    rintro _ _ _ ⟨rfl, e1, e2⟩; obtain rfl := e1.symm; obtain rfl := e2.symm; clear e1 e2
    exact ⟨rfl, rfl, rfl⟩
  · obtain rfl := beq_iff_eq.1 h19
    rw [bz_19]
    refine (c27 _ _ _).mono ?_
    rintro _ _ _ ⟨rfl, e1, e2⟩; obtain rfl := e1.symm; obtain rfl := e2.symm; clear e1 e2
    exact ⟨rfl, rfl, rfl⟩
  · obtain rfl := beq_iff_eq.1 h20
    rw [bz_20]
    refine (c27 _ _ _).mono ?_
    rintro _ _ _ ⟨rfl, e1, e2⟩; obtain rfl := e1.symm; obtain rfl := e2.symm; clear e1 e2
    exact ⟨rfl, rfl, rfl⟩
  · obtain rfl := beq_iff_eq.1 h21
    rw [bz_21]
    refine (c27 _ _ _).mono ?_
    rintro _ _ _ ⟨rfl, e1, e2⟩; obtain rfl := e1.symm; obtain rfl := e2.symm; clear e1 e2
    exact ⟨rfl, rfl, rfl⟩
  · obtain rfl := beq_iff_eq.1 h22
    rw [bz_22]
    refine (c27 _ _ _).mono ?_
    rintro _ _ _ ⟨rfl, e1, e2⟩; obtain rfl := e1.symm; obtain rfl := e2.symm; clear e1 e2
    exact ⟨rfl, rfl, rfl⟩
  · obtain rfl := beq_iff_eq.1 h23
    rw [bz_23]
    generalize (A != 0) = p
    generalize (B != 0) = q
    cases p <;> cases q <;> (simp only [wpI_seq, wpI_reg, wpI_blk, wpI_ret, wpI_exit, wpI_skip, wpI_cond, ex_bool, rwp, wantG, wantV, oneP, fev, unR, updO, then_n, then_r, then_e, blk_n, blk_r, blk_e, ev_t, ev_k, upd_same, upd_ne, arg0, argS, Nat.reduceEqDiff, not_false_eq_true, List.map, bin_eql, bin_neq, bin_lss, bin_leq, bin_gtr, bin_geq, bin_add, bin_sub, bin_mul, ret_r1, ret_n1, beq_self_eq_true, Bool.true_beq, Bool.false_beq, Bool.not_true, Bool.not_false]; refine (c27 _ _ _).mono ?_; rintro _ _ _ ⟨rfl, e1, e2⟩; obtain rfl := e1.symm; obtain rfl := e2.symm; clear e1 e2; exact ⟨rfl, rfl, rfl⟩)
  · obtain rfl := beq_iff_eq.1 h24
    rw [bz_24]
    generalize (A != 0) = p
    generalize (B != 0) = q
    cases p <;> cases q <;> (simp only [wpI_seq, wpI_reg, wpI_blk, wpI_ret, wpI_exit, wpI_skip, wpI_cond, ex_bool, rwp, wantG, wantV, oneP, fev, unR, updO, then_n, then_r, then_e, blk_n, blk_r, blk_e, ev_t, ev_k, upd_same, upd_ne, arg0, argS, Nat.reduceEqDiff, not_false_eq_true, List.map, bin_eql, bin_neq, bin_lss, bin_leq, bin_gtr, bin_geq, bin_add, bin_sub, bin_mul, ret_r1, ret_n1, beq_self_eq_true, Bool.true_beq, Bool.false_beq, Bool.not_true, Bool.not_false]; refine (c27 _ _ _).mono ?_; rintro _ _ _ ⟨rfl, e1, e2⟩; obtain rfl := e1.symm; obtain rfl := e2.symm; clear e1 e2; exact ⟨rfl, rfl, rfl⟩)
  · refine ⟨?_, rfl, rfl⟩
    unfold bz
    rw [if_neg (by simpa using n12)]
    rw [if_neg (by simpa using n13)]
    rw [if_neg (by simpa using n14)]
    rw [if_neg (by simpa using n15)]
    rw [if_neg (by simpa using n16)]
    rw [if_neg (by simpa using n17)]
    rw [if_neg (by simpa using n18)]
    rw [if_neg (by simpa using n19)]
    rw [if_neg (by simpa using n20)]
    rw [if_neg (by simpa using n21)]
    rw [if_neg (by simpa using n22)]
    rw [if_neg (by simpa using n23)]
    rw [if_neg (by simpa using n24)]
theorem c13 (k a b : Int) (H : Hp) (c : Nat) : AC Tryz.prog 13 [.int .i64 k, .int .i64 a, .int .i64 b] H c (Same (.int .i64 (binZ k a b)) H c) := by
  refine AC.of mixedU isU13 (Nat.le_of_ble_eq_true rfl) ?_
  simp only [u13]
  simp only [wpI_seq, wpI_reg, wpI_blk, wpI_ret, wpI_exit, wpI_skip, wpI_cond, ex_bool, rwp, wantG, wantV, oneP, fev, unR, updO, then_n, then_r, then_e, blk_n, blk_r, blk_e, ev_t, ev_k, upd_same, upd_ne, arg0, argS, Nat.reduceEqDiff, not_false_eq_true, List.map, bin_eql, bin_neq, bin_lss, bin_leq, bin_gtr, bin_geq, bin_add, bin_sub, bin_mul, ret_r1, ret_n1, beq_self_eq_true, Bool.true_beq, Bool.false_beq, Bool.not_true, Bool.not_false]
  refine (c15 a H c).mono ?_
  rintro _ _ _ ⟨rfl, e1, e2⟩; obtain rfl := e1.symm; obtain rfl := e2.symm; clear e1 e2
  simp only [wpI_seq, wpI_reg, wpI_blk, wpI_ret, wpI_exit, wpI_skip, wpI_cond, ex_bool, rwp, wantG, wantV, oneP, fev, unR, updO, then_n, then_r, then_e, blk_n, blk_r, blk_e, ev_t, ev_k, upd_same, upd_ne, arg0, argS, Nat.reduceEqDiff, not_false_eq_true, List.map, bin_eql, bin_neq, bin_lss, bin_leq, bin_gtr, bin_geq, bin_add, bin_sub, bin_mul, ret_r1, ret_n1, beq_self_eq_true, Bool.true_beq, Bool.false_beq, Bool.not_true, Bool.not_false]
  refine (c15 b H c).mono ?_
  rintro _ _ _ ⟨rfl, e1, e2⟩; obtain rfl := e1.symm; obtain rfl := e2.symm; clear e1 e2
  simp only [wpI_seq, wpI_reg, wpI_blk, wpI_ret, wpI_exit, wpI_skip, wpI_cond, ex_bool, rwp, wantG, wantV, oneP, fev, unR, updO, then_n, then_r, then_e, blk_n, blk_r, blk_e, ev_t, ev_k, upd_same, upd_ne, arg0, argS, Nat.reduceEqDiff, not_false_eq_true, List.map, bin_eql, bin_neq, bin_lss, bin_leq, bin_gtr, bin_geq, bin_add, bin_sub, bin_mul, ret_r1, ret_n1, beq_self_eq_true, Bool.true_beq, Bool.false_beq, Bool.not_true, Bool.not_false]
  unfold binZ
  generalize clZ a = A
  generalize clZ b = B
  refine ⟨fun h12 => ?_, fun n12 => ⟨fun h13 => ?_, fun n13 => ⟨fun h14 => ?_, fun n14 => ⟨fun h15 => ?_, fun n15 => ⟨fun h16 => ?_, fun n16 => ⟨fun h17 => ?_, fun n17 => ⟨fun h18 => ?_, fun n18 => ⟨fun h19 => ?_, fun n19 => ⟨fun h20 => ?_, fun n20 => ⟨fun h21 => ?_, fun n21 => ⟨fun h22 => ?_, fun n22 => ⟨fun h23 => ?_, fun n23 => ⟨fun h24 => ?_, fun n24 => ?_⟩⟩⟩⟩⟩⟩⟩⟩⟩⟩⟩⟩⟩
  · obtain rfl := beq_iff_eq.1 h12
    rw [bz_12]
    refine (c15 _ _ _).mono ?_
    rintro _ _ _ ⟨rfl, e1, e2⟩; obtain rfl := e1.symm; obtain rfl := e2.symm; clear e1 e2
    exact ⟨rfl, rfl, rfl⟩
  · obtain rfl := beq_iff_eq.1 h13
    rw [bz_13]
    refine ⟨fun h => ?_, fun h => ?_⟩
    · have hb : B = 0 := by simpa using h
      exact ⟨by rw [if_pos hb], rfl, rfl⟩
    · have hb : ¬ B = 0 := by simpa using h
      simp only [bin_quo .i64 A B hb]
      try simp only [wpI_seq, wpI_reg, wpI_blk, wpI_ret, wpI_exit, wpI_skip, wpI_cond, ex_bool, rwp, wantG, wantV, oneP, fev, unR, updO, then_n, then_r, then_e, blk_n, blk_r, blk_e, ev_t, ev_k, upd_same, upd_ne, arg0, argS, Nat.reduceEqDiff, not_false_eq_true, List.map, bin_eql, bin_neq, bin_lss, bin_leq, bin_gtr, bin_geq, bin_add, bin_sub, bin_mul, ret_r1, ret_n1, beq_self_eq_true, Bool.true_beq, Bool.false_beq, Bool.not_true, Bool.not_false]
      exact ⟨by rw [if_neg hb], rfl, rfl⟩
  · obtain rfl := beq_iff_eq.1 h14
    rw [bz_14]
    refine ⟨fun h => ?_, fun h => ?_⟩
    · have hb : B = 0 := by simpa using h
      exact ⟨by rw [if_pos hb], rfl, rfl⟩
    · have hb : ¬ B = 0 := by simpa using h
      simp only [bin_rem .i64 A B hb]
      try simp only [wpI_seq, wpI_reg, wpI_blk, wpI_ret, wpI_exit, wpI_skip, wpI_cond, ex_bool, rwp, wantG, wantV, oneP, fev, unR, updO, then_n, then_r, then_e, blk_n, blk_r, blk_e, ev_t, ev_k, upd_same, upd_ne, arg0, argS, Nat.reduceEqDiff, not_false_eq_true, List.map, bin_eql, bin_neq, bin_lss, bin_leq, bin_gtr, bin_geq, bin_add, bin_sub, bin_mul, ret_r1, ret_n1, beq_self_eq_true, Bool.true_beq, Bool.false_beq, Bool.not_true, Bool.not_false]
      exact ⟨by rw [if_neg hb], rfl, rfl⟩
  · obtain rfl := beq_iff_eq.1 h15
    rw [bz_15]
    refine (c15 _ _ _).mono ?_
    rintro _ _ _ ⟨rfl, e1, e2⟩; obtain rfl := e1.symm; obtain rfl := e2.symm; clear e1 e2
    exact ⟨rfl, rfl, rfl⟩
  · obtain rfl := beq_iff_eq.1 h16
    rw [bz_16]
    refine (c15 _ _ _).mono ?_
    rintro _ _ _ ⟨rfl, e1, e2⟩; obtain rfl := e1.symm; obtain rfl := e2.symm; clear e1 e2
    exact ⟨rfl, rfl, rfl⟩
  · obtain rfl := beq_iff_eq.1 h17
    rw [bz_17]
    refine (c28 _ _ _).mono ?_
    rintro _ _ _ ⟨rfl, e1, e2⟩; obtain rfl := e1.symm; obtain rfl := e2.symm; clear e1 e2
    exact ⟨rfl, rfl, rfl⟩
  · obtain rfl := beq_iff_eq.1 h18
    rw [bz_18]
    refine (c28 _ _ _).mono ?_
    rintro _ _ _ ⟨rfl, e1, e2⟩; obtain rfl := e1.symm; obtain rfl := e2.symm; clear e1 e2
    exact ⟨rfl, rfl, rfl⟩
  · obtain rfl := beq_iff_eq.1 h19
    rw [bz_19]
    refine (c28 _ _ _).mono ?_
    rintro _ _ _ ⟨rfl, e1, e2⟩; obtain rfl := e1.symm; obtain rfl := e2.symm; clear e1 e2
    exact ⟨rfl, rfl, rfl⟩
  · obtain rfl := beq_iff_eq.1 h20
    rw [bz_20]
    refine (c28 _ _ _).mono ?_
    rintro _ _ _ ⟨rfl, e1, e2⟩; obtain rfl := e1.symm; obtain rfl := e2.symm; clear e1 e2
    exact ⟨rfl, rfl, rfl⟩
  · obtain rfl := beq_iff_eq.1 h21
    rw [bz_21]
    refine (c28 _ _ _).mono ?_
    rintro _ _ _ ⟨rfl, e1, e2⟩; obtain rfl := e1.symm; obtain rfl := e2.symm; clear e1 e2
    exact ⟨rfl, rfl, rfl⟩
  · obtain rfl := beq_iff_eq.1 h22
    rw [bz_22]
    refine (c28 _ _ _).mono ?_
    rintro _ _ _ ⟨rfl, e1, e2⟩; obtain rfl := e1.symm; obtain rfl := e2.symm; clear e1 e2
    exact ⟨rfl, rfl, rfl⟩
  · obtain rfl := beq_iff_eq.1 h23
    rw [bz_23]
    generalize (A != 0) = p
    generalize (B != 0) = q
    cases p <;> cases q <;> (simp only [wpI_seq, wpI_reg, wpI_blk, wpI_ret, wpI_exit, wpI_skip, wpI_cond, ex_bool, rwp, wantG, wantV, oneP, fev, unR, updO, then_n, then_r, then_e, blk_n, blk_r, blk_e, ev_t, ev_k, upd_same, upd_ne, arg0, argS, Nat.reduceEqDiff, not_false_eq_true, List.map, bin_eql, bin_neq, bin_lss, bin_leq, bin_gtr, bin_geq, bin_add, bin_sub, bin_mul, ret_r1, ret_n1, beq_self_eq_true, Bool.true_beq, Bool.false_beq, Bool.not_true, Bool.not_false]; refine (c28 _ _ _).mono ?_; rintro _ _ _ ⟨rfl, e1, e2⟩; obtain rfl := e1.symm; obtain rfl := e2.symm; clear e1 e2; exact ⟨rfl, rfl, rfl⟩)
  · obtain rfl := beq_iff_eq.1 h24
    rw [bz_24]
    generalize (A != 0) = p
    generalize (B != 0) = q
    cases p <;> cases q <;> (simp only [wpI_seq, wpI_reg, wpI_blk, wpI_ret, wpI_exit, wpI_skip, wpI_cond, ex_bool, rwp, wantG, wantV, oneP, fev, unR, updO, then_n, then_r, then_e, blk_n, blk_r, blk_e, ev_t, ev_k, upd_same, upd_ne, arg0, argS, Nat.reduceEqDiff, not_false_eq_true, List.map, bin_eql, bin_neq, bin_lss, bin_leq, bin_gtr, bin_geq, bin_add, bin_sub, bin_mul, ret_r1, ret_n1, beq_self_eq_true, Bool.true_beq, Bool.false_beq, Bool.not_true, Bool.not_false]; refine (c28 _ _ _).mono ?_; rintro _ _ _ ⟨rfl, e1, e2⟩; obtain rfl := e1.symm; obtain rfl := e2.symm; clear e1 e2; exact ⟨rfl, rfl, rfl⟩)
  · refine ⟨?_, rfl, rfl⟩
    unfold bz
    rw [if_neg (by simpa using n12)]
    rw [if_neg (by simpa using n13)]
    rw [if_neg (by simpa using n14)]
    rw [if_neg (by simpa using n15)]
    rw [if_neg (by simpa using n16)]
    rw [if_neg (by simpa using n17)]
    rw [if_neg (by simpa using n18)]
    rw [if_neg (by simpa using n19)]
    rw [if_neg (by simpa using n20)]
    rw [if_neg (by simpa using n21)]
    rw [if_neg (by simpa using n22)]
    rw [if_neg (by simpa using n23)]
    rw [if_neg (by simpa using n24)]
end Go.Proofs.YtniclakgfgmhhaaGreat
