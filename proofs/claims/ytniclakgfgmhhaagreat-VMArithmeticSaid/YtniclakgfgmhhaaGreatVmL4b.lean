import Derived.Test.YtniclakgfgmhhaaGreatVmL4
set_option linter.unusedSimpArgs false
set_option linter.unusedVariables false
namespace Go.Proofs.YtniclakgfgmhhaaGreat
open Go.Eng

theorem cl_in (n : Int) : -2147483647 ≤ clZ n ∧ clZ n ≤ 2147483647 := by unfold clZ; split <;> (try split) <;> omega
theorem cl_id {n : Int} (h : -2147483647 ≤ n ∧ n ≤ 2147483647) : clZ n = n := by unfold clZ; rw [if_neg (by omega), if_neg (by omega)]
theorem cl_cl (n : Int) : clZ (clZ n) = clZ n := cl_id (cl_in n)
theorem bit_in (b : Bool) : bitZ b = 0 ∨ bitZ b = 1 := by cases b <;> simp [bitZ]

theorem abs_le {a : Int} (h : -2147483647 ≤ a ∧ a ≤ 2147483647) : a.natAbs ≤ 2147483647 := by omega
theorem abs_ge {a : Int} {n : Nat} (h : a.natAbs ≤ n) : -(n : Int) ≤ a ∧ a ≤ n := by omega
theorem mul_in {a d : Int} (h1 : -2147483647 ≤ a ∧ a ≤ 2147483647) (h2 : -2147483647 ≤ d ∧ d ≤ 2147483647) : IntKind.i64.wrap (a * d) = a * d := by
  have h : (a * d).natAbs ≤ 2147483647 * 2147483647 := by rw [Int.natAbs_mul]; exact Nat.mul_le_mul (abs_le h1) (abs_le h2)
  have h' := abs_ge h
  exact wrap64 (by omega) (by omega)
theorem tdiv_in {a d : Int} (h1 : -2147483647 ≤ a ∧ a ≤ 2147483647) : -2147483647 ≤ a.tdiv d ∧ a.tdiv d ≤ 2147483647 := by
  have h : (a.tdiv d).natAbs ≤ 2147483647 := by rw [Int.natAbs_tdiv]; exact Nat.le_trans (Nat.div_le_self _ _) (abs_le h1)
  have h' := abs_ge h
  omega
theorem tmod_in {a d : Int} (h1 : -2147483647 ≤ a ∧ a ≤ 2147483647) : -2147483647 ≤ a.tmod d ∧ a.tmod d ≤ 2147483647 := by
  have h : (a.tmod d).natAbs ≤ 2147483647 := by rw [Int.natAbs_tmod]; exact Nat.le_trans (Nat.mod_le _ _) (abs_le h1)
  have h' := abs_ge h
  omega

theorem bz_in {A D : Int} (h1 : -2147483647 ≤ A ∧ A ≤ 2147483647) (h2 : -2147483647 ≤ D ∧ D ≤ 2147483647) (k : Int) (k1 : 12 ≤ k) (k2 : k ≤ 24) : -2147483647 ≤ bz k A D ∧ bz k A D ≤ 2147483647 := by
  have hb : ∀ b, -2147483647 ≤ bitZ b ∧ bitZ b ≤ 2147483647 := fun b => by rcases bit_in b with h | h <;> rw [h] <;> omega
  have hk : k = 12 ∨ k = 13 ∨ k = 14 ∨ k = 15 ∨ k = 16 ∨ k = 17 ∨ k = 18 ∨ k = 19 ∨ k = 20 ∨ k = 21 ∨ k = 22 ∨ k = 23 ∨ k = 24 := by omega
  rcases hk with rfl | rfl | rfl | rfl | rfl | rfl | rfl | rfl | rfl | rfl | rfl | rfl | rfl
  · rw [bz_12]; exact cl_in _
  · rw [bz_13]
    by_cases hz : D = 0
    · rw [if_pos hz]; omega
    · have := tdiv_in (d := D) h1
      rw [if_neg hz, wrap64 (by omega) (by omega)]; exact this
  · rw [bz_14]
    by_cases hz : D = 0
    · rw [if_pos hz]; omega
    · rw [if_neg hz]; exact tmod_in h1
  · rw [bz_15]; exact cl_in _
  · rw [bz_16]; exact cl_in _
  · rw [bz_17]; exact hb _
  · rw [bz_18]; exact hb _
  · rw [bz_19]; exact hb _
  · rw [bz_20]; exact hb _
  · rw [bz_21]; exact hb _
  · rw [bz_22]; exact hb _
  · rw [bz_23]; exact hb _
  · rw [bz_24]; exact hb _

theorem bz_bit (A D k : Int) (h1 : 17 ≤ k) (h2 : k ≤ 24) : bz k A D = 0 ∨ bz k A D = 1 := by
  have hk : k = 17 ∨ k = 18 ∨ k = 19 ∨ k = 20 ∨ k = 21 ∨ k = 22 ∨ k = 23 ∨ k = 24 := by omega
  rcases hk with rfl | rfl | rfl | rfl | rfl | rfl | rfl | rfl
  · rw [bz_17]; exact bit_in _
  · rw [bz_18]; exact bit_in _
  · rw [bz_19]; exact bit_in _
  · rw [bz_20]; exact bit_in _
  · rw [bz_21]; exact bit_in _
  · rw [bz_22]; exact bit_in _
  · rw [bz_23]; exact bit_in _
  · rw [bz_24]; exact bit_in _

theorem bit2 (p q : Bool) (h : q = !p) : IntKind.i64.wrap (bitZ p + bitZ q) = 1 := by subst h; cases p <;> rfl

theorem law4 (x y : Int) : AC Tryz.prog 4 [.int .i64 x, .int .i64 y] (hpOf .nil) 0 (fun v _ _ => v = .bool true) := by
  have hA := cl_in x
  have hD := cl_in y
  refine AC.of mixedU isU4 (Nat.le_of_ble_eq_true rfl) ?_
  rw [b4_is]
  refine law4g clZ unZ binZ (-2147483647) 2147483647 c10 c12 c14 x y ?_ ?_ ?_ ?_ ?_ ?_ ?_ ?_ ?_ ?_ ?_ ?_ ?_ (hpOf .nil) 0
  · exact fun k k1 k2 => bz_in hA hD k k1 k2
  · intro k; unfold binZ; rw [cl_cl, cl_cl]
  · exact fun k h1 h2 => bz_bit _ _ k h1 h2
  all_goals unfold binZ
  all_goals try rw [cl_cl, cl_cl]
  all_goals generalize clZ x = A at hA ⊢
  all_goals generalize clZ y = D at hD ⊢
  · intro h
    rw [bz_13, bz_14, if_neg h, if_neg h]
    have hq := tdiv_in (d := D) hA
    have hm := tmod_in (d := D) hA
    have hw : IntKind.i64.wrap (A.tdiv D) = A.tdiv D := wrap64 (by omega) (by omega)
    have he : A.tdiv D * D + A.tmod D = A := by rw [Int.mul_comm]; exact Int.mul_tdiv_add_tmod A D
    rw [hw, mul_in hq hD, he]
    exact wrap64 (by omega) (by omega)
  · intro h
    rw [bz_14, if_neg h]
    by_cases hz : A.tmod D = 0
    · exact .inl hz
    · refine .inr ⟨fun hr => ?_, fun ha => ?_⟩
      · apply Classical.byContradiction
        intro hn
        have := Int.tmod_nonneg D (a := A) (by omega)
        omega
      · have := Int.tmod_nonneg D (a := -A) (by omega)
        rw [Int.neg_tmod] at this
        omega
  · intro h
    rw [bz_14, if_neg h, mul_in (tmod_in hA) (tmod_in hA), mul_in hD hD]
    have h1 : (A.tmod D).natAbs < D.natAbs := by rw [Int.natAbs_tmod]; exact Nat.mod_lt _ (by omega)
    have h2 : (A.tmod D).natAbs * (A.tmod D).natAbs < D.natAbs * D.natAbs := Nat.mul_lt_mul'' h1 h1
    have e1 := Int.natAbs_mul_self (a := A.tmod D)
    have e2 := Int.natAbs_mul_self (a := D)
    rw [← e1, ← e2]
    exact_mod_cast h2
  · intro h
    rw [bz_13, bz_14, if_pos h, if_pos h]; exact ⟨rfl, rfl⟩
  · rw [bz_17, bz_20]; exact bit2 _ _ (by by_cases h : A < D <;> simp [h] <;> (try omega))
  · rw [bz_19, bz_18]; exact bit2 _ _ (by by_cases h : A > D <;> simp [h] <;> (try omega))
  · rw [bz_21, bz_22]; exact bit2 _ _ rfl
  · rw [bz_17, bz_19, beq_iff_eq]
  · rw [bz_15, bz_15, beq_iff_eq, Int.add_comm A D]
  · have e : unZ 10 D = -D := by
      unfold unZ
      rw [if_pos rfl, cl_id hD, wrap64 (by omega) (by omega)]; omega
    rw [e, bz_16, bz_15, beq_iff_eq, cl_id (n := -D) (by omega)]
    rfl
end Go.Proofs.YtniclakgfgmhhaaGreat
