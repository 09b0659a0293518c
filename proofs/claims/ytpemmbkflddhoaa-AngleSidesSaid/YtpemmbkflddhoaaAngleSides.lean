/- The law AngleSides comes to true. -/
import Derived.Test.YtpemmbkflddhoaaAngleD
import Derived.Test.YtpemmbkflddhoaaAngleTurns
namespace Go.Proofs.Ytpemmbkflddhoaa.Vm
set_option linter.unusedSimpArgs false

theorem Cross_neg (a x y : Int) : Cross a (0 - x) (0 - y) = 0 - Cross a x y := by
  unfold Cross
  have : Small (0 - x) (0 - y) = Small x y := by
    rw [Bool.eq_iff_iff, Small_iff, Small_iff]; omega
  rw [this]
  split
  · simp only [Int.mul_sub, Int.mul_zero]; omega
  · rfl

theorem Cross_half {a : Int} (ha : 0 ≤ a ∧ a < 3600) (x y : Int) : Cross (a + 1800) x y = 0 - Cross a x y := by
  unfold Cross
  rw [Sin_half ha, Cos_half ha]
  split
  · simp only [Int.neg_mul]; omega
  · rfl

theorem Within_opp (x y u v : Int) : (Within x y u v && Within x y (0 - u) (0 - v)) = false := by
  cases h : Within x y u v && Within x y (0 - u) (0 - v) with
  | false => rfl
  | true =>
    exfalso
    simp only [Within, Bool.and_eq_true, Bool.or_eq_true, decide_eq_true_eq, Cross_neg] at h
    obtain ⟨⟨_, h1, h2⟩, _, h3, h4⟩ := h
    simp only [Int.mul_sub, Int.mul_zero] at h4
    omega

theorem Within_zero (x y : Int) : Within x y 0 0 = false := by
  unfold Within; simp

theorem Cross_two (a : Int) {x y : Int} (h : -32768 ≤ x ∧ x ≤ 32767) (h' : -32768 ≤ y ∧ y ≤ 32767) : Cross a (2 * x) (2 * y) = 2 * Cross a x y := by
  unfold Cross
  have h1 : Small x y = true := Small_iff.2 (by omega)
  have h2 : Small (2 * x) (2 * y) = true := Small_iff.2 (by omega)
  rw [h1, h2, if_pos rfl, if_pos rfl, Int.mul_sub, Int.mul_left_comm (Cos a), Int.mul_left_comm (Sin a)]

theorem Within_two (x y : Int) {u v : Int} (h : -32768 ≤ u ∧ u ≤ 32767) (h' : -32768 ≤ v ∧ v ≤ 32767) : (!Within x y u v || Within x y (2 * u) (2 * v)) = true := by
  have h1 : Small u v = true := Small_iff.2 (by omega)
  have h2 : Small (2 * u) (2 * v) = true := Small_iff.2 (by omega)
  have e : Within x y (2 * u) (2 * v) = Within x y u v := by
    unfold Within
    rw [Cross_two _ h h', Cross_two _ h h', h1, h2, Int.mul_left_comm (Cos x), Int.mul_left_comm (Sin x), ← Int.mul_add]
    generalize Cos x * u + Sin x * v = d
    generalize Cross x u v = c1
    generalize Cross y u v = c2
    have q1 : (2 * u == 0) = (u == 0) := by rw [Bool.eq_iff_iff]; simp only [beq_iff_eq]; omega
    have q2 : (2 * v == 0) = (v == 0) := by rw [Bool.eq_iff_iff]; simp only [beq_iff_eq]; omega
    have q3 : leB 0 (2 * c1) = leB 0 c1 := by rw [Bool.eq_iff_iff]; simp only [decide_eq_true_eq]; omega
    have q4 : leB (2 * c2) 0 = leB c2 0 := by rw [Bool.eq_iff_iff]; simp only [decide_eq_true_eq]; omega
    have q5 : ltB 0 (2 * c1) = ltB 0 c1 := by rw [Bool.eq_iff_iff]; simp only [decide_eq_true_eq]; omega
    have q6 : ltB 0 (2 * d) = ltB 0 d := by rw [Bool.eq_iff_iff]; simp only [decide_eq_true_eq]; omega
    rw [q1, q2, q3, q4, q5, q6]
  rw [e]
  cases Within x y u v <;> rfl

theorem d_AngleSides (t : List Int) (_ : t.length ≤ maxLen) (_ : ∀ n ∈ t, -9223372036854775808 ≤ n ∧ n ≤ 9223372036854775807) (a : Int) (_ : -9223372036854775808 ≤ a ∧ a ≤ 9223372036854775807)
    (x : Int) (hx : -32768 ≤ x ∧ x ≤ 32767) (y : Int) (hy : -32768 ≤ y ∧ y ≤ 32767) :
    denC E 6 [AV.sl 1 (intsK .i64 t), AV.int .i64 a, AV.int .i16 x, AV.int .i16 y] [] = some ([RV.p (PV.bool true)], []) := by
  rw [denC_eq, r6, c_New, c_Norm]
  have hA := c_Arc (L := t.take 600) (k := 0) (by rw [List.length_take]; omega) (by omega)
  simp only [bnd_some, ctl_true, ctl_false, ctl_and, ctl_or', ctl_or2, x_toPV, x_toCs, x_toCs2, x_toEs, x_bEs, x_bCs, x_aPV, x_aCs, x_int, x_bool, x_str, x_es, x_esn, nth_0, nth_1, nth_2, nth_3, nth_4, nth_5, nth_6, nth_7, nth_8, nth_9, y_nil, y_int, y_bool, y_str, y_sl, y_nils, y_agg, y_ownp, y_own, z_nil, z_int, z_bool, z_str, z_sl, z_nils, b_nil, b_arr, b_box1, b_box2, b_box3, b_box4, List.map_cons, List.map_nil, Bool.and_self, Bool.and_true, Bool.true_and, Bool.not_true, Bool.not_false, Bool.or_false, Bool.false_or, cond_true, cond_false]
  rw [src_zero, hA]
  have n1 := Norm_lt a
  simp only [bnd_some, ctl_true, ctl_false, ctl_and, ctl_or', ctl_or2, x_toPV, x_toCs, x_toCs2, x_toEs, x_bEs, x_bCs, x_aPV, x_aCs, x_int, x_bool, x_str, x_es, x_esn, nth_0, nth_1, nth_2, nth_3, nth_4, nth_5, nth_6, nth_7, nth_8, nth_9, y_nil, y_int, y_bool, y_str, y_sl, y_nils, y_agg, y_ownp, y_own, z_nil, z_int, z_bool, z_str, z_sl, z_nils, b_nil, b_arr, b_box1, b_box2, b_box3, b_box4, List.map_cons, List.map_nil, Bool.and_self, Bool.and_true, Bool.true_and, Bool.not_true, Bool.not_false, Bool.or_false, Bool.false_or, cond_true, cond_false, c_Cross, c_Within, c_sane]
  rw [w64 (n := x) (by omega), w64 (n := y) (by omega), w64 (n := 0 - x) (by omega), w64 (n := 0 - y) (by omega), w64 (n := 2 * x) (by omega), w64 (n := 2 * y) (by omega), w64 (n := Norm a + 1800) (by omega)]
  have hc : ∀ a, -20000000000000 ≤ Cross a x y ∧ Cross a x y ≤ 20000000000000 := fun a => by
    unfold Cross
    have h1 := mul_le (a := Cos a) (b := y) (m := 10000) (n := 1000000000) (Cos_le a) (by omega)
    have h2 := mul_le (a := Sin a) (b := x) (m := 10000) (n := 1000000000) (Sin_le a) (by omega)
    split <;> omega
  have hc1 := hc (Norm a)
  rw [Cross_neg, Cross_half n1, w64 (n := 0 - Cross (Norm a) x y) (by omega), w64 (n := 0 - (0 - Cross (Norm a) x y)) (by omega), Within_opp, Within_zero, Within_two _ _ hx hy]
  have k1 : (Cross (Norm a) x y != 0 - (0 - Cross (Norm a) x y)) = false := by simp
  have k2 : (0 - Cross (Norm a) x y != 0 - Cross (Norm a) x y) = false := by simp
  rw [k1, k2]
  rfl

end Go.Proofs.Ytpemmbkflddhoaa.Vm
