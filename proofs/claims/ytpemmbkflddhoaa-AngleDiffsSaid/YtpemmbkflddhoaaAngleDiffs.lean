/- The law AngleDiffs comes to true. -/
import Derived.Test.YtpemmbkflddhoaaAngleC
namespace Go.Proofs.Ytpemmbkflddhoaa.Vm
set_option linter.unusedSimpArgs false

theorem d_AngleDiffs (a : Int) (_ : -9223372036854775808 ≤ a ∧ a ≤ 9223372036854775807) (b : Int) (_ : -9223372036854775808 ≤ b ∧ b ≤ 9223372036854775807) (c : Int) (_ : -9223372036854775808 ≤ c ∧ c ≤ 9223372036854775807) : denC E 5 [AV.int .i64 a, AV.int .i64 b, AV.int .i64 c] [] = some ([RV.p (PV.bool true)], []) := by
  rw [denC_eq, r5]
  simp only [c_Diff, c_Norm, c_sane, bnd_some, ctl_true, ctl_false, ctl_and, ctl_or', ctl_or2, x_toPV, x_toCs, x_toCs2, x_toEs, x_bEs, x_bCs, x_aPV, x_aCs, x_int, x_bool, x_str, x_es, x_esn, nth_0, nth_1, nth_2, nth_3, nth_4, nth_5, nth_6, nth_7, nth_8, nth_9, y_nil, y_int, y_bool, y_str, y_sl, y_nils, y_agg, y_ownp, y_own, z_nil, z_int, z_bool, z_str, z_sl, z_nils, b_nil, b_arr, b_box1, b_box2, b_box3, b_box4, List.map_cons, List.map_nil, Bool.and_self, Bool.and_true, Bool.true_and, Bool.not_true, Bool.not_false, Bool.or_false, Bool.false_or, cond_true, cond_false]
  have h1 := Diff_spec a b
  have h2 := Diff_spec b c
  have h3 := Diff_spec c a
  have h4 := Diff_spec b a
  have h5 := Diff_spec a a
  have n1 := Norm_lt a
  rw [w64 (n := Norm a + Diff a b) (by omega), w64 (n := 0 - Diff a b) (by omega), w64 (n := Diff a b + Diff b c) (by omega), w64 (n := Diff a b + Diff b c + Diff c a) (by omega)]
  have key : (ltB (-1800) (Diff a b) && leB (Diff a b) 1800 && Norm (Norm a + Diff a b) == Norm b && (Diff a b == 1800 || Diff b a == 0 - Diff a b) && Norm (Diff a b + Diff b c + Diff c a) == 0 && Diff a a == 0) = true := by
    simp only [Bool.and_eq_true, Bool.or_eq_true, decide_eq_true_eq, beq_iff_eq]
    unfold Norm
    omega
  rw [key]

end Go.Proofs.Ytpemmbkflddhoaa.Vm
