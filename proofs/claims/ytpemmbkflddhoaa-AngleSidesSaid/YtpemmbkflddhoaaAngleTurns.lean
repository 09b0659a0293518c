/- The law AngleTurns comes to true. -/
import Derived.Test.YtpemmbkflddhoaaAngleC
namespace Go.Proofs.Ytpemmbkflddhoaa.Vm
set_option linter.unusedSimpArgs false

theorem Sin_norm {a b : Int} (h : Norm a = Norm b) : Sin a = Sin b := by unfold Sin; rw [h]
theorem Cos_norm {a b : Int} (h : Norm a = Norm b) : Cos a = Cos b := by unfold Cos; rw [h]

theorem Sin0_edge : Sin0 0 = 0 ∧ Sin0 1800 = 0 := by decide +kernel

theorem Sin_half {p : Int} (hp : 0 ≤ p ∧ p < 3600) : Sin (p + 1800) = -Sin p := by
  have hn : Norm p = p := by unfold Norm; omega
  obtain ⟨e0, e1⟩ := Sin0_edge
  unfold Sin
  rw [hn]
  by_cases h : p < 1800
  · have : Norm (p + 1800) = p + 1800 := by unfold Norm; omega
    rw [this]
    by_cases h0 : p = 0
    · subst h0
      simp only [Int.zero_add]
      rw [if_neg (by omega), if_neg (by omega), e0, e1]; rfl
    · rw [if_pos (by omega), if_neg (by omega), Int.add_sub_cancel]
  · have : Norm (p + 1800) = p - 1800 := by unfold Norm; omega
    rw [this, if_neg (by omega)]
    by_cases h0 : p = 1800
    · subst h0
      rw [if_neg (by omega), e1]; exact e0
    · rw [if_pos (by omega)]; omega

theorem Cos_half {p : Int} (hp : 0 ≤ p ∧ p < 3600) : Cos (p + 1800) = -Cos p := by
  unfold Cos
  have hn : Norm p = p := by unfold Norm; omega
  rw [hn, ← Sin_norm (a := Norm (p + 900) + 1800) (b := Norm (p + 1800) + 900) (by unfold Norm; omega), Sin_half (by unfold Norm; omega)]
  rw [Sin_norm (a := Norm (p + 900)) (b := p + 900) (by unfold Norm; omega)]

theorem d_AngleTurns (a : Int) (_ : -9223372036854775808 ≤ a ∧ a ≤ 9223372036854775807) (k : Int) (hk : -128 ≤ k ∧ k ≤ 127) : denC E 3 [AV.int .i64 a, AV.int .i8 k] [] = some ([RV.p (PV.bool true)], []) := by
  rw [denC_eq, r3]
  simp only [c_Norm, c_Sin, c_Cos, c_Diff, c_sane, bnd_some, ctl_true, ctl_false, ctl_and, ctl_or', ctl_or2, x_toPV, x_toCs, x_toCs2, x_toEs, x_bEs, x_bCs, x_aPV, x_aCs, x_int, x_bool, x_str, x_es, x_esn, nth_0, nth_1, nth_2, nth_3, nth_4, nth_5, nth_6, nth_7, nth_8, nth_9, y_nil, y_int, y_bool, y_str, y_sl, y_nils, y_agg, y_ownp, y_own, z_nil, z_int, z_bool, z_str, z_sl, z_nils, b_nil, b_arr, b_box1, b_box2, b_box3, b_box4, List.map_cons, List.map_nil, Bool.and_self, Bool.and_true, Bool.true_and, Bool.not_true, Bool.not_false, Bool.or_false, Bool.false_or, cond_true, cond_false]
  have n1 := Norm_lt a
  rw [w64 (n := k) (by omega), w64 (n := k * 3600) (by omega), w64 (n := Norm a + k * 3600) (by omega), w64 (n := Norm a + 1800) (by omega)]
  have b1 := Sin_bound (Norm a)
  have b2 : -300000000000 ≤ Cos (Norm a) ∧ Cos (Norm a) ≤ 300000000000 := Sin_bound _
  rw [w64 (n := 0 - Sin (Norm a)) (by omega), w64 (n := 0 - Cos (Norm a)) (by omega)]
  have e1 := Sin_half n1
  have e2 := Cos_half n1
  have hn : Norm (Norm a + k * 3600) = Norm (Norm a) := by unfold Norm; omega
  have e3 := Sin_norm hn
  have e4 := Cos_norm hn
  have e5 : Diff (Norm a) (Norm a + k * 3600) = 0 := by
    have := Diff_spec (Norm a) (Norm a + k * 3600)
    omega
  have e6 : Norm (Norm a + k * 3600) = Norm a := by unfold Norm; omega
  clear hn
  have key : (leB 0 (Norm a) && ltB (Norm a) 3600 && Norm (Norm a + k * 3600) == Norm a && Sin (Norm a + k * 3600) == Sin (Norm a) && Cos (Norm a + k * 3600) == Cos (Norm a) && Sin (Norm a + 1800) == 0 - Sin (Norm a) && Cos (Norm a + 1800) == 0 - Cos (Norm a) && Diff (Norm a) (Norm a + k * 3600) == 0) = true := by
    simp only [Bool.and_eq_true, decide_eq_true_eq, beq_iff_eq]
    omega
  rw [key]

end Go.Proofs.Ytpemmbkflddhoaa.Vm
