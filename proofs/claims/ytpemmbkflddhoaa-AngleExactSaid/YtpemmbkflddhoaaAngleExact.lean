/- The law AngleExact comes to true. -/
import Derived.Test.YtpemmbkflddhoaaAngleE
import Derived.Test.YtpemmbkflddhoaaFlds
namespace Go.Proofs.Ytpemmbkflddhoaa.Vm
set_option linter.unusedVariables false
set_option linter.unusedSimpArgs false
set_option maxRecDepth 10000

theorem ft_Arc : fty Try.prog 34 = [3, 3] := by kernel_rfl
theorem un_int : Try.prog.underlying 3 = some (.int .i64) := by kernel_rfl

theorem in_Arc {a : AV} (h : WFA Try.prog 34 a) : ∃ c0 c1 : Int, a = AV.agg [PV.int .i64 c0, PV.int .i64 c1] := by
  obtain ⟨xs, rfl, hx⟩ := wfa_flds ft_Arc h
  obtain ⟨x0, xs0, rfl, h0, k0⟩ := all2_cons hx
  obtain ⟨x1, xs1, rfl, h1, k1⟩ := all2_cons k0
  obtain rfl := all2_nil k1
  obtain ⟨c0, rfl, _⟩ := wfc_int un_int h0
  obtain ⟨c1, rfl, _⟩ := wfc_int un_int h1
  exact ⟨c0, c1, rfl⟩

theorem d_AngleExact (t : List Int) (_ : t.length ≤ maxLen) (_ : ∀ n ∈ t, -9223372036854775808 ≤ n ∧ n ≤ 9223372036854775807)
    (a : Int) (_ : -9223372036854775808 ≤ a ∧ a ≤ 9223372036854775807) (b : Int) (_ : -9223372036854775808 ≤ b ∧ b ≤ 9223372036854775807)
    (x : Int) (_ : -9223372036854775808 ≤ x ∧ x ≤ 9223372036854775807) (y : Int) (_ : -9223372036854775808 ≤ y ∧ y ≤ 9223372036854775807)
    (r : AV) (hr : WFA Try.prog 34 r) :
    denC E 7 [AV.sl 1 (intsK .i64 t), AV.int .i64 a, AV.int .i64 b, AV.int .i64 x, AV.int .i64 y, r] [] = some ([RV.p (PV.bool true)], []) := by
  obtain ⟨c0, c1, rfl⟩ := in_Arc hr
  rw [denC_eq, r7, c_New]
  have hL : (t.take 600).length ≤ 600 := by simp; omega
  generalize t.take 600 = L at hL
  have h0 : (0 : Nat) ≤ 600 := by omega
  have h1 : at' L 0 ≤ 600 := at'_le hL h0
  simp only [bnd_some, ctl_true, ctl_false, ctl_and, ctl_or', ctl_or2, x_toPV, x_toCs, x_toCs2, x_toEs, x_bEs, x_bCs, x_aPV, x_aCs, x_int, x_bool, x_str, x_es, x_esn, nth_0, nth_1, nth_2, nth_3, nth_4, nth_5, nth_6, nth_7, nth_8, nth_9, y_nil, y_int, y_bool, y_str, y_sl, y_nils, y_agg, y_ownp, y_own, z_nil, z_int, z_bool, z_str, z_sl, z_nils, b_nil, b_arr, b_box1, b_box2, b_box3, b_box4, List.map_cons, List.map_nil, Bool.and_self, Bool.and_true, Bool.true_and, Bool.not_true, Bool.not_false, Bool.or_false, Bool.false_or, cond_true, cond_false, okPack, okPut, okPutBlks, okPutCells, q_isP, q_isAg, q_isBox, q_isArr, q_int, q_bool, q_str, q_sl, q_nils, e_exit, e_ret, e_nrm, e_ret_exit, e_exit_ret, e_nrm_exit, e_nrm_ret, e_exit_nrm, e_ret_nrm, Nat.zero_add, Nat.reduceAdd, noslR, noslP, noslB, noslA, List.all_cons, List.all_nil, x_w1, x_w2, x_w3, x_w4, x_w01, x_w11, x_w21, x_w31, nth_10, nth_11, nth_12, nth_13, nth_14, nth_15, nth_16, nth_17, nth_18, nth_19, nth_20, nth_21, nth_22, nth_23]
  rw [src_zero, c_N hL h0 3600 (by decide)]
  simp only [bnd_some, ctl_true, ctl_false, ctl_and, ctl_or', ctl_or2, x_toPV, x_toCs, x_toCs2, x_toEs, x_bEs, x_bCs, x_aPV, x_aCs, x_int, x_bool, x_str, x_es, x_esn, nth_0, nth_1, nth_2, nth_3, nth_4, nth_5, nth_6, nth_7, nth_8, nth_9, y_nil, y_int, y_bool, y_str, y_sl, y_nils, y_agg, y_ownp, y_own, z_nil, z_int, z_bool, z_str, z_sl, z_nils, b_nil, b_arr, b_box1, b_box2, b_box3, b_box4, List.map_cons, List.map_nil, Bool.and_self, Bool.and_true, Bool.true_and, Bool.not_true, Bool.not_false, Bool.or_false, Bool.false_or, cond_true, cond_false, okPack, okPut, okPutBlks, okPutCells, q_isP, q_isAg, q_isBox, q_isArr, q_int, q_bool, q_str, q_sl, q_nils, e_exit, e_ret, e_nrm, e_ret_exit, e_exit_ret, e_nrm_exit, e_nrm_ret, e_exit_nrm, e_ret_nrm, Nat.zero_add, Nat.reduceAdd, noslR, noslP, noslB, noslA, List.all_cons, List.all_nil, x_w1, x_w2, x_w3, x_w4, x_w01, x_w11, x_w21, x_w31, nth_10, nth_11, nth_12, nth_13, nth_14, nth_15, nth_16, nth_17, nth_18, nth_19, nth_20, nth_21, nth_22, nth_23]
  rw [c_Odd hL h1]
  simp only [bnd_some, ctl_true, ctl_false, ctl_and, ctl_or', ctl_or2, x_toPV, x_toCs, x_toCs2, x_toEs, x_bEs, x_bCs, x_aPV, x_aCs, x_int, x_bool, x_str, x_es, x_esn, nth_0, nth_1, nth_2, nth_3, nth_4, nth_5, nth_6, nth_7, nth_8, nth_9, y_nil, y_int, y_bool, y_str, y_sl, y_nils, y_agg, y_ownp, y_own, z_nil, z_int, z_bool, z_str, z_sl, z_nils, b_nil, b_arr, b_box1, b_box2, b_box3, b_box4, List.map_cons, List.map_nil, Bool.and_self, Bool.and_true, Bool.true_and, Bool.not_true, Bool.not_false, Bool.or_false, Bool.false_or, cond_true, cond_false, okPack, okPut, okPutBlks, okPutCells, q_isP, q_isAg, q_isBox, q_isArr, q_int, q_bool, q_str, q_sl, q_nils, e_exit, e_ret, e_nrm, e_ret_exit, e_exit_ret, e_nrm_exit, e_nrm_ret, e_exit_nrm, e_ret_nrm, Nat.zero_add, Nat.reduceAdd, noslR, noslP, noslB, noslA, List.all_cons, List.all_nil, x_w1, x_w2, x_w3, x_w4, x_w01, x_w11, x_w21, x_w31, nth_10, nth_11, nth_12, nth_13, nth_14, nth_15, nth_16, nth_17, nth_18, nth_19, nth_20, nth_21, nth_22, nth_23]
  rw [e7_0 hL (at'_le hL h1)]
  simp only [bnd_some, ctl_true, ctl_false, ctl_and, ctl_or', ctl_or2, x_toPV, x_toCs, x_toCs2, x_toEs, x_bEs, x_bCs, x_aPV, x_aCs, x_int, x_bool, x_str, x_es, x_esn, nth_0, nth_1, nth_2, nth_3, nth_4, nth_5, nth_6, nth_7, nth_8, nth_9, y_nil, y_int, y_bool, y_str, y_sl, y_nils, y_agg, y_ownp, y_own, z_nil, z_int, z_bool, z_str, z_sl, z_nils, b_nil, b_arr, b_box1, b_box2, b_box3, b_box4, List.map_cons, List.map_nil, Bool.and_self, Bool.and_true, Bool.true_and, Bool.not_true, Bool.not_false, Bool.or_false, Bool.false_or, cond_true, cond_false, okPack, okPut, okPutBlks, okPutCells, q_isP, q_isAg, q_isBox, q_isArr, q_int, q_bool, q_str, q_sl, q_nils, e_exit, e_ret, e_nrm, e_ret_exit, e_exit_ret, e_nrm_exit, e_nrm_ret, e_exit_nrm, e_ret_nrm, Nat.zero_add, Nat.reduceAdd, noslR, noslP, noslB, noslA, List.all_cons, List.all_nil, x_w1, x_w2, x_w3, x_w4, x_w01, x_w11, x_w21, x_w31, nth_10, nth_11, nth_12, nth_13, nth_14, nth_15, nth_16, nth_17, nth_18, nth_19, nth_20, nth_21, nth_22, nth_23, c_sane]

end Go.Proofs.Ytpemmbkflddhoaa.Vm
