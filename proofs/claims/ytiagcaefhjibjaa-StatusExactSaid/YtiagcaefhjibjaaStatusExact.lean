/- The law StatusExact comes to true. -/
import Derived.Test.YtiagcaefhjibjaaStatusE
namespace Go.Proofs.Ytiagcaefhjibjaa.Vm
set_option linter.unusedVariables false
set_option linter.unusedSimpArgs false
set_option maxRecDepth 10000

theorem ft_Class : fty Try.prog 24 = [3, 3] := by kernel_rfl
theorem ft_Est : fty Try.prog 28 = [26, 3, 3, 3] := by kernel_rfl
theorem ft_Point : fty Try.prog 26 = [3, 3] := by kernel_rfl
theorem un_int : Try.prog.underlying 3 = some (.int .i64) := by kernel_rfl

theorem in_Class {a : AV} (h : WFA Try.prog 24 a) : ∃ c0 c1 : Int, a = AV.agg [PV.int .i64 c0, PV.int .i64 c1] := by
  obtain ⟨xs, rfl, hx⟩ := wfa_flds ft_Class h
  obtain ⟨x0, xs0, rfl, h0, k0⟩ := all2_cons hx
  obtain ⟨x1, xs1, rfl, h1, k1⟩ := all2_cons k0
  obtain rfl := all2_nil k1
  obtain ⟨c0, rfl, _⟩ := wfc_int un_int h0
  obtain ⟨c1, rfl, _⟩ := wfc_int un_int h1
  exact ⟨c0, c1, rfl⟩

theorem in_Est {a : AV} (h : WFA Try.prog 28 a) : ∃ e0 e1 e2 e3 e4 : Int, a = AV.agg [PV.int .i64 e0, PV.int .i64 e1, PV.int .i64 e2, PV.int .i64 e3, PV.int .i64 e4] := by
  obtain ⟨xs, rfl, hx⟩ := wfa_flds ft_Est h
  obtain ⟨x0, xs0, rfl, h0, k0⟩ := all2_cons hx
  obtain ⟨x1, xs1, rfl, h1, k1⟩ := all2_cons k0
  obtain ⟨x2, xs2, rfl, h2, k2⟩ := all2_cons k1
  obtain ⟨x3, xs3, rfl, h3, k3⟩ := all2_cons k2
  obtain rfl := all2_nil k3
  obtain ⟨e2, rfl, _⟩ := wfc_int un_int h1
  obtain ⟨e3, rfl, _⟩ := wfc_int un_int h2
  obtain ⟨e4, rfl, _⟩ := wfc_int un_int h3
  obtain ⟨ys, rfl, hy⟩ := wfc_flds ft_Point h0
  obtain ⟨y0, ys0, rfl, g0, j0⟩ := all2_cons hy
  obtain ⟨y1, ys1, rfl, g1, j1⟩ := all2_cons j0
  obtain rfl := all2_nil j1
  obtain ⟨e0, rfl, _⟩ := wfc_int un_int g0
  obtain ⟨e1, rfl, _⟩ := wfc_int un_int g1
  exact ⟨e0, e1, e2, e3, e4, rfl⟩

theorem levelsL_le {L : List Int} (hL : L.length ≤ 600) : ∀ (j : Nat) {k : Nat}, k ≤ 600 → (levelsL L k j).2 ≤ 600
  | 0, _, h => h
  | j + 1, _, h => levelsL_le hL j (at'_le hL h)
theorem lvAt_le {L : List Int} (hL : L.length ≤ 600) {k : Nat} (hk : k ≤ 600) (most : Int) : lvAt L k most ≤ 600 := levelsL_le hL _ (at'_le hL hk)

theorem d_StatusExact (t : List Int) (_ : t.length ≤ maxLen) (_ : ∀ n ∈ t, -9223372036854775808 ≤ n ∧ n ≤ 9223372036854775807) (c : AV) (hc : WFA Try.prog 24 c)
    (time : Int) (_ : -9223372036854775808 ≤ time ∧ time ≤ 9223372036854775807) (judged : Int) (_ : -9223372036854775808 ≤ judged ∧ judged ≤ 9223372036854775807)
    (delay : Int) (_ : -9223372036854775808 ≤ delay ∧ delay ≤ 9223372036854775807) (raw : List Int) (_ : raw.length ≤ maxLen) (_ : ∀ n ∈ raw, -9223372036854775808 ≤ n ∧ n ≤ 9223372036854775807)
    (e : AV) (he : WFA Try.prog 28 e) (holds safe : Bool) :
    denC E 3 [AV.sl 1 (intsK .i64 t), c, AV.int .i64 time, AV.int .i64 judged, AV.int .i64 delay, AV.sl 1 (intsK .i64 raw), e, AV.bool holds, AV.bool safe] [] = some ([RV.p (PV.bool true)], []) := by
  obtain ⟨c0, c1, rfl⟩ := in_Class hc
  obtain ⟨e0, e1, e2, e3, e4, rfl⟩ := in_Est he
  rw [denC_eq, r3, intsK_length, intsK_length]
  simp only [bnd_some, ctl_true, ctl_false, ctl_and, ctl_or', ctl_or2, x_toPV, x_toCs, x_toCs2, x_toEs, x_bEs, x_bCs, x_aPV, x_aCs, x_int, x_bool, x_str, x_es, x_esn, nth_0, nth_1, nth_2, nth_3, nth_4, nth_5, nth_6, nth_7, nth_8, nth_9, y_nil, y_int, y_bool, y_str, y_sl, y_nils, y_agg, y_ownp, y_own, z_nil, z_int, z_bool, z_str, z_sl, z_nils, b_nil, b_arr, b_box1, b_box2, b_box3, b_box4, List.map_cons, List.map_nil, Bool.and_self, Bool.and_true, Bool.true_and, Bool.not_true, Bool.not_false, Bool.or_false, Bool.false_or, cond_true, cond_false, okPack, okPut, okPutBlks, okPutCells, q_isP, q_isAg, q_isBox, q_isArr, q_int, q_bool, q_str, q_sl, q_nils, e_exit, e_ret, e_nrm, e_ret_exit, e_exit_ret, e_nrm_exit, e_nrm_ret, e_exit_nrm, e_ret_nrm, Nat.zero_add, Nat.reduceAdd, noslR, noslP, noslB, noslA, List.all_cons, List.all_nil]
  by_cases hb : (ltB 600 (t.length : Int) || ltB 450 (raw.length : Int)) = true
  · rw [hb, ctl_true, c_sane]
    simp only [bnd_some, ctl_true, ctl_false, ctl_and, ctl_or', ctl_or2, x_toPV, x_toCs, x_toCs2, x_toEs, x_bEs, x_bCs, x_aPV, x_aCs, x_int, x_bool, x_str, x_es, x_esn, nth_0, nth_1, nth_2, nth_3, nth_4, nth_5, nth_6, nth_7, nth_8, nth_9, y_nil, y_int, y_bool, y_str, y_sl, y_nils, y_agg, y_ownp, y_own, z_nil, z_int, z_bool, z_str, z_sl, z_nils, b_nil, b_arr, b_box1, b_box2, b_box3, b_box4, List.map_cons, List.map_nil, Bool.and_self, Bool.and_true, Bool.true_and, Bool.not_true, Bool.not_false, Bool.or_false, Bool.false_or, cond_true, cond_false, okPack, okPut, okPutBlks, okPutCells, q_isP, q_isAg, q_isBox, q_isArr, q_int, q_bool, q_str, q_sl, q_nils, e_exit, e_ret, e_nrm, e_ret_exit, e_exit_ret, e_nrm_exit, e_nrm_ret, e_exit_nrm, e_ret_nrm, Nat.zero_add, Nat.reduceAdd, noslR, noslP, noslB, noslA, List.all_cons, List.all_nil]
  · have hb' : (ltB 600 (t.length : Int) || ltB 450 (raw.length : Int)) = false := by simpa using hb
    rw [hb', ctl_false, c_New]
    have hL : (t.take 600).length ≤ 600 := by simp; omega
    generalize t.take 600 = L at hL
    have h0 : (0 : Nat) ≤ 600 := by omega
    have h1 : at' L 0 ≤ 600 := at'_le hL h0
    have h2 : at' L (at' L 0) ≤ 600 := at'_le hL h1
    have h3 : adv L 14 (at' L (at' L 0)) ≤ 600 := adv_le hL 14 h2
    simp only [bnd_some, ctl_true, ctl_false, ctl_and, ctl_or', ctl_or2, x_toPV, x_toCs, x_toCs2, x_toEs, x_bEs, x_bCs, x_aPV, x_aCs, x_int, x_bool, x_str, x_es, x_esn, nth_0, nth_1, nth_2, nth_3, nth_4, nth_5, nth_6, nth_7, nth_8, nth_9, y_nil, y_int, y_bool, y_str, y_sl, y_nils, y_agg, y_ownp, y_own, z_nil, z_int, z_bool, z_str, z_sl, z_nils, b_nil, b_arr, b_box1, b_box2, b_box3, b_box4, List.map_cons, List.map_nil, Bool.and_self, Bool.and_true, Bool.true_and, Bool.not_true, Bool.not_false, Bool.or_false, Bool.false_or, cond_true, cond_false, okPack, okPut, okPutBlks, okPutCells, q_isP, q_isAg, q_isBox, q_isArr, q_int, q_bool, q_str, q_sl, q_nils, e_exit, e_ret, e_nrm, e_ret_exit, e_exit_ret, e_nrm_exit, e_nrm_ret, e_exit_nrm, e_ret_nrm, Nat.zero_add, Nat.reduceAdd, noslR, noslP, noslB, noslA, List.all_cons, List.all_nil, x_w1, x_w2, x_w11, x_w01, nth_10, nth_11, nth_12, nth_13, nth_14, nth_15, nth_16, nth_17, nth_18, nth_19, nth_20, nth_21]
    rw [src_zero, c_Range hL h0 (lo := 0) (hi := 4) (by decide)]
    simp only [bnd_some, ctl_true, ctl_false, ctl_and, ctl_or', ctl_or2, x_toPV, x_toCs, x_toCs2, x_toEs, x_bEs, x_bCs, x_aPV, x_aCs, x_int, x_bool, x_str, x_es, x_esn, nth_0, nth_1, nth_2, nth_3, nth_4, nth_5, nth_6, nth_7, nth_8, nth_9, y_nil, y_int, y_bool, y_str, y_sl, y_nils, y_agg, y_ownp, y_own, z_nil, z_int, z_bool, z_str, z_sl, z_nils, b_nil, b_arr, b_box1, b_box2, b_box3, b_box4, List.map_cons, List.map_nil, Bool.and_self, Bool.and_true, Bool.true_and, Bool.not_true, Bool.not_false, Bool.or_false, Bool.false_or, cond_true, cond_false, okPack, okPut, okPutBlks, okPutCells, q_isP, q_isAg, q_isBox, q_isArr, q_int, q_bool, q_str, q_sl, q_nils, e_exit, e_ret, e_nrm, e_ret_exit, e_exit_ret, e_nrm_exit, e_nrm_ret, e_exit_nrm, e_ret_nrm, Nat.zero_add, Nat.reduceAdd, noslR, noslP, noslB, noslA, List.all_cons, List.all_nil, x_w1, x_w2, x_w11, x_w01, nth_10, nth_11, nth_12, nth_13, nth_14, nth_15, nth_16, nth_17, nth_18, nth_19, nth_20, nth_21]
    rw [c_Range hL h1 (lo := -2) (hi := 6) (by decide)]
    simp only [bnd_some, ctl_true, ctl_false, ctl_and, ctl_or', ctl_or2, x_toPV, x_toCs, x_toCs2, x_toEs, x_bEs, x_bCs, x_aPV, x_aCs, x_int, x_bool, x_str, x_es, x_esn, nth_0, nth_1, nth_2, nth_3, nth_4, nth_5, nth_6, nth_7, nth_8, nth_9, y_nil, y_int, y_bool, y_str, y_sl, y_nils, y_agg, y_ownp, y_own, z_nil, z_int, z_bool, z_str, z_sl, z_nils, b_nil, b_arr, b_box1, b_box2, b_box3, b_box4, List.map_cons, List.map_nil, Bool.and_self, Bool.and_true, Bool.true_and, Bool.not_true, Bool.not_false, Bool.or_false, Bool.false_or, cond_true, cond_false, okPack, okPut, okPutBlks, okPutCells, q_isP, q_isAg, q_isBox, q_isArr, q_int, q_bool, q_str, q_sl, q_nils, e_exit, e_ret, e_nrm, e_ret_exit, e_exit_ret, e_nrm_exit, e_nrm_ret, e_exit_nrm, e_ret_nrm, Nat.zero_add, Nat.reduceAdd, noslR, noslP, noslB, noslA, List.all_cons, List.all_nil, x_w1, x_w2, x_w11, x_w01, nth_10, nth_11, nth_12, nth_13, nth_14, nth_15, nth_16, nth_17, nth_18, nth_19, nth_20, nth_21]
    rw [e3_0 hL h2]
    simp only [bnd_some, ctl_true, ctl_false, ctl_and, ctl_or', ctl_or2, x_toPV, x_toCs, x_toCs2, x_toEs, x_bEs, x_bCs, x_aPV, x_aCs, x_int, x_bool, x_str, x_es, x_esn, nth_0, nth_1, nth_2, nth_3, nth_4, nth_5, nth_6, nth_7, nth_8, nth_9, y_nil, y_int, y_bool, y_str, y_sl, y_nils, y_agg, y_ownp, y_own, z_nil, z_int, z_bool, z_str, z_sl, z_nils, b_nil, b_arr, b_box1, b_box2, b_box3, b_box4, List.map_cons, List.map_nil, Bool.and_self, Bool.and_true, Bool.true_and, Bool.not_true, Bool.not_false, Bool.or_false, Bool.false_or, cond_true, cond_false, okPack, okPut, okPutBlks, okPutCells, q_isP, q_isAg, q_isBox, q_isArr, q_int, q_bool, q_str, q_sl, q_nils, e_exit, e_ret, e_nrm, e_ret_exit, e_exit_ret, e_nrm_exit, e_nrm_ret, e_exit_nrm, e_ret_nrm, Nat.zero_add, Nat.reduceAdd, noslR, noslP, noslB, noslA, List.all_cons, List.all_nil, x_w1, x_w2, x_w11, x_w01, nth_10, nth_11, nth_12, nth_13, nth_14, nth_15, nth_16, nth_17, nth_18, nth_19, nth_20, nth_21]
    rw [c_levels hL h3 20 (by decide)]
    have h4 : lvAt L (adv L 14 (at' L (at' L 0))) 20 ≤ 600 := lvAt_le hL h3 20
    simp only [bnd_some, ctl_true, ctl_false, ctl_and, ctl_or', ctl_or2, x_toPV, x_toCs, x_toCs2, x_toEs, x_bEs, x_bCs, x_aPV, x_aCs, x_int, x_bool, x_str, x_es, x_esn, nth_0, nth_1, nth_2, nth_3, nth_4, nth_5, nth_6, nth_7, nth_8, nth_9, y_nil, y_int, y_bool, y_str, y_sl, y_nils, y_agg, y_ownp, y_own, z_nil, z_int, z_bool, z_str, z_sl, z_nils, b_nil, b_arr, b_box1, b_box2, b_box3, b_box4, List.map_cons, List.map_nil, Bool.and_self, Bool.and_true, Bool.true_and, Bool.not_true, Bool.not_false, Bool.or_false, Bool.false_or, cond_true, cond_false, okPack, okPut, okPutBlks, okPutCells, q_isP, q_isAg, q_isBox, q_isArr, q_int, q_bool, q_str, q_sl, q_nils, e_exit, e_ret, e_nrm, e_ret_exit, e_exit_ret, e_nrm_exit, e_nrm_ret, e_exit_nrm, e_ret_nrm, Nat.zero_add, Nat.reduceAdd, noslR, noslP, noslB, noslA, List.all_cons, List.all_nil, x_w1, x_w2, x_w11, x_w01, nth_10, nth_11, nth_12, nth_13, nth_14, nth_15, nth_16, nth_17, nth_18, nth_19, nth_20, nth_21]
    rw [e3_8 hL h4]
    have h5 : adv L 2 (lvAt L (adv L 14 (at' L (at' L 0))) 20) ≤ 600 := adv_le hL 2 h4
    simp only [bnd_some, ctl_true, ctl_false, ctl_and, ctl_or', ctl_or2, x_toPV, x_toCs, x_toCs2, x_toEs, x_bEs, x_bCs, x_aPV, x_aCs, x_int, x_bool, x_str, x_es, x_esn, nth_0, nth_1, nth_2, nth_3, nth_4, nth_5, nth_6, nth_7, nth_8, nth_9, y_nil, y_int, y_bool, y_str, y_sl, y_nils, y_agg, y_ownp, y_own, z_nil, z_int, z_bool, z_str, z_sl, z_nils, b_nil, b_arr, b_box1, b_box2, b_box3, b_box4, List.map_cons, List.map_nil, Bool.and_self, Bool.and_true, Bool.true_and, Bool.not_true, Bool.not_false, Bool.or_false, Bool.false_or, cond_true, cond_false, okPack, okPut, okPutBlks, okPutCells, q_isP, q_isAg, q_isBox, q_isArr, q_int, q_bool, q_str, q_sl, q_nils, e_exit, e_ret, e_nrm, e_ret_exit, e_exit_ret, e_nrm_exit, e_nrm_ret, e_exit_nrm, e_ret_nrm, Nat.zero_add, Nat.reduceAdd, noslR, noslP, noslB, noslA, List.all_cons, List.all_nil, x_w1, x_w2, x_w11, x_w01, nth_10, nth_11, nth_12, nth_13, nth_14, nth_15, nth_16, nth_17, nth_18, nth_19, nth_20, nth_21]
    rw [c_Estimate hL h5 1]
    simp only [bnd_some, ctl_true, ctl_false, ctl_and, ctl_or', ctl_or2, x_toPV, x_toCs, x_toCs2, x_toEs, x_bEs, x_bCs, x_aPV, x_aCs, x_int, x_bool, x_str, x_es, x_esn, nth_0, nth_1, nth_2, nth_3, nth_4, nth_5, nth_6, nth_7, nth_8, nth_9, y_nil, y_int, y_bool, y_str, y_sl, y_nils, y_agg, y_ownp, y_own, z_nil, z_int, z_bool, z_str, z_sl, z_nils, b_nil, b_arr, b_box1, b_box2, b_box3, b_box4, List.map_cons, List.map_nil, Bool.and_self, Bool.and_true, Bool.true_and, Bool.not_true, Bool.not_false, Bool.or_false, Bool.false_or, cond_true, cond_false, okPack, okPut, okPutBlks, okPutCells, q_isP, q_isAg, q_isBox, q_isArr, q_int, q_bool, q_str, q_sl, q_nils, e_exit, e_ret, e_nrm, e_ret_exit, e_exit_ret, e_nrm_exit, e_nrm_ret, e_exit_nrm, e_ret_nrm, Nat.zero_add, Nat.reduceAdd, noslR, noslP, noslB, noslA, List.all_cons, List.all_nil, x_w1, x_w2, x_w11, x_w01, nth_10, nth_11, nth_12, nth_13, nth_14, nth_15, nth_16, nth_17, nth_18, nth_19, nth_20, nth_21]
    rw [e3_12 hL (at'_le hL (at'_le hL (at'_le hL (at'_le hL h5))))]
    simp only [bnd_some, ctl_true, ctl_false, ctl_and, ctl_or', ctl_or2, x_toPV, x_toCs, x_toCs2, x_toEs, x_bEs, x_bCs, x_aPV, x_aCs, x_int, x_bool, x_str, x_es, x_esn, nth_0, nth_1, nth_2, nth_3, nth_4, nth_5, nth_6, nth_7, nth_8, nth_9, y_nil, y_int, y_bool, y_str, y_sl, y_nils, y_agg, y_ownp, y_own, z_nil, z_int, z_bool, z_str, z_sl, z_nils, b_nil, b_arr, b_box1, b_box2, b_box3, b_box4, List.map_cons, List.map_nil, Bool.and_self, Bool.and_true, Bool.true_and, Bool.not_true, Bool.not_false, Bool.or_false, Bool.false_or, cond_true, cond_false, okPack, okPut, okPutBlks, okPutCells, q_isP, q_isAg, q_isBox, q_isArr, q_int, q_bool, q_str, q_sl, q_nils, e_exit, e_ret, e_nrm, e_ret_exit, e_exit_ret, e_nrm_exit, e_nrm_ret, e_exit_nrm, e_ret_nrm, Nat.zero_add, Nat.reduceAdd, noslR, noslP, noslB, noslA, List.all_cons, List.all_nil, x_w1, x_w2, x_w11, x_w01, nth_10, nth_11, nth_12, nth_13, nth_14, nth_15, nth_16, nth_17, nth_18, nth_19, nth_20, nth_21, c_sane]

end Go.Proofs.Ytiagcaefhjibjaa.Vm
