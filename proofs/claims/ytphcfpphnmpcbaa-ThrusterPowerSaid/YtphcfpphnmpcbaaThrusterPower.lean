/- The law ThrusterPower comes to true. -/
import Derived.Test.YtphcfpphnmpcbaaThrusterC
import Derived.Test.YtphcfpphnmpcbaaRawPower
namespace Go.Proofs.Ytphcfpphnmpcbaa.Vm
set_option linter.unusedVariables false
set_option linter.unusedSimpArgs false

theorem pow_loop {u : Thr} {p m x : Int} (hm : 0 ≤ m ∧ m ≤ 5000) (hx : -m ≤ x ∧ x ≤ m) : ∀ (k : Nat) (y : Int), (m - y).toNat ≤ k → 0 ≤ y → y ≤ m → x * x + y * y ≤ m * m →
    ∃ z : Int, lp E (denC E) 4 0 [] 0 { vals := [AV.int .i64 p, AV.int .i64 m, AV.int .i64 x, AV.int .i64 y], blks := [thB u] } =
      some (Ex.exit 0, { vals := [AV.int .i64 p, AV.int .i64 m, AV.int .i64 x, AV.int .i64 z], blks := [thB u] }) ∧ 0 ≤ z ∧ z ≤ m ∧ x * x + z * z ≤ m * m := by
  intro k
  have sx := sq_le (a := x) (m := m) hx
  have sm := sq_le (a := m) (m := 5000) (by omega)
  induction k with
  | zero =>
    intro y hk h0 h1 h2
    have : y = m := by omega
    subst this
    refine ⟨y, ?_, h0, h1, h2⟩
    have s1 := sq_le (a := y + 1) (m := 5001) (by omega)
    have e : (y + 1) * (y + 1) = y * y + 2 * y + 1 := by grind
    rw [r4_0, w64 (n := y + 1) (by omega), w64 (n := (y + 1) * (y + 1)) (by omega), w64 (n := x * x) (by omega), w64 (n := y * y) (by omega), w64 (n := (y + 1) * (y + 1) + x * x) (by omega), ctl_dec, if_neg (by omega)]
  | succ k ih =>
    intro y hk h0 h1 h2
    have s1 := sq_le (a := y + 1) (m := 5001) (by omega)
    have s2 := sq_le (a := y) (m := m) (by omega)
    have e : (y + 1) * (y + 1) = y * y + 2 * y + 1 := by grind
    rw [r4_0, w64 (n := y + 1) (by omega), w64 (n := (y + 1) * (y + 1)) (by omega), w64 (n := x * x) (by omega), w64 (n := m * m) (by omega), w64 (n := (y + 1) * (y + 1) + x * x) (by omega), ctl_dec]
    by_cases hc : (y + 1) * (y + 1) + x * x ≤ m * m
    · rw [if_pos hc]
      refine ih (y + 1) (by omega) (by omega) ?_ (by omega)
      rcases Int.lt_or_le m (y + 1) with hl | hl
      · have : y = m := by omega
        subst this
        omega
      · exact hl
    · rw [if_neg hc]
      exact ⟨y, rfl, h0, h1, h2⟩

theorem d_ThrusterPower (t : List Int) (_ : t.length ≤ maxLen) (_ : ∀ n ∈ t, -9223372036854775808 ≤ n ∧ n ≤ 9223372036854775807) :
    denC E 4 [AV.sl 1 (intsK .i64 t)] [] = some ([RV.p (PV.bool true)], []) := by
  rw [denC_eq, r4, c_New]
  have hL : (t.take 600).length ≤ 600 := by simp; omega
  generalize t.take 600 = L at hL
  have h0 : (0 : Nat) ≤ 600 := by omega
  simp only [bnd_some, ctl_true, ctl_false, ctl_and, ctl_or', ctl_or2, x_toPV, x_toCs, x_toCs2, x_toEs, x_bEs, x_bCs, x_aPV, x_aCs, x_int, x_bool, x_str, x_es, x_esn, nth_0, nth_1, nth_2, nth_3, nth_4, nth_5, nth_6, nth_7, nth_8, nth_9, y_nil, y_int, y_bool, y_str, y_sl, y_nils, y_agg, y_ownp, y_own, z_nil, z_int, z_bool, z_str, z_sl, z_nils, b_nil, b_arr, b_box1, b_box2, b_box3, b_box4, List.map_cons, List.map_nil, Bool.and_self, Bool.and_true, Bool.true_and, Bool.not_true, Bool.not_false, Bool.or_false, Bool.false_or, cond_true, cond_false, okPack, okPut, okPutBlks, okPutCells, q_isP, q_isAg, q_isBox, q_isArr, q_int, q_bool, q_str, q_sl, q_nils, e_exit, e_ret, e_nrm, e_ret_exit, e_exit_ret, e_nrm_exit, e_nrm_ret, e_exit_nrm, e_ret_nrm, Nat.zero_add, Nat.reduceAdd, noslR, noslP, noslB, noslA, List.all_cons, List.all_nil]
  obtain ⟨w, k, hT, hs, hk⟩ := c_Thruster hL h0
  have hvw := SrcT_ok hs
  obtain ⟨q1, q2, q3, q4, q5, q6, q7, q8, q9, q10, q11, q12⟩ := hs
  have hk1 := at'_le hL hk
  have hk2 := at'_le hL hk1
  have e1 : denC E 13 [AV.t (.ptr 0 0), AV.sl 1 [[PV.int .i64 0], [PV.int .i64 30], [PV.int .i64 200]]] _ = _ := c_Pick hL hk (l := [0, 30, 200]) (by decide)
  have e2 : denC E 13 [AV.t (.ptr 0 0), AV.sl 1 [[PV.int .i64 0], [PV.int .i64 1], [PV.int .i64 10], [PV.int .i64 500]]] _ = _ := c_Pick hL hk1 (l := [0, 1, 10, 500]) (by decide)
  have b1 := vPick_mem L k (l := [0, 30, 200]) (by decide)
  have b2 := vPick_mem L (at' L k) (l := [0, 1, 10, 500]) (by decide)
  generalize vPick L k [0, 30, 200] = mx at *
  generalize vPick L (at' L k) [0, 1, 10, 500] = p at *
  have b1 : 0 ≤ mx ∧ mx ≤ 200 := by simp only [List.mem_cons, List.not_mem_nil, or_false] at b1; omega
  have b2 : 0 ≤ p ∧ p ≤ 500 := by simp only [List.mem_cons, List.not_mem_nil, or_false] at b2; omega
  have hu : ∃ u : Thr, u = { w with mx := mx } := ⟨_, rfl⟩
  obtain ⟨u, hu⟩ := hu
  have hm : u.fb.length ≤ maxLen := by rw [hu]; exact Nat.le_trans q11 (by decide)
  have hv : okT u = true := by
    rw [hu]
    have h0 := okT0_iff.1 (okT_iff.1 hvw).1
    exact okT_iff.2 ⟨okT0_iff.2 (by simp only; omega), (okT_iff.1 hvw).2⟩
  have f1 : w.kd = u.kd := by rw [hu]
  have f2 : w.st = u.st := by rw [hu]
  have f3 : mx = u.mx := by rw [hu]
  have f4 : w.rt = u.rt := by rw [hu]
  have f5 : w.ct = u.ct := by rw [hu]
  have f6 : w.fb = u.fb := by rw [hu]
  clear hu
  unfold thC at hT
  rw [src_zero, hT]
  simp only [bnd_some, ctl_true, ctl_false, ctl_and, ctl_or', ctl_or2, x_toPV, x_toCs, x_toCs2, x_toEs, x_bEs, x_bCs, x_aPV, x_aCs, x_int, x_bool, x_str, x_es, x_esn, nth_0, nth_1, nth_2, nth_3, nth_4, nth_5, nth_6, nth_7, nth_8, nth_9, y_nil, y_int, y_bool, y_str, y_sl, y_nils, y_agg, y_ownp, y_own, z_nil, z_int, z_bool, z_str, z_sl, z_nils, b_nil, b_arr, b_box1, b_box2, b_box3, b_box4, List.map_cons, List.map_nil, Bool.and_self, Bool.and_true, Bool.true_and, Bool.not_true, Bool.not_false, Bool.or_false, Bool.false_or, cond_true, cond_false, okPack, okPut, okPutBlks, okPutCells, q_isP, q_isAg, q_isBox, q_isArr, q_int, q_bool, q_str, q_sl, q_nils, e_exit, e_ret, e_nrm, e_ret_exit, e_exit_ret, e_nrm_exit, e_nrm_ret, e_exit_nrm, e_ret_nrm, Nat.zero_add, Nat.reduceAdd, noslR, noslP, noslB, noslA, List.all_cons, List.all_nil]
  rw [e1]
  simp only [bnd_some, ctl_true, ctl_false, ctl_and, ctl_or', ctl_or2, x_toPV, x_toCs, x_toCs2, x_toEs, x_bEs, x_bCs, x_aPV, x_aCs, x_int, x_bool, x_str, x_es, x_esn, nth_0, nth_1, nth_2, nth_3, nth_4, nth_5, nth_6, nth_7, nth_8, nth_9, y_nil, y_int, y_bool, y_str, y_sl, y_nils, y_agg, y_ownp, y_own, z_nil, z_int, z_bool, z_str, z_sl, z_nils, b_nil, b_arr, b_box1, b_box2, b_box3, b_box4, List.map_cons, List.map_nil, Bool.and_self, Bool.and_true, Bool.true_and, Bool.not_true, Bool.not_false, Bool.or_false, Bool.false_or, cond_true, cond_false, okPack, okPut, okPutBlks, okPutCells, q_isP, q_isAg, q_isBox, q_isArr, q_int, q_bool, q_str, q_sl, q_nils, e_exit, e_ret, e_nrm, e_ret_exit, e_exit_ret, e_nrm_exit, e_nrm_ret, e_exit_nrm, e_ret_nrm, Nat.zero_add, Nat.reduceAdd, noslR, noslP, noslB, noslA, List.all_cons, List.all_nil]
  rw [e2]
  simp only [bnd_some, ctl_true, ctl_false, ctl_and, ctl_or', ctl_or2, x_toPV, x_toCs, x_toCs2, x_toEs, x_bEs, x_bCs, x_aPV, x_aCs, x_int, x_bool, x_str, x_es, x_esn, nth_0, nth_1, nth_2, nth_3, nth_4, nth_5, nth_6, nth_7, nth_8, nth_9, y_nil, y_int, y_bool, y_str, y_sl, y_nils, y_agg, y_ownp, y_own, z_nil, z_int, z_bool, z_str, z_sl, z_nils, b_nil, b_arr, b_box1, b_box2, b_box3, b_box4, List.map_cons, List.map_nil, Bool.and_self, Bool.and_true, Bool.true_and, Bool.not_true, Bool.not_false, Bool.or_false, Bool.false_or, cond_true, cond_false, okPack, okPut, okPutBlks, okPutCells, q_isP, q_isAg, q_isBox, q_isArr, q_int, q_bool, q_str, q_sl, q_nils, e_exit, e_ret, e_nrm, e_ret_exit, e_exit_ret, e_nrm_exit, e_nrm_ret, e_exit_nrm, e_ret_nrm, Nat.zero_add, Nat.reduceAdd, noslR, noslP, noslB, noslA, List.all_cons, List.all_nil]
  rw [f1, f2, f4, f5, f6, f3]
  obtain ⟨m, a1, a2⟩ := c_Most hm hv (p := p) b2.1
  obtain ⟨a3, a4, a5, a6⟩ := a2
  have hR := c_Range hL hk2 (lo := -m) (hi := m) (by omega)
  have bR := vRange_bounds (L := L) (k := at' L (at' L k)) (lo := -m) (hi := m) (by omega)
  generalize vRange L (at' L (at' L k)) (-m) m = x at *
  obtain ⟨y, c1, c2, c3, c4⟩ := pow_loop (u := u) (p := p) (m := m) (x := x) (by omega) (by omega) m.toNat 0 (by omega) (by omega) (by omega) (by have := sq_le (a := x) (m := m) (by omega); omega)
  have hct : 1 ≤ u.ct := by omega
  have sP : ∀ c d, smallT c d = true → powV u c d = up (pw u c d) 1000 ∧ powE u c d = 0 := fun c d hs => by
    unfold powV powE
    rw [if_pos ⟨hv, hs⟩, if_pos ⟨hv, hs⟩]
    exact ⟨rfl, rfl⟩
  have p1 := c_Power hm x y
  have p2 := c_Power hm m 0
  have p3 := c_Power hm (m + 1) 0
  obtain ⟨v1, w1⟩ := sP x y (smallT_iff.2 (by omega))
  obtain ⟨v2, w2⟩ := sP m 0 (smallT_iff.2 (by omega))
  obtain ⟨v3, w3⟩ := sP (m + 1) 0 (smallT_iff.2 (by omega))
  rw [v1, w1] at p1
  rw [v2, w2] at p2
  rw [v3, w3] at p3
  unfold thC at a1 p1 p2 p3
  rw [a1]
  simp only [bnd_some, ctl_true, ctl_false, ctl_and, ctl_or', ctl_or2, x_toPV, x_toCs, x_toCs2, x_toEs, x_bEs, x_bCs, x_aPV, x_aCs, x_int, x_bool, x_str, x_es, x_esn, nth_0, nth_1, nth_2, nth_3, nth_4, nth_5, nth_6, nth_7, nth_8, nth_9, y_nil, y_int, y_bool, y_str, y_sl, y_nils, y_agg, y_ownp, y_own, z_nil, z_int, z_bool, z_str, z_sl, z_nils, b_nil, b_arr, b_box1, b_box2, b_box3, b_box4, List.map_cons, List.map_nil, Bool.and_self, Bool.and_true, Bool.true_and, Bool.not_true, Bool.not_false, Bool.or_false, Bool.false_or, cond_true, cond_false, okPack, okPut, okPutBlks, okPutCells, q_isP, q_isAg, q_isBox, q_isArr, q_int, q_bool, q_str, q_sl, q_nils, e_exit, e_ret, e_nrm, e_ret_exit, e_exit_ret, e_nrm_exit, e_nrm_ret, e_exit_nrm, e_ret_nrm, Nat.zero_add, Nat.reduceAdd, noslR, noslP, noslB, noslA, List.all_cons, List.all_nil]
  have en : 0 - m = -m := by omega
  have g0 : (ltB m 0 || ltB u.mx m) = false := by simp only [Bool.or_eq_false_iff, decide_eq_false_iff_not]; omega
  rw [g0, w64 (n := 0 - m) (by omega), en]
  simp only [bnd_some, ctl_true, ctl_false, ctl_and, ctl_or', ctl_or2, x_toPV, x_toCs, x_toCs2, x_toEs, x_bEs, x_bCs, x_aPV, x_aCs, x_int, x_bool, x_str, x_es, x_esn, nth_0, nth_1, nth_2, nth_3, nth_4, nth_5, nth_6, nth_7, nth_8, nth_9, y_nil, y_int, y_bool, y_str, y_sl, y_nils, y_agg, y_ownp, y_own, z_nil, z_int, z_bool, z_str, z_sl, z_nils, b_nil, b_arr, b_box1, b_box2, b_box3, b_box4, List.map_cons, List.map_nil, Bool.and_self, Bool.and_true, Bool.true_and, Bool.not_true, Bool.not_false, Bool.or_false, Bool.false_or, cond_true, cond_false, okPack, okPut, okPutBlks, okPutCells, q_isP, q_isAg, q_isBox, q_isArr, q_int, q_bool, q_str, q_sl, q_nils, e_exit, e_ret, e_nrm, e_ret_exit, e_exit_ret, e_nrm_exit, e_nrm_ret, e_exit_nrm, e_ret_nrm, Nat.zero_add, Nat.reduceAdd, noslR, noslP, noslB, noslA, List.all_cons, List.all_nil]
  rw [hR]
  simp only [bnd_some, ctl_true, ctl_false, ctl_and, ctl_or', ctl_or2, x_toPV, x_toCs, x_toCs2, x_toEs, x_bEs, x_bCs, x_aPV, x_aCs, x_int, x_bool, x_str, x_es, x_esn, nth_0, nth_1, nth_2, nth_3, nth_4, nth_5, nth_6, nth_7, nth_8, nth_9, y_nil, y_int, y_bool, y_str, y_sl, y_nils, y_agg, y_ownp, y_own, z_nil, z_int, z_bool, z_str, z_sl, z_nils, b_nil, b_arr, b_box1, b_box2, b_box3, b_box4, List.map_cons, List.map_nil, Bool.and_self, Bool.and_true, Bool.true_and, Bool.not_true, Bool.not_false, Bool.or_false, Bool.false_or, cond_true, cond_false, okPack, okPut, okPutBlks, okPutCells, q_isP, q_isAg, q_isBox, q_isArr, q_int, q_bool, q_str, q_sl, q_nils, e_exit, e_ret, e_nrm, e_ret_exit, e_exit_ret, e_nrm_exit, e_nrm_ret, e_exit_nrm, e_ret_nrm, Nat.zero_add, Nat.reduceAdd, noslR, noslP, noslB, noslA, List.all_cons, List.all_nil]
  rw [c1]
  simp only [bnd_some, ctl_true, ctl_false, ctl_and, ctl_or', ctl_or2, x_toPV, x_toCs, x_toCs2, x_toEs, x_bEs, x_bCs, x_aPV, x_aCs, x_int, x_bool, x_str, x_es, x_esn, nth_0, nth_1, nth_2, nth_3, nth_4, nth_5, nth_6, nth_7, nth_8, nth_9, y_nil, y_int, y_bool, y_str, y_sl, y_nils, y_agg, y_ownp, y_own, z_nil, z_int, z_bool, z_str, z_sl, z_nils, b_nil, b_arr, b_box1, b_box2, b_box3, b_box4, List.map_cons, List.map_nil, Bool.and_self, Bool.and_true, Bool.true_and, Bool.not_true, Bool.not_false, Bool.or_false, Bool.false_or, cond_true, cond_false, okPack, okPut, okPutBlks, okPutCells, q_isP, q_isAg, q_isBox, q_isArr, q_int, q_bool, q_str, q_sl, q_nils, e_exit, e_ret, e_nrm, e_ret_exit, e_exit_ret, e_nrm_exit, e_nrm_ret, e_exit_nrm, e_ret_nrm, Nat.zero_add, Nat.reduceAdd, noslR, noslP, noslB, noslA, List.all_cons, List.all_nil, b_box6]
  rw [p1]
  simp only [bnd_some, ctl_true, ctl_false, ctl_and, ctl_or', ctl_or2, x_toPV, x_toCs, x_toCs2, x_toEs, x_bEs, x_bCs, x_aPV, x_aCs, x_int, x_bool, x_str, x_es, x_esn, nth_0, nth_1, nth_2, nth_3, nth_4, nth_5, nth_6, nth_7, nth_8, nth_9, y_nil, y_int, y_bool, y_str, y_sl, y_nils, y_agg, y_ownp, y_own, z_nil, z_int, z_bool, z_str, z_sl, z_nils, b_nil, b_arr, b_box1, b_box2, b_box3, b_box4, List.map_cons, List.map_nil, Bool.and_self, Bool.and_true, Bool.true_and, Bool.not_true, Bool.not_false, Bool.or_false, Bool.false_or, cond_true, cond_false, okPack, okPut, okPutBlks, okPutCells, q_isP, q_isAg, q_isBox, q_isArr, q_int, q_bool, q_str, q_sl, q_nils, e_exit, e_ret, e_nrm, e_ret_exit, e_exit_ret, e_nrm_exit, e_nrm_ret, e_exit_nrm, e_ret_nrm, Nat.zero_add, Nat.reduceAdd, noslR, noslP, noslB, noslA, List.all_cons, List.all_nil]
  rw [p2]
  simp only [bnd_some, ctl_true, ctl_false, ctl_and, ctl_or', ctl_or2, x_toPV, x_toCs, x_toCs2, x_toEs, x_bEs, x_bCs, x_aPV, x_aCs, x_int, x_bool, x_str, x_es, x_esn, nth_0, nth_1, nth_2, nth_3, nth_4, nth_5, nth_6, nth_7, nth_8, nth_9, y_nil, y_int, y_bool, y_str, y_sl, y_nils, y_agg, y_ownp, y_own, z_nil, z_int, z_bool, z_str, z_sl, z_nils, b_nil, b_arr, b_box1, b_box2, b_box3, b_box4, List.map_cons, List.map_nil, Bool.and_self, Bool.and_true, Bool.true_and, Bool.not_true, Bool.not_false, Bool.or_false, Bool.false_or, cond_true, cond_false, okPack, okPut, okPutBlks, okPutCells, q_isP, q_isAg, q_isBox, q_isArr, q_int, q_bool, q_str, q_sl, q_nils, e_exit, e_ret, e_nrm, e_ret_exit, e_exit_ret, e_nrm_exit, e_nrm_ret, e_exit_nrm, e_ret_nrm, Nat.zero_add, Nat.reduceAdd, noslR, noslP, noslB, noslA, List.all_cons, List.all_nil]
  rw [w64 (n := m + 1) (by omega), p3, c_sane]
  simp only [bnd_some, ctl_true, ctl_false, ctl_and, ctl_or', ctl_or2, x_toPV, x_toCs, x_toCs2, x_toEs, x_bEs, x_bCs, x_aPV, x_aCs, x_int, x_bool, x_str, x_es, x_esn, nth_0, nth_1, nth_2, nth_3, nth_4, nth_5, nth_6, nth_7, nth_8, nth_9, y_nil, y_int, y_bool, y_str, y_sl, y_nils, y_agg, y_ownp, y_own, z_nil, z_int, z_bool, z_str, z_sl, z_nils, b_nil, b_arr, b_box1, b_box2, b_box3, b_box4, List.map_cons, List.map_nil, Bool.and_self, Bool.and_true, Bool.true_and, Bool.not_true, Bool.not_false, Bool.or_false, Bool.false_or, cond_true, cond_false, okPack, okPut, okPutBlks, okPutCells, q_isP, q_isAg, q_isBox, q_isArr, q_int, q_bool, q_str, q_sl, q_nils, e_exit, e_ret, e_nrm, e_ret_exit, e_exit_ret, e_nrm_exit, e_nrm_ret, e_exit_nrm, e_ret_nrm, Nat.zero_add, Nat.reduceAdd, noslR, noslP, noslB, noslA, List.all_cons, List.all_nil]
  have n1 : pw u x y ≤ m * m * u.ct := Int.mul_le_mul_of_nonneg_right c4 (by omega)
  have n2 : pw u m 0 = m * m * u.ct := by unfold pw; rw [Int.mul_zero, Int.add_zero]
  have n3 : pw u (m + 1) 0 = (m + 1) * (m + 1) * u.ct := by unfold pw; rw [Int.mul_zero, Int.add_zero]
  have n4 : m * m ≤ (m + 1) * (m + 1) := Int.mul_le_mul (by omega) (by omega) (by omega) (by omega)
  have n5 : m * m * u.ct ≤ (m + 1) * (m + 1) * u.ct := Int.mul_le_mul_of_nonneg_right n4 (by omega)
  have k1 : leB (up (pw u x y) 1000) p = true := by rw [decide_eq_true_eq, up_le (by omega)]; omega
  have k2 : leB (up (pw u x y) 1000) (up (pw u m 0) 1000) = true := by rw [decide_eq_true_eq]; exact up_mono (by omega) (by omega)
  have k3 : leB (up (pw u m 0) 1000) p = true := by rw [decide_eq_true_eq, up_le (by omega)]; omega
  have k4 : leB (up (pw u m 0) 1000) (up (pw u (m + 1) 0) 1000) = true := by rw [decide_eq_true_eq]; exact up_mono (by omega) (by omega)
  have k5 : (m == u.mx || ltB p (up (pw u (m + 1) 0) 1000)) = true := by
    simp only [Bool.or_eq_true, beq_iff_eq, decide_eq_true_eq]
    rcases a6 with h | h
    · exact Or.inl h
    · right
      rcases Int.lt_or_le p (up (pw u (m + 1) 0) 1000) with h1 | h1
      · exact h1
      · rw [up_le (by omega)] at h1; omega
  rw [k1, k2, k3, k4]
  simp only [bnd_some, ctl_true, ctl_false, ctl_and, ctl_or', ctl_or2, x_toPV, x_toCs, x_toCs2, x_toEs, x_bEs, x_bCs, x_aPV, x_aCs, x_int, x_bool, x_str, x_es, x_esn, nth_0, nth_1, nth_2, nth_3, nth_4, nth_5, nth_6, nth_7, nth_8, nth_9, y_nil, y_int, y_bool, y_str, y_sl, y_nils, y_agg, y_ownp, y_own, z_nil, z_int, z_bool, z_str, z_sl, z_nils, b_nil, b_arr, b_box1, b_box2, b_box3, b_box4, List.map_cons, List.map_nil, Bool.and_self, Bool.and_true, Bool.true_and, Bool.not_true, Bool.not_false, Bool.or_false, Bool.false_or, cond_true, cond_false, okPack, okPut, okPutBlks, okPutCells, q_isP, q_isAg, q_isBox, q_isArr, q_int, q_bool, q_str, q_sl, q_nils, e_exit, e_ret, e_nrm, e_ret_exit, e_exit_ret, e_nrm_exit, e_nrm_ret, e_exit_nrm, e_ret_nrm, Nat.zero_add, Nat.reduceAdd, noslR, noslP, noslB, noslA, List.all_cons, List.all_nil, beq_self_eq_true, k5]

end Go.Proofs.Ytphcfpphnmpcbaa.Vm
