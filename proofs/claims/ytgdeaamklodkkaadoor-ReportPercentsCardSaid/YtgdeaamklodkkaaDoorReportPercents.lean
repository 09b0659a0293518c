/- The law ReportPercents. -/
import Derived.Test.YtgdeaamklodkkaaDoorRepE
import Derived.Test.YtgdeaamklodkkaaDoorRawPercents
namespace Go.Proofs.YtgdeaamklodkkaaDoor.Vm
set_option linter.unusedVariables false
set_option linter.unusedSimpArgs false

theorem half_bnd {t s : Int} (hs : 0 < s) (ht : 0 ≤ t) : 2 * s * Half (100 * t) s ≤ 200 * t + s ∧ 200 * t + s < 2 * s * Half (100 * t) s + 2 * s := by
  unfold Half
  have h1 := Int.mul_ediv_add_emod (2 * (100 * t) + s) (2 * s)
  have h2 := Int.emod_nonneg (2 * (100 * t) + s) (show (2 * s) ≠ 0 by omega)
  have h3 := Int.emod_lt_of_pos (2 * (100 * t) + s) (show 0 < 2 * s by omega)
  omega

theorem pct_bnd {t s : Int} (h : 0 ≤ t ∧ t ≤ s) : (0 ≤ pct t s ∧ pct t s ≤ 100) ∧ (t = 0 → pct t s = 0) := by
  unfold pct
  by_cases hs : s = 0
  · rw [if_pos hs]; omega
  · rw [if_neg hs]
    obtain ⟨h1, h2⟩ := half_bnd (t := t) (s := s) (by omega) h.1
    have h3 : 0 ≤ Half (100 * t) s := by
      unfold Half
      exact Int.ediv_nonneg (by omega) (by omega)
    have h4 : Half (100 * t) s ≤ 100 := by
      rcases Int.lt_or_le 100 (Half (100 * t) s) with c | c
      · have : 2 * s * 101 ≤ 2 * s * Half (100 * t) s := Int.mul_le_mul_of_nonneg_left (by omega) (by omega)
        omega
      · exact c
    refine ⟨⟨h3, h4⟩, fun h0 => ?_⟩
    subst h0
    rcases Int.lt_or_le 0 (Half (100 * 0) s) with c | c
    · have : 2 * s * 1 ≤ 2 * s * Half (100 * 0) s := Int.mul_le_mul_of_nonneg_left (by omega) (by omega)
      omega
    · omega

theorem pct_sum {a b c d : Int} (ha : 0 ≤ a) (hb : 0 ≤ b) (hc : 0 ≤ c) (hd : 0 ≤ d) (hs : 0 < a + b + c + d) :
    98 ≤ pct a (a + b + c + d) + pct b (a + b + c + d) + pct c (a + b + c + d) + pct d (a + b + c + d) ∧ pct a (a + b + c + d) + pct b (a + b + c + d) + pct c (a + b + c + d) + pct d (a + b + c + d) ≤ 102 := by
  obtain ⟨s, hsd⟩ : ∃ s, a + b + c + d = s := ⟨_, rfl⟩
  rw [hsd] at hs ⊢
  unfold pct
  simp only [if_neg (show ¬ s = 0 by omega)]
  have ha := half_bnd (t := a) (s := s) hs ha
  have hb := half_bnd (t := b) (s := s) hs hb
  have hc := half_bnd (t := c) (s := s) hs hc
  have hd := half_bnd (t := d) (s := s) hs hd
  generalize Half (100 * a) s = x at *
  generalize Half (100 * b) s = y at *
  generalize Half (100 * c) s = z at *
  generalize Half (100 * d) s = u at *
  have e : 2 * s * (x + y + z + u) = 2 * s * x + 2 * s * y + 2 * s * z + 2 * s * u := by
    rw [Int.mul_add, Int.mul_add, Int.mul_add]
  constructor
  · rcases Int.lt_or_le (x + y + z + u) 98 with h | h
    · have : 2 * s * (x + y + z + u) ≤ 2 * s * 97 := Int.mul_le_mul_of_nonneg_left (by omega) (by omega)
      omega
    · exact h
  · rcases Int.lt_or_le 102 (x + y + z + u) with h | h
    · have : 2 * s * 103 ≤ 2 * s * (x + y + z + u) := Int.mul_le_mul_of_nonneg_left (by omega) (by omega)
      omega
    · exact h

theorem d_ReportPercents (t : List Int) (_ : t.length ≤ maxLen) (_ : ∀ n ∈ t, -9223372036854775808 ≤ n ∧ n ≤ 9223372036854775807) : denC E 4 [AV.sl 1 (intsK .i64 t)] [] = some ([RV.p (PV.bool true)], []) := by
  rw [denC_eq, r4, intsK_len]
  by_cases ht : 600 < t.length
  · have h1 : ltB 600 (t.length : Int) = true := by simp [ltB]; omega
    rw [h1, ctl_true, c_sane40]
    rfl
  · have h1 : ltB 600 (t.length : Int) = false := by simp [ltB]; omega
    rw [h1, ctl_false, c_New]
    simp only [bnd_some, ctl_true, ctl_false, ctl_and, ctl_or', ctl_or2, x_toPV, x_toCs, x_toCs2, x_toEs, x_bEs, x_bCs, x_aPV, x_aCs, x_int, x_bool, x_str, x_es, x_esn, nth_0, nth_1, nth_2, nth_3, nth_4, nth_5, nth_6, nth_7, nth_8, nth_9, y_nil, y_int, y_bool, y_str, y_sl, y_nils, y_agg, y_ownp, y_own, z_nil, z_int, z_bool, z_str, z_sl, z_nils, b_nil, b_arr, b_box1, b_box2, b_box3, b_box4, List.map_cons, List.map_nil, Bool.and_self, Bool.and_true, Bool.true_and, Bool.not_true, Bool.not_false, Bool.or_false, Bool.false_or, cond_true, cond_false, okPack, okPut, okPutBlks, okPutCells, q_isP, q_isAg, q_isBox, q_isArr, q_int, q_bool, q_str, q_sl, q_nils, e_exit, e_ret, e_nrm, e_ret_exit, e_exit_ret, e_nrm_exit, e_nrm_ret, e_exit_nrm, e_ret_nrm, Nat.zero_add, Nat.reduceAdd, noslR, noslP, noslB, noslA, List.all_cons, List.all_nil]
    rw [src_zero]
    have hL : (t.take 600).length ≤ 600 := by simp; omega
    obtain ⟨t0, t1, t2, t3, w, b, s, k1, hk1, h0, h1, h2, h3, _, _, _, hM⟩ := c_made (L := t.take 600) (k := 0) hL (by omega)
    rw [hM]
    simp only [bnd_some, ctl_true, ctl_false, ctl_and, ctl_or', ctl_or2, x_toPV, x_toCs, x_toCs2, x_toEs, x_bEs, x_bCs, x_aPV, x_aCs, x_int, x_bool, x_str, x_es, x_esn, nth_0, nth_1, nth_2, nth_3, nth_4, nth_5, nth_6, nth_7, nth_8, nth_9, y_nil, y_int, y_bool, y_str, y_sl, y_nils, y_agg, y_ownp, y_own, z_nil, z_int, z_bool, z_str, z_sl, z_nils, b_nil, b_arr, b_box1, b_box2, b_box3, b_box4, List.map_cons, List.map_nil, Bool.and_self, Bool.and_true, Bool.true_and, Bool.not_true, Bool.not_false, Bool.or_false, Bool.false_or, cond_true, cond_false, okPack, okPut, okPutBlks, okPutCells, q_isP, q_isAg, q_isBox, q_isArr, q_int, q_bool, q_str, q_sl, q_nils, e_exit, e_ret, e_nrm, e_ret_exit, e_exit_ret, e_nrm_exit, e_nrm_ret, e_exit_nrm, e_ret_nrm, Nat.zero_add, Nat.reduceAdd, noslR, noslP, noslB, noslA, List.all_cons, List.all_nil]
    have hP := fun L hL => c_Percent t0 t1 t2 t3 w b s (by omega) (by omega) (by omega) (by omega) L hL
    have p0 := hP 0 (by omega)
    have p1 := hP 1 (by omega)
    have p2 := hP 2 (by omega)
    have p3 := hP 3 (by omega)
    rw [if_pos rfl] at p0
    rw [if_neg (by decide), if_pos rfl] at p1
    rw [if_neg (by decide), if_neg (by decide), if_pos rfl] at p2
    rw [if_neg (by decide), if_neg (by decide), if_neg (by decide)] at p3
    clear hP
    obtain ⟨S, hS⟩ : ∃ S, t0 + t1 + t2 + t3 = S := ⟨_, rfl⟩
    have hsum := fun h => pct_sum h0.1 h1.1 h2.1 h3.1 h
    rw [hS] at p0 p1 p2 p3 hsum
    obtain ⟨b0, c0⟩ := pct_bnd (t := t0) (s := S) (by omega)
    obtain ⟨b1, c1⟩ := pct_bnd (t := t1) (s := S) (by omega)
    obtain ⟨b2, c2⟩ := pct_bnd (t := t2) (s := S) (by omega)
    obtain ⟨b3, c3⟩ := pct_bnd (t := t3) (s := S) (by omega)
    generalize pct t0 S = x0 at *
    generalize pct t1 S = x1 at *
    generalize pct t2 S = x2 at *
    generalize pct t3 S = x3 at *
    have one : ∀ x n : Int, (0 ≤ x ∧ x ≤ 100) → (n = 0 → x = 0) → ltB x 0 = false ∧ ltB 100 x = false ∧ (n == 0 && x != 0) = false := by
      intro x n hx hn
      refine ⟨by simp [ltB]; omega, by simp [ltB]; omega, ?_⟩
      cases hb : (n == 0) with
      | false => rfl
      | true =>
        have := hn (by simpa using hb)
        simp [this]
    obtain ⟨a0, a1, a2⟩ := one x0 t0 b0 c0
    obtain ⟨a3, a4, a5⟩ := one x1 t1 b1 c1
    obtain ⟨a6, a7, a8⟩ := one x2 t2 b2 c2
    obtain ⟨a9, a10, a11⟩ := one x3 t3 b3 c3
    have hl : lp E (denC E) 4 0 [] 0 { vals := [AV.int .i64 0, AV.int .i64 0, AV.agg [PV.int .i64 t0, PV.int .i64 t1, PV.int .i64 t2, PV.int .i64 t3], AV.int .i64 0], blks := [Blk.box [AV.int .i64 t0, AV.int .i64 t1, AV.int .i64 t2, AV.int .i64 t3, AV.int .i64 w, AV.int .i64 b, AV.int .i64 s]] } =
        some (.exit 0, { vals := [AV.int .i64 (x0 + x1 + x2 + x3), AV.int .i64 S], blks := [] }) := by
      rw [r4_0]
      simp only [m0, g0, bnd_some, ctl_true, ctl_false, ctl_and, ctl_or', ctl_or2, x_toPV, x_toCs, x_toCs2, x_toEs, x_bEs, x_bCs, x_aPV, x_aCs, x_int, x_bool, x_str, x_es, x_esn, nth_0, nth_1, nth_2, nth_3, nth_4, nth_5, nth_6, nth_7, nth_8, nth_9, y_nil, y_int, y_bool, y_str, y_sl, y_nils, y_agg, y_ownp, y_own, z_nil, z_int, z_bool, z_str, z_sl, z_nils, b_nil, b_arr, b_box1, b_box2, b_box3, b_box4, List.map_cons, List.map_nil, Bool.and_self, Bool.and_true, Bool.true_and, Bool.not_true, Bool.not_false, Bool.or_false, Bool.false_or, cond_true, cond_false, okPack, okPut, okPutBlks, okPutCells, q_isP, q_isAg, q_isBox, q_isArr, q_int, q_bool, q_str, q_sl, q_nils, e_exit, e_ret, e_nrm, e_ret_exit, e_exit_ret, e_nrm_exit, e_nrm_ret, e_exit_nrm, e_ret_nrm, Nat.zero_add, Nat.reduceAdd, noslR, noslP, noslB, noslA, List.all_cons, List.all_nil]
      rw [p0]
      simp only [u0, a0, a1, a2, bnd_some, ctl_true, ctl_false, ctl_and, ctl_or', ctl_or2, x_toPV, x_toCs, x_toCs2, x_toEs, x_bEs, x_bCs, x_aPV, x_aCs, x_int, x_bool, x_str, x_es, x_esn, nth_0, nth_1, nth_2, nth_3, nth_4, nth_5, nth_6, nth_7, nth_8, nth_9, y_nil, y_int, y_bool, y_str, y_sl, y_nils, y_agg, y_ownp, y_own, z_nil, z_int, z_bool, z_str, z_sl, z_nils, b_nil, b_arr, b_box1, b_box2, b_box3, b_box4, List.map_cons, List.map_nil, Bool.and_self, Bool.and_true, Bool.true_and, Bool.not_true, Bool.not_false, Bool.or_false, Bool.false_or, cond_true, cond_false, okPack, okPut, okPutBlks, okPutCells, q_isP, q_isAg, q_isBox, q_isArr, q_int, q_bool, q_str, q_sl, q_nils, e_exit, e_ret, e_nrm, e_ret_exit, e_exit_ret, e_nrm_exit, e_nrm_ret, e_exit_nrm, e_ret_nrm, Nat.zero_add, Nat.reduceAdd, noslR, noslP, noslB, noslA, List.all_cons, List.all_nil]
      rw [w64 (n := 0 + x0) (by omega), w64 (n := 0 + t0) (by omega), r4_0]
      simp only [m1, g1, bnd_some, ctl_true, ctl_false, ctl_and, ctl_or', ctl_or2, x_toPV, x_toCs, x_toCs2, x_toEs, x_bEs, x_bCs, x_aPV, x_aCs, x_int, x_bool, x_str, x_es, x_esn, nth_0, nth_1, nth_2, nth_3, nth_4, nth_5, nth_6, nth_7, nth_8, nth_9, y_nil, y_int, y_bool, y_str, y_sl, y_nils, y_agg, y_ownp, y_own, z_nil, z_int, z_bool, z_str, z_sl, z_nils, b_nil, b_arr, b_box1, b_box2, b_box3, b_box4, List.map_cons, List.map_nil, Bool.and_self, Bool.and_true, Bool.true_and, Bool.not_true, Bool.not_false, Bool.or_false, Bool.false_or, cond_true, cond_false, okPack, okPut, okPutBlks, okPutCells, q_isP, q_isAg, q_isBox, q_isArr, q_int, q_bool, q_str, q_sl, q_nils, e_exit, e_ret, e_nrm, e_ret_exit, e_exit_ret, e_nrm_exit, e_nrm_ret, e_exit_nrm, e_ret_nrm, Nat.zero_add, Nat.reduceAdd, noslR, noslP, noslB, noslA, List.all_cons, List.all_nil]
      rw [p1]
      simp only [u1, a3, a4, a5, bnd_some, ctl_true, ctl_false, ctl_and, ctl_or', ctl_or2, x_toPV, x_toCs, x_toCs2, x_toEs, x_bEs, x_bCs, x_aPV, x_aCs, x_int, x_bool, x_str, x_es, x_esn, nth_0, nth_1, nth_2, nth_3, nth_4, nth_5, nth_6, nth_7, nth_8, nth_9, y_nil, y_int, y_bool, y_str, y_sl, y_nils, y_agg, y_ownp, y_own, z_nil, z_int, z_bool, z_str, z_sl, z_nils, b_nil, b_arr, b_box1, b_box2, b_box3, b_box4, List.map_cons, List.map_nil, Bool.and_self, Bool.and_true, Bool.true_and, Bool.not_true, Bool.not_false, Bool.or_false, Bool.false_or, cond_true, cond_false, okPack, okPut, okPutBlks, okPutCells, q_isP, q_isAg, q_isBox, q_isArr, q_int, q_bool, q_str, q_sl, q_nils, e_exit, e_ret, e_nrm, e_ret_exit, e_exit_ret, e_nrm_exit, e_nrm_ret, e_exit_nrm, e_ret_nrm, Nat.zero_add, Nat.reduceAdd, noslR, noslP, noslB, noslA, List.all_cons, List.all_nil]
      rw [w64 (n := 0 + x0 + x1) (by omega), w64 (n := 0 + t0 + t1) (by omega), r4_0]
      simp only [m2, g2, bnd_some, ctl_true, ctl_false, ctl_and, ctl_or', ctl_or2, x_toPV, x_toCs, x_toCs2, x_toEs, x_bEs, x_bCs, x_aPV, x_aCs, x_int, x_bool, x_str, x_es, x_esn, nth_0, nth_1, nth_2, nth_3, nth_4, nth_5, nth_6, nth_7, nth_8, nth_9, y_nil, y_int, y_bool, y_str, y_sl, y_nils, y_agg, y_ownp, y_own, z_nil, z_int, z_bool, z_str, z_sl, z_nils, b_nil, b_arr, b_box1, b_box2, b_box3, b_box4, List.map_cons, List.map_nil, Bool.and_self, Bool.and_true, Bool.true_and, Bool.not_true, Bool.not_false, Bool.or_false, Bool.false_or, cond_true, cond_false, okPack, okPut, okPutBlks, okPutCells, q_isP, q_isAg, q_isBox, q_isArr, q_int, q_bool, q_str, q_sl, q_nils, e_exit, e_ret, e_nrm, e_ret_exit, e_exit_ret, e_nrm_exit, e_nrm_ret, e_exit_nrm, e_ret_nrm, Nat.zero_add, Nat.reduceAdd, noslR, noslP, noslB, noslA, List.all_cons, List.all_nil]
      rw [p2]
      simp only [u2, a6, a7, a8, bnd_some, ctl_true, ctl_false, ctl_and, ctl_or', ctl_or2, x_toPV, x_toCs, x_toCs2, x_toEs, x_bEs, x_bCs, x_aPV, x_aCs, x_int, x_bool, x_str, x_es, x_esn, nth_0, nth_1, nth_2, nth_3, nth_4, nth_5, nth_6, nth_7, nth_8, nth_9, y_nil, y_int, y_bool, y_str, y_sl, y_nils, y_agg, y_ownp, y_own, z_nil, z_int, z_bool, z_str, z_sl, z_nils, b_nil, b_arr, b_box1, b_box2, b_box3, b_box4, List.map_cons, List.map_nil, Bool.and_self, Bool.and_true, Bool.true_and, Bool.not_true, Bool.not_false, Bool.or_false, Bool.false_or, cond_true, cond_false, okPack, okPut, okPutBlks, okPutCells, q_isP, q_isAg, q_isBox, q_isArr, q_int, q_bool, q_str, q_sl, q_nils, e_exit, e_ret, e_nrm, e_ret_exit, e_exit_ret, e_nrm_exit, e_nrm_ret, e_exit_nrm, e_ret_nrm, Nat.zero_add, Nat.reduceAdd, noslR, noslP, noslB, noslA, List.all_cons, List.all_nil]
      rw [w64 (n := 0 + x0 + x1 + x2) (by omega), w64 (n := 0 + t0 + t1 + t2) (by omega), r4_0]
      simp only [m3, g3, bnd_some, ctl_true, ctl_false, ctl_and, ctl_or', ctl_or2, x_toPV, x_toCs, x_toCs2, x_toEs, x_bEs, x_bCs, x_aPV, x_aCs, x_int, x_bool, x_str, x_es, x_esn, nth_0, nth_1, nth_2, nth_3, nth_4, nth_5, nth_6, nth_7, nth_8, nth_9, y_nil, y_int, y_bool, y_str, y_sl, y_nils, y_agg, y_ownp, y_own, z_nil, z_int, z_bool, z_str, z_sl, z_nils, b_nil, b_arr, b_box1, b_box2, b_box3, b_box4, List.map_cons, List.map_nil, Bool.and_self, Bool.and_true, Bool.true_and, Bool.not_true, Bool.not_false, Bool.or_false, Bool.false_or, cond_true, cond_false, okPack, okPut, okPutBlks, okPutCells, q_isP, q_isAg, q_isBox, q_isArr, q_int, q_bool, q_str, q_sl, q_nils, e_exit, e_ret, e_nrm, e_ret_exit, e_exit_ret, e_nrm_exit, e_nrm_ret, e_exit_nrm, e_ret_nrm, Nat.zero_add, Nat.reduceAdd, noslR, noslP, noslB, noslA, List.all_cons, List.all_nil]
      rw [p3]
      simp only [u3, a9, a10, a11, bnd_some, ctl_true, ctl_false, ctl_and, ctl_or', ctl_or2, x_toPV, x_toCs, x_toCs2, x_toEs, x_bEs, x_bCs, x_aPV, x_aCs, x_int, x_bool, x_str, x_es, x_esn, nth_0, nth_1, nth_2, nth_3, nth_4, nth_5, nth_6, nth_7, nth_8, nth_9, y_nil, y_int, y_bool, y_str, y_sl, y_nils, y_agg, y_ownp, y_own, z_nil, z_int, z_bool, z_str, z_sl, z_nils, b_nil, b_arr, b_box1, b_box2, b_box3, b_box4, List.map_cons, List.map_nil, Bool.and_self, Bool.and_true, Bool.true_and, Bool.not_true, Bool.not_false, Bool.or_false, Bool.false_or, cond_true, cond_false, okPack, okPut, okPutBlks, okPutCells, q_isP, q_isAg, q_isBox, q_isArr, q_int, q_bool, q_str, q_sl, q_nils, e_exit, e_ret, e_nrm, e_ret_exit, e_exit_ret, e_nrm_exit, e_nrm_ret, e_exit_nrm, e_ret_nrm, Nat.zero_add, Nat.reduceAdd, noslR, noslP, noslB, noslA, List.all_cons, List.all_nil]
      rw [w64 (n := 0 + x0 + x1 + x2 + x3) (by omega), w64 (n := 0 + t0 + t1 + t2 + t3) (by omega), r4_0]
      simp only [m4, bnd_some, ctl_true, ctl_false, ctl_and, ctl_or', ctl_or2, x_toPV, x_toCs, x_toCs2, x_toEs, x_bEs, x_bCs, x_aPV, x_aCs, x_int, x_bool, x_str, x_es, x_esn, nth_0, nth_1, nth_2, nth_3, nth_4, nth_5, nth_6, nth_7, nth_8, nth_9, y_nil, y_int, y_bool, y_str, y_sl, y_nils, y_agg, y_ownp, y_own, z_nil, z_int, z_bool, z_str, z_sl, z_nils, b_nil, b_arr, b_box1, b_box2, b_box3, b_box4, List.map_cons, List.map_nil, Bool.and_self, Bool.and_true, Bool.true_and, Bool.not_true, Bool.not_false, Bool.or_false, Bool.false_or, cond_true, cond_false, okPack, okPut, okPutBlks, okPutCells, q_isP, q_isAg, q_isBox, q_isArr, q_int, q_bool, q_str, q_sl, q_nils, e_exit, e_ret, e_nrm, e_ret_exit, e_exit_ret, e_nrm_exit, e_nrm_ret, e_exit_nrm, e_ret_nrm, Nat.zero_add, Nat.reduceAdd, noslR, noslP, noslB, noslA, List.all_cons, List.all_nil]
      rw [show (0 : Int) + x0 + x1 + x2 + x3 = x0 + x1 + x2 + x3 by omega, show (0 : Int) + t0 + t1 + t2 + t3 = S by omega]
    rw [hl]
    simp only [bnd_some, ctl_true, ctl_false, ctl_and, ctl_or', ctl_or2, x_toPV, x_toCs, x_toCs2, x_toEs, x_bEs, x_bCs, x_aPV, x_aCs, x_int, x_bool, x_str, x_es, x_esn, nth_0, nth_1, nth_2, nth_3, nth_4, nth_5, nth_6, nth_7, nth_8, nth_9, y_nil, y_int, y_bool, y_str, y_sl, y_nils, y_agg, y_ownp, y_own, z_nil, z_int, z_bool, z_str, z_sl, z_nils, b_nil, b_arr, b_box1, b_box2, b_box3, b_box4, List.map_cons, List.map_nil, Bool.and_self, Bool.and_true, Bool.true_and, Bool.not_true, Bool.not_false, Bool.or_false, Bool.false_or, cond_true, cond_false, okPack, okPut, okPutBlks, okPutCells, q_isP, q_isAg, q_isBox, q_isArr, q_int, q_bool, q_str, q_sl, q_nils, e_exit, e_ret, e_nrm, e_ret_exit, e_exit_ret, e_nrm_exit, e_nrm_ret, e_exit_nrm, e_ret_nrm, Nat.zero_add, Nat.reduceAdd, noslR, noslP, noslB, noslA, List.all_cons, List.all_nil]
    by_cases hz : S = 0
    · have e1 : (S == 0) = true := by simp [hz]
      have e2 : (x0 + x1 + x2 + x3 == 0) = true := by
        have := c0 (by omega)
        have := c1 (by omega)
        have := c2 (by omega)
        have := c3 (by omega)
        simp; omega
      simp only [e1, e2, bnd_some, ctl_true, ctl_false, ctl_and, ctl_or', ctl_or2, x_toPV, x_toCs, x_toCs2, x_toEs, x_bEs, x_bCs, x_aPV, x_aCs, x_int, x_bool, x_str, x_es, x_esn, nth_0, nth_1, nth_2, nth_3, nth_4, nth_5, nth_6, nth_7, nth_8, nth_9, y_nil, y_int, y_bool, y_str, y_sl, y_nils, y_agg, y_ownp, y_own, z_nil, z_int, z_bool, z_str, z_sl, z_nils, b_nil, b_arr, b_box1, b_box2, b_box3, b_box4, List.map_cons, List.map_nil, Bool.and_self, Bool.and_true, Bool.true_and, Bool.not_true, Bool.not_false, Bool.or_false, Bool.false_or, cond_true, cond_false, okPack, okPut, okPutBlks, okPutCells, q_isP, q_isAg, q_isBox, q_isArr, q_int, q_bool, q_str, q_sl, q_nils, e_exit, e_ret, e_nrm, e_ret_exit, e_exit_ret, e_nrm_exit, e_nrm_ret, e_exit_nrm, e_ret_nrm, Nat.zero_add, Nat.reduceAdd, noslR, noslP, noslB, noslA, List.all_cons, List.all_nil]
      rw [c_sane40]
      rfl
    · obtain ⟨g1, g2⟩ := hsum (by omega)
      have e1 : (S == 0) = false := by simp [hz]
      have e2 : ltB 0 S = true := by simp [ltB]; omega
      have e3 : leB 98 (x0 + x1 + x2 + x3) = true := by simp [leB]; omega
      have e4 : leB (x0 + x1 + x2 + x3) 102 = true := by simp [leB]; omega
      simp only [e1, e2, e3, e4, bnd_some, ctl_true, ctl_false, ctl_and, ctl_or', ctl_or2, x_toPV, x_toCs, x_toCs2, x_toEs, x_bEs, x_bCs, x_aPV, x_aCs, x_int, x_bool, x_str, x_es, x_esn, nth_0, nth_1, nth_2, nth_3, nth_4, nth_5, nth_6, nth_7, nth_8, nth_9, y_nil, y_int, y_bool, y_str, y_sl, y_nils, y_agg, y_ownp, y_own, z_nil, z_int, z_bool, z_str, z_sl, z_nils, b_nil, b_arr, b_box1, b_box2, b_box3, b_box4, List.map_cons, List.map_nil, Bool.and_self, Bool.and_true, Bool.true_and, Bool.not_true, Bool.not_false, Bool.or_false, Bool.false_or, cond_true, cond_false, okPack, okPut, okPutBlks, okPutCells, q_isP, q_isAg, q_isBox, q_isArr, q_int, q_bool, q_str, q_sl, q_nils, e_exit, e_ret, e_nrm, e_ret_exit, e_exit_ret, e_nrm_exit, e_nrm_ret, e_exit_nrm, e_ret_nrm, Nat.zero_add, Nat.reduceAdd, noslR, noslP, noslB, noslA, List.all_cons, List.all_nil]
      rw [c_sane40]
      rfl

end Go.Proofs.YtgdeaamklodkkaaDoor.Vm
