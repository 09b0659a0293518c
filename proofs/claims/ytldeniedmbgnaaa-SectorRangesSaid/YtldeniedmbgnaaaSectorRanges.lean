/- The law SectorRanges comes to true. -/
import Derived.Test.YtldeniedmbgnaaaSectorS
import Derived.Test.YtldeniedmbgnaaaRawRanges
namespace Go.Proofs.Ytldeniedmbgnaaa.Vm
set_option linter.unusedVariables false
set_option linter.unusedSimpArgs false

theorem rg_in {t : Thr} (hv : okT t = true) (hm : t.fb.length ≤ maxLen) (L : List Int) (kk : Nat) (y : Int) {a b : Int} (hb : b ≤ 5000) (hr : ∀ n, a ≤ n → n ≤ b → alw t n y = true) (lo hi c : Int) : ∀ (j : Nat) (x : Int), x + j = b + 1 → a ≤ x →
    lp E (denC E) 5 0 [] 2 { vals := [AV.int .i64 lo, AV.int .i64 hi, AV.int .i64 c, AV.int .i64 y, AV.int .i64 b, AV.int .i64 x], blks := [src L kk, thB t] } =
      some (Ex.exit 2, { vals := [AV.int .i64 lo, AV.int .i64 hi, AV.int .i64 c], blks := [src L kk, thB t] })
  | 0, x, h, ha => by
    rw [r5_2]
    have e : leB x b = false := by simp only [decide_eq_false_iff_not]; omega
    rw [e, ctl_false]
  | j + 1, x, h, ha => by
    have ih := rg_in hv hm L kk y hb hr lo hi c j (x + 1) (by omega) (by omega)
    have hx := hr x ha (by omega)
    have hA := c_Allowed hm x y
    have h0 := alw0_iff.1 (alw_iff.1 hx).1
    have hv' := okT0_iff.1 (okT_iff.1 hv).1
    have s1 := sq_le (a := x) (m := t.mx) (by omega)
    have s2 := sq_le (a := y) (m := t.mx) (by omega)
    have s3 := sq_le (a := t.mx) (m := 5000) (by omega)
    rw [hv, hx] at hA
    unfold thC at hA
    rw [r5_2]
    have e : leB x b = true := by simp only [decide_eq_true_eq]; omega
    rw [e, ctl_true, hA]
    simp only [bnd_some, ctl_true, ctl_false, ctl_and, ctl_or', ctl_or2, x_toPV, x_toCs, x_toCs2, x_toEs, x_bEs, x_bCs, x_aPV, x_aCs, x_int, x_bool, x_str, x_es, x_esn, nth_0, nth_1, nth_2, nth_3, nth_4, nth_5, nth_6, nth_7, nth_8, nth_9, y_nil, y_int, y_bool, y_str, y_sl, y_nils, y_agg, y_ownp, y_own, z_nil, z_int, z_bool, z_str, z_sl, z_nils, b_nil, b_arr, b_box1, b_box2, b_box3, b_box4, List.map_cons, List.map_nil, Bool.and_self, Bool.and_true, Bool.true_and, Bool.not_true, Bool.not_false, Bool.or_false, Bool.false_or, cond_true, cond_false, okPack, okPut, okPutBlks, okPutCells, q_isP, q_isAg, q_isBox, q_isArr, q_int, q_bool, q_str, q_sl, q_nils, e_exit, e_ret, e_nrm, e_ret_exit, e_exit_ret, e_nrm_exit, e_nrm_ret, e_exit_nrm, e_ret_nrm, Nat.zero_add, Nat.reduceAdd, noslR, noslP, noslB, noslA, List.all_cons, List.all_nil]
    rw [w64 (n := t.mx * t.mx) (by omega), w64 (n := x * x) (by omega), w64 (n := y * y) (by omega), w64 (n := x * x + y * y) (by omega), w64 (n := x + 1) (by omega)]
    have e2 : ltB (t.mx * t.mx) (x * x + y * y) = false := by simp only [decide_eq_false_iff_not]; omega
    rw [e2, ctl_false]
    exact ih

theorem rg_out {t : Thr} (hv : okT t = true) (hm : t.fb.length ≤ maxLen) {L : List Int} (hL : L.length ≤ 600) {lo hi : Int} (hl : IsLat t lo hi) (hlo : -5000 ≤ lo ∧ lo ≤ 0 ∧ 0 ≤ hi ∧ hi ≤ 5000) : ∀ (j : Nat) (c : Int) (kk : Nat), c + j = 4 → 0 ≤ c → kk ≤ 600 →
    lp E (denC E) 5 0 [] 0 { vals := [AV.int .i64 lo, AV.int .i64 hi, AV.int .i64 c], blks := [src L kk, thB t] } = some (Ex.exit 0, { vals := [], blks := [] })
  | 0, c, kk, h, hc, hk => by
    rw [r5_0]
    have e : ltB c 4 = false := by simp only [decide_eq_false_iff_not]; omega
    rw [e, ctl_false]
  | j + 1, c, kk, h, hc, hk => by
    have ih := rg_out hv hm hL hl hlo j (c + 1) (at' L kk) (by omega) (by omega) (at'_le hL hk)
    rw [r5_0]
    have e : ltB c 4 = true := by simp only [decide_eq_true_eq]; omega
    rw [e, ctl_true, c_Range hL hk (by omega)]
    have by_ := vRange_bounds (L := L) (k := kk) (lo := lo) (hi := hi) (by omega)
    generalize vRange L kk lo hi = y at *
    simp only [bnd_some, ctl_true, ctl_false, ctl_and, ctl_or', ctl_or2, x_toPV, x_toCs, x_toCs2, x_toEs, x_bEs, x_bCs, x_aPV, x_aCs, x_int, x_bool, x_str, x_es, x_esn, nth_0, nth_1, nth_2, nth_3, nth_4, nth_5, nth_6, nth_7, nth_8, nth_9, y_nil, y_int, y_bool, y_str, y_sl, y_nils, y_agg, y_ownp, y_own, z_nil, z_int, z_bool, z_str, z_sl, z_nils, b_nil, b_arr, b_box1, b_box2, b_box3, b_box4, List.map_cons, List.map_nil, Bool.and_self, Bool.and_true, Bool.true_and, Bool.not_true, Bool.not_false, Bool.or_false, Bool.false_or, cond_true, cond_false, okPack, okPut, okPutBlks, okPutCells, q_isP, q_isAg, q_isBox, q_isArr, q_int, q_bool, q_str, q_sl, q_nils, e_exit, e_ret, e_nrm, e_ret_exit, e_exit_ret, e_nrm_exit, e_nrm_ret, e_exit_nrm, e_ret_nrm, Nat.zero_add, Nat.reduceAdd, noslR, noslP, noslB, noslA, List.all_cons, List.all_nil]
    obtain ⟨a, b, h1, h2, h3, h4, h5, h6⟩ := c_Longitudinal hm y
    unfold IsLat at hl
    rw [if_pos hv] at hl
    have hy := hl.2.2.1 y by_.1 by_.2
    unfold IsLon at h2
    rw [if_pos ⟨hv, hy⟩] at h2
    obtain ⟨g1, g2, g3, g4, g5⟩ := h2
    have g4 : alw t (a - 1) y = false := g4
    have g5 : alw t (b + 1) y = false := g5
    have hA0 := c_Allowed hm (a - 1) y
    have hA1 := c_Allowed hm (b + 1) y
    rw [g4, Bool.and_false] at hA0
    rw [g5, Bool.and_false] at hA1
    unfold thC at h1 hA0 hA1
    rw [h1]
    simp only [bnd_some, ctl_true, ctl_false, ctl_and, ctl_or', ctl_or2, x_toPV, x_toCs, x_toCs2, x_toEs, x_bEs, x_bCs, x_aPV, x_aCs, x_int, x_bool, x_str, x_es, x_esn, nth_0, nth_1, nth_2, nth_3, nth_4, nth_5, nth_6, nth_7, nth_8, nth_9, y_nil, y_int, y_bool, y_str, y_sl, y_nils, y_agg, y_ownp, y_own, z_nil, z_int, z_bool, z_str, z_sl, z_nils, b_nil, b_arr, b_box1, b_box2, b_box3, b_box4, List.map_cons, List.map_nil, Bool.and_self, Bool.and_true, Bool.true_and, Bool.not_true, Bool.not_false, Bool.or_false, Bool.false_or, cond_true, cond_false, okPack, okPut, okPutBlks, okPutCells, q_isP, q_isAg, q_isBox, q_isArr, q_int, q_bool, q_str, q_sl, q_nils, e_exit, e_ret, e_nrm, e_ret_exit, e_exit_ret, e_nrm_exit, e_nrm_ret, e_exit_nrm, e_ret_nrm, Nat.zero_add, Nat.reduceAdd, noslR, noslP, noslB, noslA, List.all_cons, List.all_nil]
    rw [w64 (n := a - 1) (by omega), w64 (n := b + 1) (by omega), w64 (n := b - a) (by omega), hA0, hA1]
    have e1 : (ltB 0 a || ltB b 0) = false := by simp only [Bool.or_eq_false_iff, decide_eq_false_iff_not]; omega
    have e2 : ltB 10001 (b - a) = false := by simp only [decide_eq_false_iff_not]; omega
    simp only [bnd_some, ctl_true, ctl_false, ctl_and, ctl_or', ctl_or2, x_toPV, x_toCs, x_toCs2, x_toEs, x_bEs, x_bCs, x_aPV, x_aCs, x_int, x_bool, x_str, x_es, x_esn, nth_0, nth_1, nth_2, nth_3, nth_4, nth_5, nth_6, nth_7, nth_8, nth_9, y_nil, y_int, y_bool, y_str, y_sl, y_nils, y_agg, y_ownp, y_own, z_nil, z_int, z_bool, z_str, z_sl, z_nils, b_nil, b_arr, b_box1, b_box2, b_box3, b_box4, List.map_cons, List.map_nil, Bool.and_self, Bool.and_true, Bool.true_and, Bool.not_true, Bool.not_false, Bool.or_false, Bool.false_or, cond_true, cond_false, okPack, okPut, okPutBlks, okPutCells, q_isP, q_isAg, q_isBox, q_isArr, q_int, q_bool, q_str, q_sl, q_nils, e_exit, e_ret, e_nrm, e_ret_exit, e_exit_ret, e_nrm_exit, e_nrm_ret, e_exit_nrm, e_ret_nrm, Nat.zero_add, Nat.reduceAdd, noslR, noslP, noslB, noslA, List.all_cons, List.all_nil, e1, e2]
    have hin := rg_in hv hm L (at' L kk) y h6 g3 lo hi c (b + 1 - a).toNat a (by omega) (by omega)
    rw [hin]
    simp only [bnd_some, ctl_true, ctl_false, ctl_and, ctl_or', ctl_or2, x_toPV, x_toCs, x_toCs2, x_toEs, x_bEs, x_bCs, x_aPV, x_aCs, x_int, x_bool, x_str, x_es, x_esn, nth_0, nth_1, nth_2, nth_3, nth_4, nth_5, nth_6, nth_7, nth_8, nth_9, y_nil, y_int, y_bool, y_str, y_sl, y_nils, y_agg, y_ownp, y_own, z_nil, z_int, z_bool, z_str, z_sl, z_nils, b_nil, b_arr, b_box1, b_box2, b_box3, b_box4, List.map_cons, List.map_nil, Bool.and_self, Bool.and_true, Bool.true_and, Bool.not_true, Bool.not_false, Bool.or_false, Bool.false_or, cond_true, cond_false, okPack, okPut, okPutBlks, okPutCells, q_isP, q_isAg, q_isBox, q_isArr, q_int, q_bool, q_str, q_sl, q_nils, e_exit, e_ret, e_nrm, e_ret_exit, e_exit_ret, e_nrm_exit, e_nrm_ret, e_exit_nrm, e_ret_nrm, Nat.zero_add, Nat.reduceAdd, noslR, noslP, noslB, noslA, List.all_cons, List.all_nil, b_box6]
    rw [w64 (n := c + 1) (by omega)]
    exact ih

theorem d_SectorRanges (t : List Int) (_ : t.length ≤ maxLen) (_ : ∀ n ∈ t, -9223372036854775808 ≤ n ∧ n ≤ 9223372036854775807) :
    denC E 5 [AV.sl 1 (intsK .i64 t)] [] = some ([RV.p (PV.bool true)], []) := by
  rw [denC_eq, r5, c_New]
  have hL : (t.take 600).length ≤ 600 := by simp; omega
  generalize t.take 600 = L at hL
  have h0 : (0 : Nat) ≤ 600 := by omega
  simp only [bnd_some, ctl_true, ctl_false, ctl_and, ctl_or', ctl_or2, x_toPV, x_toCs, x_toCs2, x_toEs, x_bEs, x_bCs, x_aPV, x_aCs, x_int, x_bool, x_str, x_es, x_esn, nth_0, nth_1, nth_2, nth_3, nth_4, nth_5, nth_6, nth_7, nth_8, nth_9, y_nil, y_int, y_bool, y_str, y_sl, y_nils, y_agg, y_ownp, y_own, z_nil, z_int, z_bool, z_str, z_sl, z_nils, b_nil, b_arr, b_box1, b_box2, b_box3, b_box4, List.map_cons, List.map_nil, Bool.and_self, Bool.and_true, Bool.true_and, Bool.not_true, Bool.not_false, Bool.or_false, Bool.false_or, cond_true, cond_false, okPack, okPut, okPutBlks, okPutCells, q_isP, q_isAg, q_isBox, q_isArr, q_int, q_bool, q_str, q_sl, q_nils, e_exit, e_ret, e_nrm, e_ret_exit, e_exit_ret, e_nrm_exit, e_nrm_ret, e_exit_nrm, e_ret_nrm, Nat.zero_add, Nat.reduceAdd, noslR, noslP, noslB, noslA, List.all_cons, List.all_nil]
  obtain ⟨u, k, hT, hs, hk⟩ := c_Thruster hL h0
  have hv := SrcT_ok hs
  have hm : u.fb.length ≤ maxLen := Nat.le_trans hs.2.2.2.2.2.2.2.2.2.2.1 (by decide)
  obtain ⟨lo, hi, h1, h2, h3⟩ := c_Lateral hm
  have hout := rg_out hv hm hL h2 h3 4 0 k (by omega) (by omega) hk
  have h2' := h2
  unfold IsLat at h2'
  rw [if_pos hv] at h2'
  obtain ⟨g1, g2, g3, g4, g5⟩ := h2'
  simp only at g4 g5
  have hA0 := c_Allowed hm 0 (lo - 1)
  have hA1 := c_Allowed hm 0 (hi + 1)
  rw [g4, Bool.and_false] at hA0
  rw [g5, Bool.and_false] at hA1
  unfold thC at hT h1 hA0 hA1
  rw [src_zero, hT]
  simp only [bnd_some, ctl_true, ctl_false, ctl_and, ctl_or', ctl_or2, x_toPV, x_toCs, x_toCs2, x_toEs, x_bEs, x_bCs, x_aPV, x_aCs, x_int, x_bool, x_str, x_es, x_esn, nth_0, nth_1, nth_2, nth_3, nth_4, nth_5, nth_6, nth_7, nth_8, nth_9, y_nil, y_int, y_bool, y_str, y_sl, y_nils, y_agg, y_ownp, y_own, z_nil, z_int, z_bool, z_str, z_sl, z_nils, b_nil, b_arr, b_box1, b_box2, b_box3, b_box4, List.map_cons, List.map_nil, Bool.and_self, Bool.and_true, Bool.true_and, Bool.not_true, Bool.not_false, Bool.or_false, Bool.false_or, cond_true, cond_false, okPack, okPut, okPutBlks, okPutCells, q_isP, q_isAg, q_isBox, q_isArr, q_int, q_bool, q_str, q_sl, q_nils, e_exit, e_ret, e_nrm, e_ret_exit, e_exit_ret, e_nrm_exit, e_nrm_ret, e_exit_nrm, e_ret_nrm, Nat.zero_add, Nat.reduceAdd, noslR, noslP, noslB, noslA, List.all_cons, List.all_nil]
  rw [h1]
  simp only [bnd_some, ctl_true, ctl_false, ctl_and, ctl_or', ctl_or2, x_toPV, x_toCs, x_toCs2, x_toEs, x_bEs, x_bCs, x_aPV, x_aCs, x_int, x_bool, x_str, x_es, x_esn, nth_0, nth_1, nth_2, nth_3, nth_4, nth_5, nth_6, nth_7, nth_8, nth_9, y_nil, y_int, y_bool, y_str, y_sl, y_nils, y_agg, y_ownp, y_own, z_nil, z_int, z_bool, z_str, z_sl, z_nils, b_nil, b_arr, b_box1, b_box2, b_box3, b_box4, List.map_cons, List.map_nil, Bool.and_self, Bool.and_true, Bool.true_and, Bool.not_true, Bool.not_false, Bool.or_false, Bool.false_or, cond_true, cond_false, okPack, okPut, okPutBlks, okPutCells, q_isP, q_isAg, q_isBox, q_isArr, q_int, q_bool, q_str, q_sl, q_nils, e_exit, e_ret, e_nrm, e_ret_exit, e_exit_ret, e_nrm_exit, e_nrm_ret, e_exit_nrm, e_ret_nrm, Nat.zero_add, Nat.reduceAdd, noslR, noslP, noslB, noslA, List.all_cons, List.all_nil]
  rw [w64 (n := lo - 1) (by omega), w64 (n := hi + 1) (by omega), hA0, hA1]
  have e1 : (ltB 0 lo || ltB hi 0) = false := by simp only [Bool.or_eq_false_iff, decide_eq_false_iff_not]; omega
  simp only [bnd_some, ctl_true, ctl_false, ctl_and, ctl_or', ctl_or2, x_toPV, x_toCs, x_toCs2, x_toEs, x_bEs, x_bCs, x_aPV, x_aCs, x_int, x_bool, x_str, x_es, x_esn, nth_0, nth_1, nth_2, nth_3, nth_4, nth_5, nth_6, nth_7, nth_8, nth_9, y_nil, y_int, y_bool, y_str, y_sl, y_nils, y_agg, y_ownp, y_own, z_nil, z_int, z_bool, z_str, z_sl, z_nils, b_nil, b_arr, b_box1, b_box2, b_box3, b_box4, List.map_cons, List.map_nil, Bool.and_self, Bool.and_true, Bool.true_and, Bool.not_true, Bool.not_false, Bool.or_false, Bool.false_or, cond_true, cond_false, okPack, okPut, okPutBlks, okPutCells, q_isP, q_isAg, q_isBox, q_isArr, q_int, q_bool, q_str, q_sl, q_nils, e_exit, e_ret, e_nrm, e_ret_exit, e_exit_ret, e_nrm_exit, e_nrm_ret, e_exit_nrm, e_ret_nrm, Nat.zero_add, Nat.reduceAdd, noslR, noslP, noslB, noslA, List.all_cons, List.all_nil, e1]
  rw [hout]
  simp only [bnd_some, ctl_true, ctl_false, ctl_and, ctl_or', ctl_or2, x_toPV, x_toCs, x_toCs2, x_toEs, x_bEs, x_bCs, x_aPV, x_aCs, x_int, x_bool, x_str, x_es, x_esn, nth_0, nth_1, nth_2, nth_3, nth_4, nth_5, nth_6, nth_7, nth_8, nth_9, y_nil, y_int, y_bool, y_str, y_sl, y_nils, y_agg, y_ownp, y_own, z_nil, z_int, z_bool, z_str, z_sl, z_nils, b_nil, b_arr, b_box1, b_box2, b_box3, b_box4, List.map_cons, List.map_nil, Bool.and_self, Bool.and_true, Bool.true_and, Bool.not_true, Bool.not_false, Bool.or_false, Bool.false_or, cond_true, cond_false, okPack, okPut, okPutBlks, okPutCells, q_isP, q_isAg, q_isBox, q_isArr, q_int, q_bool, q_str, q_sl, q_nils, e_exit, e_ret, e_nrm, e_ret_exit, e_exit_ret, e_nrm_exit, e_nrm_ret, e_exit_nrm, e_ret_nrm, Nat.zero_add, Nat.reduceAdd, noslR, noslP, noslB, noslA, List.all_cons, List.all_nil, c_sane]

end Go.Proofs.Ytldeniedmbgnaaa.Vm
