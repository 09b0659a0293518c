/- Contracts of the functions that say what a force costs and what power permits. -/
import Derived.Test.YtphcfpphnmpcbaaSectorS
namespace Go.Proofs.Ytphcfpphnmpcbaa.Vm
set_option linter.unusedVariables false
set_option linter.unusedSimpArgs false

def smallT (x y : Int) : Bool := decide (-5000 ≤ x ∧ x ≤ 5000 ∧ -5000 ≤ y ∧ y ≤ 5000)
theorem smallT_iff {x y : Int} : smallT x y = true ↔ -5000 ≤ x ∧ x ≤ 5000 ∧ -5000 ≤ y ∧ y ≤ 5000 := by unfold smallT; simp

theorem c_tsmall (x y : Int) : denC E 24 [AV.agg [PV.int .i64 x, PV.int .i64 y]] [] = some ([RV.p (PV.bool (smallT x y))], []) := by
  rw [denC_eq, r24]
  simp only [bnd_some, ctl_true, ctl_false, ctl_and, ctl_or', ctl_or2, x_toPV, x_toCs, x_toCs2, x_toEs, x_bEs, x_bCs, x_aPV, x_aCs, x_int, x_bool, x_str, x_es, x_esn, nth_0, nth_1, nth_2, nth_3, nth_4, nth_5, nth_6, nth_7, nth_8, nth_9, y_nil, y_int, y_bool, y_str, y_sl, y_nils, y_agg, y_ownp, y_own, z_nil, z_int, z_bool, z_str, z_sl, z_nils, b_nil, b_arr, b_box1, b_box2, b_box3, b_box4, List.map_cons, List.map_nil, Bool.and_self, Bool.and_true, Bool.true_and, Bool.not_true, Bool.not_false, Bool.or_false, Bool.false_or, cond_true, cond_false, okPack, okPut, okPutBlks, okPutCells, q_isP, q_isAg, q_isBox, q_isArr, q_int, q_bool, q_str, q_sl, q_nils, e_exit, e_ret, e_nrm, e_ret_exit, e_exit_ret, e_nrm_exit, e_nrm_ret, e_exit_nrm, e_ret_nrm, Nat.zero_add, Nat.reduceAdd, noslR, noslP, noslB, noslA, List.all_cons, List.all_nil]
  have : (leB (maxI y x) 5000 && leB (-5000) (minI y x)) = smallT x y := by
    rw [Bool.eq_iff_iff, smallT_iff]
    unfold maxI minI
    simp only [Bool.and_eq_true, decide_eq_true_eq]
    split <;> split <;> omega
  rw [this]

/-! ### Rounded up -/
def up (n d : Int) : Int := -((-n) / d)
theorem up_le {n d p : Int} (hd : 0 < d) : up n d ≤ p ↔ n ≤ p * d := by
  unfold up
  have h := Int.le_ediv_iff_mul_le (a := -p) (b := -n) hd
  rw [Int.neg_mul] at h
  omega
theorem up_mono {n m d : Int} (hd : 0 < d) (h : n ≤ m) : up n d ≤ up m d := (up_le hd).2 (Int.le_trans h ((up_le hd).1 (Int.le_refl _)))
theorem up_nonneg {n d : Int} (hd : 0 < d) (h : 0 ≤ n) : 0 ≤ up n d := by
  unfold up
  have : (-n) / d ≤ 0 := by
    rcases Int.lt_or_le 0 ((-n) / d) with h1 | h1
    · have h2 : (1 : Int) ≤ (-n) / d := h1
      rw [Int.le_ediv_iff_mul_le hd] at h2
      omega
    · exact h1
  omega

theorem c_Up1 {n d : Int} (hd : 1 ≤ d ∧ d ≤ 1000000000) (hn : -1000000000000000000 ≤ n ∧ n ≤ 1000000000000000000) :
    denC E 32 [AV.int .i64 n, AV.int .i64 d] [] = some ([RV.p (PV.int .i64 (up n d))], []) := by
  have hb : -1000000000000000001 ≤ (-n) / d ∧ (-n) / d ≤ 1000000000000000000 := by
    constructor
    · rw [Int.le_ediv_iff_mul_le (by omega)]
      have : (1000000000000000001 : Int) * 1 ≤ 1000000000000000001 * d := Int.mul_le_mul_of_nonneg_left hd.1 (by omega)
      omega
    · rcases Int.lt_or_le 0 (-n) with h | h
      · exact Int.le_trans (Int.ediv_le_self _ (by omega)) (by omega)
      · rcases Int.lt_or_le 0 ((-n) / d) with h1 | h1
        · have h2 : (1 : Int) ≤ (-n) / d := h1
          rw [Int.le_ediv_iff_mul_le (by omega)] at h2
          omega
        · omega
  rw [denC_eq, r32]
  have e : 0 - n = -n := by omega
  rw [w64 (n := 0 - n) (by omega), e, c_floor (by omega) (by omega)]
  simp only [bnd_some, ctl_true, ctl_false, ctl_and, ctl_or', ctl_or2, x_toPV, x_toCs, x_toCs2, x_toEs, x_bEs, x_bCs, x_aPV, x_aCs, x_int, x_bool, x_str, x_es, x_esn, nth_0, nth_1, nth_2, nth_3, nth_4, nth_5, nth_6, nth_7, nth_8, nth_9, y_nil, y_int, y_bool, y_str, y_sl, y_nils, y_agg, y_ownp, y_own, z_nil, z_int, z_bool, z_str, z_sl, z_nils, b_nil, b_arr, b_box1, b_box2, b_box3, b_box4, List.map_cons, List.map_nil, Bool.and_self, Bool.and_true, Bool.true_and, Bool.not_true, Bool.not_false, Bool.or_false, Bool.false_or, cond_true, cond_false, okPack, okPut, okPutBlks, okPutCells, q_isP, q_isAg, q_isBox, q_isArr, q_int, q_bool, q_str, q_sl, q_nils, e_exit, e_ret, e_nrm, e_ret_exit, e_exit_ret, e_nrm_exit, e_nrm_ret, e_exit_nrm, e_ret_nrm, Nat.zero_add, Nat.reduceAdd, noslR, noslP, noslB, noslA, List.all_cons, List.all_nil]
  rw [w64 (by omega)]
  unfold up
  congr 5
  omega

theorem c_Up {n d : Int} (hd : 1 ≤ d ∧ d ≤ 1000000000) (hn : -1000000000000000000 ≤ n ∧ n ≤ 1000000000000000000) :
    denC E 25 [AV.int .i64 n, AV.int .i64 d] [] = some ([RV.p (PV.int .i64 (up n d)), RV.p (PV.int .i64 0)], []) := by
  have hdiv : denC E 31 [AV.int .i64 n, AV.int .i64 d, AV.fn 32 []] [] = some ([RV.p (PV.int .i64 (up n d)), RV.p (PV.int .i64 0)], []) := by
    rw [denC_eq, r31a, c_Up1 hd hn]
    have h1 : ltB n (-1000000000000000000) = false := by simp; omega
    have h2 : ltB 1000000000000000000 n = false := by simp; omega
    have h3 : ltB d 1 = false := by simp; omega
    have h4 : ltB 1000000000 d = false := by simp; omega
    simp only [h1, h2, h3, h4, bnd_some, ctl_true, ctl_false, ctl_and, ctl_or', ctl_or2, x_toPV, x_toCs, x_toCs2, x_toEs, x_bEs, x_bCs, x_aPV, x_aCs, x_int, x_bool, x_str, x_es, x_esn, nth_0, nth_1, nth_2, nth_3, nth_4, nth_5, nth_6, nth_7, nth_8, nth_9, y_nil, y_int, y_bool, y_str, y_sl, y_nils, y_agg, y_ownp, y_own, z_nil, z_int, z_bool, z_str, z_sl, z_nils, b_nil, b_arr, b_box1, b_box2, b_box3, b_box4, List.map_cons, List.map_nil, Bool.and_self, Bool.and_true, Bool.true_and, Bool.not_true, Bool.not_false, Bool.or_false, Bool.false_or, cond_true, cond_false, okPack, okPut, okPutBlks, okPutCells, q_isP, q_isAg, q_isBox, q_isArr, q_int, q_bool, q_str, q_sl, q_nils, e_exit, e_ret, e_nrm, e_ret_exit, e_exit_ret, e_nrm_exit, e_nrm_ret, e_exit_nrm, e_ret_nrm, Nat.zero_add, Nat.reduceAdd, noslR, noslP, noslB, noslA, List.all_cons, List.all_nil]
  rw [denC_eq, r25, hdiv]
  simp only [bnd_some, ctl_true, ctl_false, ctl_and, ctl_or', ctl_or2, x_toPV, x_toCs, x_toCs2, x_toEs, x_bEs, x_bCs, x_aPV, x_aCs, x_int, x_bool, x_str, x_es, x_esn, nth_0, nth_1, nth_2, nth_3, nth_4, nth_5, nth_6, nth_7, nth_8, nth_9, y_nil, y_int, y_bool, y_str, y_sl, y_nils, y_agg, y_ownp, y_own, z_nil, z_int, z_bool, z_str, z_sl, z_nils, b_nil, b_arr, b_box1, b_box2, b_box3, b_box4, List.map_cons, List.map_nil, Bool.and_self, Bool.and_true, Bool.true_and, Bool.not_true, Bool.not_false, Bool.or_false, Bool.false_or, cond_true, cond_false, okPack, okPut, okPutBlks, okPutCells, q_isP, q_isAg, q_isBox, q_isArr, q_int, q_bool, q_str, q_sl, q_nils, e_exit, e_ret, e_nrm, e_ret_exit, e_exit_ret, e_nrm_exit, e_nrm_ret, e_exit_nrm, e_ret_nrm, Nat.zero_add, Nat.reduceAdd, noslR, noslP, noslB, noslA, List.all_cons, List.all_nil]

/-! ### Power -/
def pw (t : Thr) (x y : Int) : Int := (x * x + y * y) * t.ct
def powV (t : Thr) (x y : Int) : Int := if okT t = true ∧ smallT x y = true then up (pw t x y) 1000 else 0
def powE (t : Thr) (x y : Int) : Int := if okT t = true ∧ smallT x y = true then 0 else 1

theorem pw_bounds {t : Thr} {x y : Int} (h : 1 ≤ t.ct ∧ t.ct ≤ 100) (hs : smallT x y = true) : 0 ≤ x * x + y * y ∧ x * x + y * y ≤ 50000000 ∧ 0 ≤ pw t x y ∧ pw t x y ≤ 5000000000 := by
  have hs := smallT_iff.1 hs
  have s1 := sq_le (a := x) (m := 5000) (by omega)
  have s2 := sq_le (a := y) (m := 5000) (by omega)
  have h1 : 0 ≤ (x * x + y * y) * t.ct := Int.mul_nonneg (by omega) (by omega)
  have h2 : (x * x + y * y) * t.ct ≤ 50000000 * t.ct := Int.mul_le_mul_of_nonneg_right (by omega) (by omega)
  unfold pw
  omega

theorem c_Power {t : Thr} (hm : t.fb.length ≤ maxLen) (x y : Int) : denC E 14 [AV.agg (thC t), AV.agg [PV.int .i64 x, PV.int .i64 y]] [] = some ([RV.p (PV.int .i64 (powV t x y)), RV.p (PV.int .i64 (powE t x y))], []) := by
  have hV := c_TValid hm
  unfold thC at hV ⊢
  rw [denC_eq, r14, hV, c_tsmall]
  simp only [bnd_some, ctl_true, ctl_false, ctl_and, ctl_or', ctl_or2, x_toPV, x_toCs, x_toCs2, x_toEs, x_bEs, x_bCs, x_aPV, x_aCs, x_int, x_bool, x_str, x_es, x_esn, nth_0, nth_1, nth_2, nth_3, nth_4, nth_5, nth_6, nth_7, nth_8, nth_9, y_nil, y_int, y_bool, y_str, y_sl, y_nils, y_agg, y_ownp, y_own, z_nil, z_int, z_bool, z_str, z_sl, z_nils, b_nil, b_arr, b_box1, b_box2, b_box3, b_box4, List.map_cons, List.map_nil, Bool.and_self, Bool.and_true, Bool.true_and, Bool.not_true, Bool.not_false, Bool.or_false, Bool.false_or, cond_true, cond_false, okPack, okPut, okPutBlks, okPutCells, q_isP, q_isAg, q_isBox, q_isArr, q_int, q_bool, q_str, q_sl, q_nils, e_exit, e_ret, e_nrm, e_ret_exit, e_exit_ret, e_nrm_exit, e_nrm_ret, e_exit_nrm, e_ret_nrm, Nat.zero_add, Nat.reduceAdd, noslR, noslP, noslB, noslA, List.all_cons, List.all_nil]
  unfold powV powE
  cases hv : okT t with
  | false => simp only [bnd_some, ctl_true, ctl_false, ctl_and, ctl_or', ctl_or2, x_toPV, x_toCs, x_toCs2, x_toEs, x_bEs, x_bCs, x_aPV, x_aCs, x_int, x_bool, x_str, x_es, x_esn, nth_0, nth_1, nth_2, nth_3, nth_4, nth_5, nth_6, nth_7, nth_8, nth_9, y_nil, y_int, y_bool, y_str, y_sl, y_nils, y_agg, y_ownp, y_own, z_nil, z_int, z_bool, z_str, z_sl, z_nils, b_nil, b_arr, b_box1, b_box2, b_box3, b_box4, List.map_cons, List.map_nil, Bool.and_self, Bool.and_true, Bool.true_and, Bool.not_true, Bool.not_false, Bool.or_false, Bool.false_or, cond_true, cond_false, okPack, okPut, okPutBlks, okPutCells, q_isP, q_isAg, q_isBox, q_isArr, q_int, q_bool, q_str, q_sl, q_nils, e_exit, e_ret, e_nrm, e_ret_exit, e_exit_ret, e_nrm_exit, e_nrm_ret, e_exit_nrm, e_ret_nrm, Nat.zero_add, Nat.reduceAdd, noslR, noslP, noslB, noslA, List.all_cons, List.all_nil, Bool.true_or, Bool.false_eq_true, false_and, if_false]
  | true =>
    cases hs : smallT x y with
    | false => simp only [bnd_some, ctl_true, ctl_false, ctl_and, ctl_or', ctl_or2, x_toPV, x_toCs, x_toCs2, x_toEs, x_bEs, x_bCs, x_aPV, x_aCs, x_int, x_bool, x_str, x_es, x_esn, nth_0, nth_1, nth_2, nth_3, nth_4, nth_5, nth_6, nth_7, nth_8, nth_9, y_nil, y_int, y_bool, y_str, y_sl, y_nils, y_agg, y_ownp, y_own, z_nil, z_int, z_bool, z_str, z_sl, z_nils, b_nil, b_arr, b_box1, b_box2, b_box3, b_box4, List.map_cons, List.map_nil, Bool.and_self, Bool.and_true, Bool.true_and, Bool.not_true, Bool.not_false, Bool.or_false, Bool.false_or, cond_true, cond_false, okPack, okPut, okPutBlks, okPutCells, q_isP, q_isAg, q_isBox, q_isArr, q_int, q_bool, q_str, q_sl, q_nils, e_exit, e_ret, e_nrm, e_ret_exit, e_exit_ret, e_nrm_exit, e_nrm_ret, e_exit_nrm, e_ret_nrm, Nat.zero_add, Nat.reduceAdd, noslR, noslP, noslB, noslA, List.all_cons, List.all_nil, Bool.or_true, Bool.false_eq_true, and_false, if_false]
    | true =>
      have hv' := okT0_iff.1 (okT_iff.1 hv).1
      have hp := pw_bounds (t := t) (by omega) hs
      have hs' := smallT_iff.1 hs
      have s1 := sq_le (a := x) (m := 5000) (by omega)
      have s2 := sq_le (a := y) (m := 5000) (by omega)
      have hpw : (x * x + y * y) * t.ct = pw t x y := rfl
      rw [w64 (n := x * x) (by omega), w64 (n := y * y) (by omega), w64 (n := x * x + y * y) (by omega), hpw, w64 (n := pw t x y) (by omega), c_Up (by omega) (by omega)]
      simp only [bnd_some, ctl_true, ctl_false, ctl_and, ctl_or', ctl_or2, x_toPV, x_toCs, x_toCs2, x_toEs, x_bEs, x_bCs, x_aPV, x_aCs, x_int, x_bool, x_str, x_es, x_esn, nth_0, nth_1, nth_2, nth_3, nth_4, nth_5, nth_6, nth_7, nth_8, nth_9, y_nil, y_int, y_bool, y_str, y_sl, y_nils, y_agg, y_ownp, y_own, z_nil, z_int, z_bool, z_str, z_sl, z_nils, b_nil, b_arr, b_box1, b_box2, b_box3, b_box4, List.map_cons, List.map_nil, Bool.and_self, Bool.and_true, Bool.true_and, Bool.not_true, Bool.not_false, Bool.or_false, Bool.false_or, cond_true, cond_false, okPack, okPut, okPutBlks, okPutCells, q_isP, q_isAg, q_isBox, q_isArr, q_int, q_bool, q_str, q_sl, q_nils, e_exit, e_ret, e_nrm, e_ret_exit, e_exit_ret, e_nrm_exit, e_nrm_ret, e_exit_nrm, e_ret_nrm, Nat.zero_add, Nat.reduceAdd, noslR, noslP, noslB, noslA, List.all_cons, List.all_nil, and_self, if_true]

/-! ### Roots -/
theorem root_loop {n : Int} (hn : 0 ≤ n ∧ n ≤ 1000000000000000000) : ∀ (k : Nat) (lo hi : Int), (hi - lo).toNat ≤ k → 0 ≤ lo → lo ≤ hi → hi ≤ 1000000000 → lo * lo ≤ n → n < (hi + 1) * (hi + 1) →
    ∃ r : Int, lp E (denC E) 22 0 [] 0 { vals := [AV.int .i64 n, AV.int .i64 lo, AV.int .i64 hi], blks := [] } = some (Ex.exit 0, { vals := [AV.int .i64 r], blks := [] }) ∧ 0 ≤ r ∧ r ≤ 1000000000 ∧ r * r ≤ n ∧ n < (r + 1) * (r + 1) := by
  intro k
  induction k with
  | zero =>
    intro lo hi hk h0 h1 h2 h3 h4
    have : lo = hi := by omega
    subst this
    refine ⟨lo, ?_, h0, h2, h3, h4⟩
    rw [r22_0, ctl_dec, if_neg (by omega)]
  | succ k ih =>
    intro lo hi hk h0 h1 h2 h3 h4
    by_cases hlt : lo < hi
    · rw [r22_0, ctl_dec, if_pos hlt]
      have hmid : lo + 1 ≤ (lo + hi + 1) / 2 ∧ (lo + hi + 1) / 2 ≤ hi := by omega
      rw [w64 (n := lo + hi) (by omega), w64 (n := lo + hi + 1) (by omega), Int.tdiv_eq_ediv_of_nonneg (by omega), w64 (n := (lo + hi + 1) / 2) (by omega)]
      generalize (lo + hi + 1) / 2 = mid at *
      have sm := sq_le (a := mid) (m := 1000000000) (by omega)
      rw [w64 (n := mid * mid) (by omega), ctl_dec]
      by_cases hc : mid * mid ≤ n
      · rw [if_pos hc]
        exact ih mid hi (by omega) (by omega) (by omega) (by omega) hc h4
      · rw [if_neg hc, w64 (n := mid - 1) (by omega)]
        refine ih lo (mid - 1) (by omega) (by omega) (by omega) (by omega) h3 ?_
        have e : mid - 1 + 1 = mid := by omega
        rw [e]
        omega
    · have : lo = hi := by omega
      subst this
      refine ⟨lo, ?_, h0, h2, h3, h4⟩
      rw [r22_0, ctl_dec, if_neg (by omega)]

theorem c_Root {n : Int} (hn : 0 ≤ n ∧ n ≤ 1000000000000000000) : ∃ r : Int, denC E 22 [AV.int .i64 n] [] = some ([RV.p (PV.int .i64 r), RV.p (PV.int .i64 0)], []) ∧ 0 ≤ r ∧ r ≤ 1000000000 ∧ r * r ≤ n ∧ n < (r + 1) * (r + 1) := by
  obtain ⟨r, h1, h2⟩ := root_loop hn 1000000000 0 1000000000 (by omega) (by omega) (by omega) (by omega) (by omega) (by omega)
  refine ⟨r, ?_, h2⟩
  rw [denC_eq, r22]
  have e1 : ltB n 0 = false := by simp only [decide_eq_false_iff_not]; omega
  have e2 : ltB 1000000000000000000 n = false := by simp only [decide_eq_false_iff_not]; omega
  simp only [bnd_some, ctl_true, ctl_false, ctl_and, ctl_or', ctl_or2, x_toPV, x_toCs, x_toCs2, x_toEs, x_bEs, x_bCs, x_aPV, x_aCs, x_int, x_bool, x_str, x_es, x_esn, nth_0, nth_1, nth_2, nth_3, nth_4, nth_5, nth_6, nth_7, nth_8, nth_9, y_nil, y_int, y_bool, y_str, y_sl, y_nils, y_agg, y_ownp, y_own, z_nil, z_int, z_bool, z_str, z_sl, z_nils, b_nil, b_arr, b_box1, b_box2, b_box3, b_box4, List.map_cons, List.map_nil, Bool.and_self, Bool.and_true, Bool.true_and, Bool.not_true, Bool.not_false, Bool.or_false, Bool.false_or, cond_true, cond_false, okPack, okPut, okPutBlks, okPutCells, q_isP, q_isAg, q_isBox, q_isArr, q_int, q_bool, q_str, q_sl, q_nils, e_exit, e_ret, e_nrm, e_ret_exit, e_exit_ret, e_nrm_exit, e_nrm_ret, e_exit_nrm, e_ret_nrm, Nat.zero_add, Nat.reduceAdd, noslR, noslP, noslB, noslA, List.all_cons, List.all_nil, e1, e2]
  rw [h1]
  simp only [bnd_some, ctl_true, ctl_false, ctl_and, ctl_or', ctl_or2, x_toPV, x_toCs, x_toCs2, x_toEs, x_bEs, x_bCs, x_aPV, x_aCs, x_int, x_bool, x_str, x_es, x_esn, nth_0, nth_1, nth_2, nth_3, nth_4, nth_5, nth_6, nth_7, nth_8, nth_9, y_nil, y_int, y_bool, y_str, y_sl, y_nils, y_agg, y_ownp, y_own, z_nil, z_int, z_bool, z_str, z_sl, z_nils, b_nil, b_arr, b_box1, b_box2, b_box3, b_box4, List.map_cons, List.map_nil, Bool.and_self, Bool.and_true, Bool.true_and, Bool.not_true, Bool.not_false, Bool.or_false, Bool.false_or, cond_true, cond_false, okPack, okPut, okPutBlks, okPutCells, q_isP, q_isAg, q_isBox, q_isArr, q_int, q_bool, q_str, q_sl, q_nils, e_exit, e_ret, e_nrm, e_ret_exit, e_exit_ret, e_nrm_exit, e_nrm_ret, e_exit_nrm, e_ret_nrm, Nat.zero_add, Nat.reduceAdd, noslR, noslP, noslB, noslA, List.all_cons, List.all_nil]

/-! ### Most -/
def IsMost (t : Thr) (p m : Int) : Prop := 0 ≤ m ∧ m ≤ t.mx ∧ m * m * t.ct ≤ 1000 * p ∧ (m = t.mx ∨ 1000 * p < (m + 1) * (m + 1) * t.ct)

theorem IsMost_mono {t t' : Thr} {p p' m m' : Int} (hc : 1 ≤ t.ct) (h1 : t'.mx ≤ t.mx) (h2 : t.ct ≤ t'.ct) (h3 : p' ≤ p) (h : IsMost t p m) (h' : IsMost t' p' m') : m' ≤ m := by
  obtain ⟨a1, a2, a3, a4⟩ := h
  obtain ⟨b1, b2, b3, b4⟩ := h'
  rcases Int.lt_or_le m m' with hl | hl
  · rcases a4 with a4 | a4
    · omega
    · have e1 : (m + 1) * (m + 1) ≤ m' * m' := Int.mul_le_mul (by omega) (by omega) (by omega) (by omega)
      have e2 : (m + 1) * (m + 1) * t.ct ≤ m' * m' * t'.ct := Int.mul_le_mul e1 h2 (by omega) (Int.mul_nonneg b1 b1)
      omega
  · exact hl

theorem c_Most {t : Thr} (hm : t.fb.length ≤ maxLen) (hv : okT t = true) {p : Int} (hp : 0 ≤ p) : ∃ m : Int, denC E 11 [AV.agg (thC t), AV.int .i64 p] [] = some ([RV.p (PV.int .i64 m)], []) ∧ IsMost t p m := by
  have hP := c_Power hm t.mx 0
  have hv' := okT0_iff.1 (okT_iff.1 hv).1
  have hs : smallT t.mx 0 = true := smallT_iff.2 (by omega)
  have eV : powV t t.mx 0 = up (pw t t.mx 0) 1000 := by unfold powV; rw [if_pos ⟨hv, hs⟩]
  have eE : powE t t.mx 0 = 0 := by unfold powE; rw [if_pos ⟨hv, hs⟩]
  rw [eV, eE] at hP
  have hb := pw_bounds (t := t) (by omega) hs
  have epw : pw t t.mx 0 = t.mx * t.mx * t.ct := by unfold pw; rw [Int.mul_zero, Int.add_zero]
  have hle := up_le (n := pw t t.mx 0) (d := 1000) (p := p) (by omega)
  unfold thC at hP ⊢
  by_cases hc : up (pw t t.mx 0) 1000 ≤ p
  · have hc2 := hle.1 hc
    refine ⟨t.mx, ?_, by omega, by omega, by rw [← epw]; omega, Or.inl rfl⟩
    rw [denC_eq, r11, hP]
    have e1 : ltB p 0 = false := by simp only [decide_eq_false_iff_not]; omega
    have e2 : leB (up (pw t t.mx 0) 1000) p = true := by simpa using hc
    have e3 : ((0 : Int) != 0) = false := rfl
    simp only [bnd_some, ctl_true, ctl_false, ctl_and, ctl_or', ctl_or2, x_toPV, x_toCs, x_toCs2, x_toEs, x_bEs, x_bCs, x_aPV, x_aCs, x_int, x_bool, x_str, x_es, x_esn, nth_0, nth_1, nth_2, nth_3, nth_4, nth_5, nth_6, nth_7, nth_8, nth_9, y_nil, y_int, y_bool, y_str, y_sl, y_nils, y_agg, y_ownp, y_own, z_nil, z_int, z_bool, z_str, z_sl, z_nils, b_nil, b_arr, b_box1, b_box2, b_box3, b_box4, List.map_cons, List.map_nil, Bool.and_self, Bool.and_true, Bool.true_and, Bool.not_true, Bool.not_false, Bool.or_false, Bool.false_or, cond_true, cond_false, okPack, okPut, okPutBlks, okPutCells, q_isP, q_isAg, q_isBox, q_isArr, q_int, q_bool, q_str, q_sl, q_nils, e_exit, e_ret, e_nrm, e_ret_exit, e_exit_ret, e_nrm_exit, e_nrm_ret, e_exit_nrm, e_ret_nrm, Nat.zero_add, Nat.reduceAdd, noslR, noslP, noslB, noslA, List.all_cons, List.all_nil, e1, e2, e3]
  · have hc2 : ¬ pw t t.mx 0 ≤ p * 1000 := fun h => hc (hle.2 h)
    have hq : 0 ≤ 1000 * p / t.ct := Int.ediv_nonneg (by omega) (by omega)
    have hq2 : 1000 * p / t.ct ≤ 5000000000 := Int.le_trans (Int.ediv_le_self _ (by omega)) (by omega)
    obtain ⟨r, h1, h2, h3, h4, h5⟩ := c_Root (n := 1000 * p / t.ct) (by omega)
    have h6 := (Int.le_ediv_iff_mul_le (a := r * r) (b := 1000 * p) (c := t.ct) (by omega)).1 h4
    have h7 : 1000 * p < (r + 1) * (r + 1) * t.ct := Int.lt_mul_of_ediv_lt (by omega) h5
    refine ⟨r, ?_, h2, ?_, h6, Or.inr h7⟩
    · rw [denC_eq, r11, hP]
      have e1 : ltB p 0 = false := by simp only [decide_eq_false_iff_not]; omega
      have e2 : leB (up (pw t t.mx 0) 1000) p = false := by simpa using hc
      have e3 : ((0 : Int) != 0) = false := rfl
      have e4 : neB t.ct 0 = true := by simp; omega
      simp only [bnd_some, ctl_true, ctl_false, ctl_and, ctl_or', ctl_or2, x_toPV, x_toCs, x_toCs2, x_toEs, x_bEs, x_bCs, x_aPV, x_aCs, x_int, x_bool, x_str, x_es, x_esn, nth_0, nth_1, nth_2, nth_3, nth_4, nth_5, nth_6, nth_7, nth_8, nth_9, y_nil, y_int, y_bool, y_str, y_sl, y_nils, y_agg, y_ownp, y_own, z_nil, z_int, z_bool, z_str, z_sl, z_nils, b_nil, b_arr, b_box1, b_box2, b_box3, b_box4, List.map_cons, List.map_nil, Bool.and_self, Bool.and_true, Bool.true_and, Bool.not_true, Bool.not_false, Bool.or_false, Bool.false_or, cond_true, cond_false, okPack, okPut, okPutBlks, okPutCells, q_isP, q_isAg, q_isBox, q_isArr, q_int, q_bool, q_str, q_sl, q_nils, e_exit, e_ret, e_nrm, e_ret_exit, e_exit_ret, e_nrm_exit, e_nrm_ret, e_exit_nrm, e_ret_nrm, Nat.zero_add, Nat.reduceAdd, noslR, noslP, noslB, noslA, List.all_cons, List.all_nil, e1, e2, e3, e4]
      rw [w64 (n := 1000 * p) (by omega), Int.tdiv_eq_ediv_of_nonneg (by omega), w64 (n := 1000 * p / t.ct) (by omega), h1]
      simp only [bnd_some, ctl_true, ctl_false, ctl_and, ctl_or', ctl_or2, x_toPV, x_toCs, x_toCs2, x_toEs, x_bEs, x_bCs, x_aPV, x_aCs, x_int, x_bool, x_str, x_es, x_esn, nth_0, nth_1, nth_2, nth_3, nth_4, nth_5, nth_6, nth_7, nth_8, nth_9, y_nil, y_int, y_bool, y_str, y_sl, y_nils, y_agg, y_ownp, y_own, z_nil, z_int, z_bool, z_str, z_sl, z_nils, b_nil, b_arr, b_box1, b_box2, b_box3, b_box4, List.map_cons, List.map_nil, Bool.and_self, Bool.and_true, Bool.true_and, Bool.not_true, Bool.not_false, Bool.or_false, Bool.false_or, cond_true, cond_false, okPack, okPut, okPutBlks, okPutCells, q_isP, q_isAg, q_isBox, q_isArr, q_int, q_bool, q_str, q_sl, q_nils, e_exit, e_ret, e_nrm, e_ret_exit, e_exit_ret, e_nrm_exit, e_nrm_ret, e_exit_nrm, e_ret_nrm, Nat.zero_add, Nat.reduceAdd, noslR, noslP, noslB, noslA, List.all_cons, List.all_nil]
    · rcases Int.lt_or_le t.mx r with hl | hl
      · have g1 : t.mx * t.mx ≤ r * r := Int.mul_le_mul (by omega) (by omega) (by omega) (by omega)
        have g2 : t.mx * t.mx * t.ct ≤ r * r * t.ct := Int.mul_le_mul_of_nonneg_right g1 (by omega)
        omega
      · exact hl

theorem c_MostNeg {t : Thr} (hm : t.fb.length ≤ maxLen) {p : Int} (hp : p < 0) : denC E 11 [AV.agg (thC t), AV.int .i64 p] [] = some ([RV.p (PV.int .i64 0)], []) := by
  have hP := c_Power hm t.mx 0
  unfold thC at hP ⊢
  rw [denC_eq, r11, hP]
  have e1 : ltB p 0 = true := by simpa using hp
  simp only [bnd_some, ctl_true, ctl_false, ctl_and, ctl_or', ctl_or2, x_toPV, x_toCs, x_toCs2, x_toEs, x_bEs, x_bCs, x_aPV, x_aCs, x_int, x_bool, x_str, x_es, x_esn, nth_0, nth_1, nth_2, nth_3, nth_4, nth_5, nth_6, nth_7, nth_8, nth_9, y_nil, y_int, y_bool, y_str, y_sl, y_nils, y_agg, y_ownp, y_own, z_nil, z_int, z_bool, z_str, z_sl, z_nils, b_nil, b_arr, b_box1, b_box2, b_box3, b_box4, List.map_cons, List.map_nil, Bool.and_self, Bool.and_true, Bool.true_and, Bool.not_true, Bool.not_false, Bool.or_false, Bool.false_or, cond_true, cond_false, okPack, okPut, okPutBlks, okPutCells, q_isP, q_isAg, q_isBox, q_isArr, q_int, q_bool, q_str, q_sl, q_nils, e_exit, e_ret, e_nrm, e_ret_exit, e_exit_ret, e_nrm_exit, e_nrm_ret, e_exit_nrm, e_ret_nrm, Nat.zero_add, Nat.reduceAdd, noslR, noslP, noslB, noslA, List.all_cons, List.all_nil, e1, Bool.or_true]

/-! ### With -/
theorem rCl_nil (F : Fun) : funK E F 21 [AV.sl 2 []] [] = both (some ([RV.p (PV.sl 2 [])], [])) (some ([RV.p (PV.sl 2 [])], [])) := by kernel_rfl
theorem rCl_cons (F : Fun) (e : List PV) (l : List (List PV)) : funK E F 21 [AV.sl 2 (e :: l)] [] = ctl (leN ((0 + (e :: l).length) * 16) 140737488355328) (some ([RV.p (PV.sl 2 ([] ++ e :: l))], [])) none := by kernel_rfl

theorem c_Clone {l : List (Int × Int)} (h : l.length ≤ 1000) : denC E 21 [AV.sl 2 (arcK l)] [] = some ([RV.p (PV.sl 2 (arcK l))], []) := by
  rw [denC_eq]
  cases l with
  | nil =>
    have : arcK [] = [] := rfl
    rw [this, rCl_nil, both_same]
  | cons a l =>
    have : arcK (a :: l) = arcC a :: arcK l := rfl
    rw [this, rCl_cons, List.nil_append, Nat.zero_add]
    have e : leN ((arcC a :: arcK l).length * 16) 140737488355328 = true := by
      simp only [List.length_cons, arcK_length, decide_eq_true_eq] at h ⊢
      omega
    rw [e, ctl_true]

def withT (t : Thr) (m : Int) : Thr := { t with mx := minI (maxI 0 m) t.mx }
theorem c_With {t : Thr} (h : t.fb.length ≤ 1000) (m : Int) : denC E 9 [AV.agg (thC t), AV.int .i64 m] [] = some ([RV.agg (thC (withT t m))], []) := by
  unfold thC
  rw [denC_eq, r9, c_Clone h]
  simp only [bnd_some, ctl_true, ctl_false, ctl_and, ctl_or', ctl_or2, x_toPV, x_toCs, x_toCs2, x_toEs, x_bEs, x_bCs, x_aPV, x_aCs, x_int, x_bool, x_str, x_es, x_esn, nth_0, nth_1, nth_2, nth_3, nth_4, nth_5, nth_6, nth_7, nth_8, nth_9, y_nil, y_int, y_bool, y_str, y_sl, y_nils, y_agg, y_ownp, y_own, z_nil, z_int, z_bool, z_str, z_sl, z_nils, b_nil, b_arr, b_box1, b_box2, b_box3, b_box4, List.map_cons, List.map_nil, Bool.and_self, Bool.and_true, Bool.true_and, Bool.not_true, Bool.not_false, Bool.or_false, Bool.false_or, cond_true, cond_false, okPack, okPut, okPutBlks, okPutCells, q_isP, q_isAg, q_isBox, q_isArr, q_int, q_bool, q_str, q_sl, q_nils, e_exit, e_ret, e_nrm, e_ret_exit, e_exit_ret, e_nrm_exit, e_nrm_ret, e_exit_nrm, e_ret_nrm, Nat.zero_add, Nat.reduceAdd, noslR, noslP, noslB, noslA, List.all_cons, List.all_nil]
  rfl
theorem withT_mx {t : Thr} (h : 0 ≤ t.mx) (m : Int) : 0 ≤ (withT t m).mx ∧ (withT t m).mx ≤ t.mx := by
  unfold withT minI maxI
  simp only
  split <;> split <;> omega
theorem withT_ok {t : Thr} (h : okT t = true) (m : Int) : okT (withT t m) = true := by
  have h0 := okT0_iff.1 (okT_iff.1 h).1
  have h1 := withT_mx (t := t) (by omega) m
  refine okT_iff.2 ⟨okT0_iff.2 ?_, (okT_iff.1 h).2⟩
  have e1 : (withT t m).kd = t.kd := rfl
  have e2 : (withT t m).st = t.st := rfl
  have e3 : (withT t m).rt = t.rt := rfl
  have e4 : (withT t m).ct = t.ct := rfl
  have e5 : (withT t m).fb = t.fb := rfl
  rw [e1, e2, e3, e4, e5]
  omega

/-! ### The example -/
def exT : Thr := ⟨2, 0, 500, 0, 3, []⟩
theorem c_sane : denC E 12 [] [] = some ([RV.p (PV.bool true)], []) := by
  have hm : exT.fb.length ≤ maxLen := by decide
  have hv : okT exT = true := by decide +kernel
  have p1 := c_Power hm 100 0
  have p2 := c_Power hm 10 0
  have v1 : powV exT 100 0 = 30 := by decide +kernel
  have v2 : powE exT 100 0 = 0 := by decide +kernel
  have v3 : powV exT 10 0 = 1 := by decide +kernel
  have v4 : powE exT 10 0 = 0 := by decide +kernel
  rw [v1, v2] at p1
  rw [v3, v4] at p2
  obtain ⟨m, h1, h2⟩ := c_Most hm hv (p := 30) (by omega)
  have hk : IsMost exT 30 100 := ⟨by decide, by decide, by decide, Or.inr (by decide)⟩
  have g1 := IsMost_mono (t := exT) (t' := exT) (by decide) (by decide) (by decide) (Int.le_refl _) h2 hk
  have g2 := IsMost_mono (t := exT) (t' := exT) (by decide) (by decide) (by decide) (Int.le_refl _) hk h2
  have e : m = 100 := by omega
  subst e
  have hw := c_With (t := exT) (by decide) 7
  rw [denC_eq, r12]
  have et : thC exT = [PV.int .i64 2, PV.int .i64 0, PV.int .i64 500, PV.int .i64 0, PV.int .i64 3, PV.sl 2 []] := rfl
  have ew : thC (withT exT 7) = [PV.int .i64 2, PV.int .i64 0, PV.int .i64 7, PV.int .i64 0, PV.int .i64 3, PV.sl 2 []] := rfl
  rw [et] at p1 p2 h1 hw
  rw [ew] at hw
  rw [p1]
  simp only [bnd_some, ctl_true, ctl_false, ctl_and, ctl_or', ctl_or2, x_toPV, x_toCs, x_toCs2, x_toEs, x_bEs, x_bCs, x_aPV, x_aCs, x_int, x_bool, x_str, x_es, x_esn, nth_0, nth_1, nth_2, nth_3, nth_4, nth_5, nth_6, nth_7, nth_8, nth_9, y_nil, y_int, y_bool, y_str, y_sl, y_nils, y_agg, y_ownp, y_own, z_nil, z_int, z_bool, z_str, z_sl, z_nils, b_nil, b_arr, b_box1, b_box2, b_box3, b_box4, List.map_cons, List.map_nil, Bool.and_self, Bool.and_true, Bool.true_and, Bool.not_true, Bool.not_false, Bool.or_false, Bool.false_or, cond_true, cond_false, okPack, okPut, okPutBlks, okPutCells, q_isP, q_isAg, q_isBox, q_isArr, q_int, q_bool, q_str, q_sl, q_nils, e_exit, e_ret, e_nrm, e_ret_exit, e_exit_ret, e_nrm_exit, e_nrm_ret, e_exit_nrm, e_ret_nrm, Nat.zero_add, Nat.reduceAdd, noslR, noslP, noslB, noslA, List.all_cons, List.all_nil]
  rw [p2]
  simp only [bnd_some, ctl_true, ctl_false, ctl_and, ctl_or', ctl_or2, x_toPV, x_toCs, x_toCs2, x_toEs, x_bEs, x_bCs, x_aPV, x_aCs, x_int, x_bool, x_str, x_es, x_esn, nth_0, nth_1, nth_2, nth_3, nth_4, nth_5, nth_6, nth_7, nth_8, nth_9, y_nil, y_int, y_bool, y_str, y_sl, y_nils, y_agg, y_ownp, y_own, z_nil, z_int, z_bool, z_str, z_sl, z_nils, b_nil, b_arr, b_box1, b_box2, b_box3, b_box4, List.map_cons, List.map_nil, Bool.and_self, Bool.and_true, Bool.true_and, Bool.not_true, Bool.not_false, Bool.or_false, Bool.false_or, cond_true, cond_false, okPack, okPut, okPutBlks, okPutCells, q_isP, q_isAg, q_isBox, q_isArr, q_int, q_bool, q_str, q_sl, q_nils, e_exit, e_ret, e_nrm, e_ret_exit, e_exit_ret, e_nrm_exit, e_nrm_ret, e_exit_nrm, e_ret_nrm, Nat.zero_add, Nat.reduceAdd, noslR, noslP, noslB, noslA, List.all_cons, List.all_nil]
  rw [h1]
  simp only [bnd_some, ctl_true, ctl_false, ctl_and, ctl_or', ctl_or2, x_toPV, x_toCs, x_toCs2, x_toEs, x_bEs, x_bCs, x_aPV, x_aCs, x_int, x_bool, x_str, x_es, x_esn, nth_0, nth_1, nth_2, nth_3, nth_4, nth_5, nth_6, nth_7, nth_8, nth_9, y_nil, y_int, y_bool, y_str, y_sl, y_nils, y_agg, y_ownp, y_own, z_nil, z_int, z_bool, z_str, z_sl, z_nils, b_nil, b_arr, b_box1, b_box2, b_box3, b_box4, List.map_cons, List.map_nil, Bool.and_self, Bool.and_true, Bool.true_and, Bool.not_true, Bool.not_false, Bool.or_false, Bool.false_or, cond_true, cond_false, okPack, okPut, okPutBlks, okPutCells, q_isP, q_isAg, q_isBox, q_isArr, q_int, q_bool, q_str, q_sl, q_nils, e_exit, e_ret, e_nrm, e_ret_exit, e_exit_ret, e_nrm_exit, e_nrm_ret, e_exit_nrm, e_ret_nrm, Nat.zero_add, Nat.reduceAdd, noslR, noslP, noslB, noslA, List.all_cons, List.all_nil]
  rw [hw]
  simp only [bnd_some, ctl_true, ctl_false, ctl_and, ctl_or', ctl_or2, x_toPV, x_toCs, x_toCs2, x_toEs, x_bEs, x_bCs, x_aPV, x_aCs, x_int, x_bool, x_str, x_es, x_esn, nth_0, nth_1, nth_2, nth_3, nth_4, nth_5, nth_6, nth_7, nth_8, nth_9, y_nil, y_int, y_bool, y_str, y_sl, y_nils, y_agg, y_ownp, y_own, z_nil, z_int, z_bool, z_str, z_sl, z_nils, b_nil, b_arr, b_box1, b_box2, b_box3, b_box4, List.map_cons, List.map_nil, Bool.and_self, Bool.and_true, Bool.true_and, Bool.not_true, Bool.not_false, Bool.or_false, Bool.false_or, cond_true, cond_false, okPack, okPut, okPutBlks, okPutCells, q_isP, q_isAg, q_isBox, q_isArr, q_int, q_bool, q_str, q_sl, q_nils, e_exit, e_ret, e_nrm, e_ret_exit, e_exit_ret, e_nrm_exit, e_nrm_ret, e_exit_nrm, e_ret_nrm, Nat.zero_add, Nat.reduceAdd, noslR, noslP, noslB, noslA, List.all_cons, List.all_nil]
  rfl

end Go.Proofs.Ytphcfpphnmpcbaa.Vm
