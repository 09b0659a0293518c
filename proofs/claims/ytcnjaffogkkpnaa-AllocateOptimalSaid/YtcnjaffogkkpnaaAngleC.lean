/- Contracts of the functions that compute with angles. -/
import Derived.Test.YtcnjaffogkkpnaaRaw
namespace Go.Proofs.Ytcnjaffogkkpnaa.Vm
set_option linter.unusedVariables false
set_option linter.unusedSimpArgs false

def Norm (a : Int) : Int := a % 3600
theorem Norm_lt (a : Int) : 0 ≤ Norm a ∧ Norm a < 3600 := by unfold Norm; omega
theorem c_Norm (a : Int) : denC E 107 [AV.int .i64 a] [] = some ([RV.p (PV.int .i64 (Norm a))], []) := by
  rw [denC_eq, r107]
  have hb := tmod_bounds (a := a) (d := 3600) (by omega)
  have hf := tmod_fix (a := a) (d := 3600) (by omega)
  rw [ctl_dec, w64 (by omega)]
  unfold Norm
  rw [← hf]
  split <;> rfl

def floorI (n d : Int) : Int := n / d
theorem c_floor {n d : Int} (hd : 0 < d) (hn : -9000000000000000000 ≤ n ∧ n ≤ 9000000000000000000) : denC E 69 [AV.int .i64 n, AV.int .i64 d] [] = some ([RV.p (PV.int .i64 (n / d))], []) := by
  rw [denC_eq, r69]
  have hb : -9000000000000000001 ≤ n / d ∧ n / d ≤ 9000000000000000000 := by
    have h1 := Int.mul_ediv_add_emod n d
    have h3 := Int.emod_nonneg n (Int.ne_of_gt hd)
    have h4 := Int.emod_lt_of_pos n hd
    constructor
    · rcases Int.lt_or_le (n / d) (-9000000000000000000) with h | h
      · have h5 : d * (n / d) ≤ d * (-9000000000000000001) := Int.mul_le_mul_of_nonneg_left (by omega) (by omega)
        omega
      · omega
    · rcases Int.lt_or_le 9000000000000000000 (n / d) with h | h
      · have h5 : d * 9000000000000000001 ≤ d * (n / d) := Int.mul_le_mul_of_nonneg_left (by omega) (by omega)
        omega
      · exact h
  have hf := floor_div (n := n) hd
  have hq : n.tdiv d = n / d ∨ n.tdiv d = n / d + 1 := by
    split at hf <;> omega
  have hne : neB d 0 = true := by simp; omega
  simp only [hne, Bool.and_self, ctl_true]
  rw [ctl_dec, w64 (n := n.tdiv d) (by omega), w64 (by omega), ← hf]
  split <;> rfl

theorem c_Half1 {n d : Int} (hd : 1 ≤ d ∧ d ≤ 1000000000) (hn : -1000000000000000000 ≤ n ∧ n ≤ 1000000000000000000) :
    denC E 68 [AV.int .i64 n, AV.int .i64 d] [] = some ([RV.p (PV.int .i64 ((2 * n + d) / (2 * d)))], []) := by
  rw [denC_eq, r68]
  rw [w64 (n := 2 * n) (by omega), w64 (n := 2 * n + d) (by omega), w64 (n := 2 * d) (by omega), c_floor (by omega) (by omega)]
  simp only [bnd_some, ctl_true, ctl_false, ctl_and, ctl_or', ctl_or2, x_toPV, x_toCs, x_toCs2, x_toEs, x_bEs, x_bCs, x_aPV, x_aCs, x_int, x_bool, x_str, x_es, x_esn, nth_0, nth_1, nth_2, nth_3, nth_4, nth_5, nth_6, nth_7, nth_8, nth_9, y_nil, y_int, y_bool, y_str, y_sl, y_nils, y_agg, y_ownp, y_own, z_nil, z_int, z_bool, z_str, z_sl, z_nils, b_nil, b_arr, b_box1, b_box2, b_box3, b_box4, List.map_cons, List.map_nil, Bool.and_self, Bool.and_true, Bool.true_and, Bool.not_true, Bool.not_false, Bool.or_false, Bool.false_or, cond_true, cond_false, okPack, okPut, okPutBlks, okPutCells, q_isP, q_isAg, q_isBox, q_isArr, q_int, q_bool, q_str, q_sl, q_nils, e_exit, e_ret, e_nrm, e_ret_exit, e_exit_ret, e_nrm_exit, e_nrm_ret, e_exit_nrm, e_ret_nrm, Nat.zero_add, Nat.reduceAdd, noslR, noslP, noslB, noslA, List.all_cons, List.all_nil]

def Half (n d : Int) : Int := (2 * n + d) / (2 * d)
theorem c_Half {n d : Int} (hd : 1 ≤ d ∧ d ≤ 1000000000) (hn : -1000000000000000000 ≤ n ∧ n ≤ 1000000000000000000) :
    denC E 39 [AV.int .i64 n, AV.int .i64 d] [] = some ([RV.p (PV.int .i64 (Half n d)), RV.p (PV.int .i64 0)], []) := by
  have hdiv : denC E 67 [AV.int .i64 n, AV.int .i64 d, AV.fn 68 []] [] = some ([RV.p (PV.int .i64 (Half n d)), RV.p (PV.int .i64 0)], []) := by
    rw [denC_eq, r67a, c_Half1 hd hn]
    have h1 : ltB n (-1000000000000000000) = false := by simp; omega
    have h2 : ltB 1000000000000000000 n = false := by simp; omega
    have h3 : ltB d 1 = false := by simp; omega
    have h4 : ltB 1000000000 d = false := by simp; omega
    simp only [h1, h2, h3, h4, bnd_some, ctl_true, ctl_false, ctl_and, ctl_or', ctl_or2, x_toPV, x_toCs, x_toCs2, x_toEs, x_bEs, x_bCs, x_aPV, x_aCs, x_int, x_bool, x_str, x_es, x_esn, nth_0, nth_1, nth_2, nth_3, nth_4, nth_5, nth_6, nth_7, nth_8, nth_9, y_nil, y_int, y_bool, y_str, y_sl, y_nils, y_agg, y_ownp, y_own, z_nil, z_int, z_bool, z_str, z_sl, z_nils, b_nil, b_arr, b_box1, b_box2, b_box3, b_box4, List.map_cons, List.map_nil, Bool.and_self, Bool.and_true, Bool.true_and, Bool.not_true, Bool.not_false, Bool.or_false, Bool.false_or, cond_true, cond_false, okPack, okPut, okPutBlks, okPutCells, q_isP, q_isAg, q_isBox, q_isArr, q_int, q_bool, q_str, q_sl, q_nils, e_exit, e_ret, e_nrm, e_ret_exit, e_exit_ret, e_nrm_exit, e_nrm_ret, e_exit_nrm, e_ret_nrm, Nat.zero_add, Nat.reduceAdd, noslR, noslP, noslB, noslA, List.all_cons, List.all_nil, Half]
  rw [denC_eq, r39, hdiv]
  simp only [bnd_some, ctl_true, ctl_false, ctl_and, ctl_or', ctl_or2, x_toPV, x_toCs, x_toCs2, x_toEs, x_bEs, x_bCs, x_aPV, x_aCs, x_int, x_bool, x_str, x_es, x_esn, nth_0, nth_1, nth_2, nth_3, nth_4, nth_5, nth_6, nth_7, nth_8, nth_9, y_nil, y_int, y_bool, y_str, y_sl, y_nils, y_agg, y_ownp, y_own, z_nil, z_int, z_bool, z_str, z_sl, z_nils, b_nil, b_arr, b_box1, b_box2, b_box3, b_box4, List.map_cons, List.map_nil, Bool.and_self, Bool.and_true, Bool.true_and, Bool.not_true, Bool.not_false, Bool.or_false, Bool.false_or, cond_true, cond_false, okPack, okPut, okPutBlks, okPutCells, q_isP, q_isAg, q_isBox, q_isArr, q_int, q_bool, q_str, q_sl, q_nils, e_exit, e_ret, e_nrm, e_ret_exit, e_exit_ret, e_nrm_exit, e_nrm_ret, e_exit_nrm, e_ret_nrm, Nat.zero_add, Nat.reduceAdd, noslR, noslP, noslB, noslA, List.all_cons, List.all_nil]

/-- The sine in the first half turn. -/
def Sin0 (p : Int) : Int := Half (40000 * (p * (1800 - p))) (4050000 - p * (1800 - p))
def Sin (a : Int) : Int := if Norm a > 1800 then -Sin0 (Norm a - 1800) else Sin0 (Norm a)

theorem Sin0_prod {p : Int} (hp : 0 ≤ p ∧ p ≤ 1800) : 0 ≤ p * (1800 - p) ∧ p * (1800 - p) ≤ 3240000 := by
  refine ⟨Int.mul_nonneg hp.1 (by omega), ?_⟩
  have h : p * (1800 - p) ≤ 1800 * (1800 - p) := Int.mul_le_mul_of_nonneg_right hp.2 (by omega)
  omega

theorem Sin0_bound {p : Int} (hp : 0 ≤ p ∧ p ≤ 1800) : 0 ≤ Sin0 p ∧ Sin0 p ≤ 300000000000 := by
  obtain ⟨h1, h2⟩ := Sin0_prod hp
  generalize hq : p * (1800 - p) = q at h1 h2
  have hd : 0 < 2 * (4050000 - q) := by omega
  unfold Sin0 Half
  rw [hq]
  refine ⟨Int.ediv_nonneg (by omega) (by omega), ?_⟩
  refine Int.le_trans (Int.ediv_le_self _ (by omega)) (by omega)

theorem c_Sin (a : Int) : denC E 106 [AV.int .i64 a] [] = some ([RV.p (PV.int .i64 (Sin a))], []) := by
  rw [denC_eq, r106, c_Norm]
  have hN := Norm_lt a
  simp only [bnd_some, ctl_true, ctl_false, ctl_and, ctl_or', ctl_or2, x_toPV, x_toCs, x_toCs2, x_toEs, x_bEs, x_bCs, x_aPV, x_aCs, x_int, x_bool, x_str, x_es, x_esn, nth_0, nth_1, nth_2, nth_3, nth_4, nth_5, nth_6, nth_7, nth_8, nth_9, y_nil, y_int, y_bool, y_str, y_sl, y_nils, y_agg, y_ownp, y_own, z_nil, z_int, z_bool, z_str, z_sl, z_nils, b_nil, b_arr, b_box1, b_box2, b_box3, b_box4, List.map_cons, List.map_nil, Bool.and_self, Bool.and_true, Bool.true_and, Bool.not_true, Bool.not_false, Bool.or_false, Bool.false_or, cond_true, cond_false, okPack, okPut, okPutBlks, okPutCells, q_isP, q_isAg, q_isBox, q_isArr, q_int, q_bool, q_str, q_sl, q_nils, e_exit, e_ret, e_nrm, e_ret_exit, e_exit_ret, e_nrm_exit, e_nrm_ret, e_exit_nrm, e_ret_nrm, Nat.zero_add, Nat.reduceAdd, noslR, noslP, noslB, noslA, List.all_cons, List.all_nil]
  rw [ctl_dec]
  unfold Sin
  by_cases h : Norm a > 1800
  · rw [if_pos h, if_pos h]
    have hp := Sin0_prod (p := Norm a - 1800) (by omega)
    have hb := Sin0_bound (p := Norm a - 1800) (by omega)
    rw [w64 (n := Norm a - 1800) (by omega), w64 (n := 1800 - (Norm a - 1800)) (by omega), w64 (n := (Norm a - 1800) * (1800 - (Norm a - 1800))) (by omega), w64 (n := 40000 * _) (by omega), w64 (n := 4050000 - _) (by omega),
      c_Half (by omega) (by omega)]
    simp only [bnd_some, ctl_true, ctl_false, ctl_and, ctl_or', ctl_or2, x_toPV, x_toCs, x_toCs2, x_toEs, x_bEs, x_bCs, x_aPV, x_aCs, x_int, x_bool, x_str, x_es, x_esn, nth_0, nth_1, nth_2, nth_3, nth_4, nth_5, nth_6, nth_7, nth_8, nth_9, y_nil, y_int, y_bool, y_str, y_sl, y_nils, y_agg, y_ownp, y_own, z_nil, z_int, z_bool, z_str, z_sl, z_nils, b_nil, b_arr, b_box1, b_box2, b_box3, b_box4, List.map_cons, List.map_nil, Bool.and_self, Bool.and_true, Bool.true_and, Bool.not_true, Bool.not_false, Bool.or_false, Bool.false_or, cond_true, cond_false, okPack, okPut, okPutBlks, okPutCells, q_isP, q_isAg, q_isBox, q_isArr, q_int, q_bool, q_str, q_sl, q_nils, e_exit, e_ret, e_nrm, e_ret_exit, e_exit_ret, e_nrm_exit, e_nrm_ret, e_exit_nrm, e_ret_nrm, Nat.zero_add, Nat.reduceAdd, noslR, noslP, noslB, noslA, List.all_cons, List.all_nil]
    have e : Half (40000 * ((Norm a - 1800) * (1800 - (Norm a - 1800)))) (4050000 - (Norm a - 1800) * (1800 - (Norm a - 1800))) = Sin0 (Norm a - 1800) := rfl
    rw [e, w64 (by omega)]
    congr 5
    omega
  · rw [if_neg h, if_neg h]
    have hp := Sin0_prod (p := Norm a) (by omega)
    have hb := Sin0_bound (p := Norm a) (by omega)
    rw [w64 (n := 1800 - Norm a) (by omega), w64 (n := Norm a * (1800 - Norm a)) (by omega), w64 (n := 40000 * _) (by omega), w64 (n := 4050000 - _) (by omega),
      c_Half (by omega) (by omega)]
    simp only [bnd_some, ctl_true, ctl_false, ctl_and, ctl_or', ctl_or2, x_toPV, x_toCs, x_toCs2, x_toEs, x_bEs, x_bCs, x_aPV, x_aCs, x_int, x_bool, x_str, x_es, x_esn, nth_0, nth_1, nth_2, nth_3, nth_4, nth_5, nth_6, nth_7, nth_8, nth_9, y_nil, y_int, y_bool, y_str, y_sl, y_nils, y_agg, y_ownp, y_own, z_nil, z_int, z_bool, z_str, z_sl, z_nils, b_nil, b_arr, b_box1, b_box2, b_box3, b_box4, List.map_cons, List.map_nil, Bool.and_self, Bool.and_true, Bool.true_and, Bool.not_true, Bool.not_false, Bool.or_false, Bool.false_or, cond_true, cond_false, okPack, okPut, okPutBlks, okPutCells, q_isP, q_isAg, q_isBox, q_isArr, q_int, q_bool, q_str, q_sl, q_nils, e_exit, e_ret, e_nrm, e_ret_exit, e_exit_ret, e_nrm_exit, e_nrm_ret, e_exit_nrm, e_ret_nrm, Nat.zero_add, Nat.reduceAdd, noslR, noslP, noslB, noslA, List.all_cons, List.all_nil]
    have e : Half (40000 * (Norm a * (1800 - Norm a))) (4050000 - Norm a * (1800 - Norm a)) = Sin0 (Norm a) := rfl
    rw [e, w64 (by omega)]
    congr 5
    omega

theorem Sin_bound (a : Int) : -300000000000 ≤ Sin a ∧ Sin a ≤ 300000000000 := by
  have hN := Norm_lt a
  unfold Sin
  split
  · have := Sin0_bound (p := Norm a - 1800) (by omega); omega
  · have := Sin0_bound (p := Norm a) (by omega); omega

def Cos (a : Int) : Int := Sin (Norm a + 900)
theorem c_Cos (a : Int) : denC E 105 [AV.int .i64 a] [] = some ([RV.p (PV.int .i64 (Cos a))], []) := by
  rw [denC_eq, r105, c_Norm]
  have hN := Norm_lt a
  simp only [bnd_some, ctl_true, ctl_false, ctl_and, ctl_or', ctl_or2, x_toPV, x_toCs, x_toCs2, x_toEs, x_bEs, x_bCs, x_aPV, x_aCs, x_int, x_bool, x_str, x_es, x_esn, nth_0, nth_1, nth_2, nth_3, nth_4, nth_5, nth_6, nth_7, nth_8, nth_9, y_nil, y_int, y_bool, y_str, y_sl, y_nils, y_agg, y_ownp, y_own, z_nil, z_int, z_bool, z_str, z_sl, z_nils, b_nil, b_arr, b_box1, b_box2, b_box3, b_box4, List.map_cons, List.map_nil, Bool.and_self, Bool.and_true, Bool.true_and, Bool.not_true, Bool.not_false, Bool.or_false, Bool.false_or, cond_true, cond_false, okPack, okPut, okPutBlks, okPutCells, q_isP, q_isAg, q_isBox, q_isArr, q_int, q_bool, q_str, q_sl, q_nils, e_exit, e_ret, e_nrm, e_ret_exit, e_exit_ret, e_nrm_exit, e_nrm_ret, e_exit_nrm, e_ret_nrm, Nat.zero_add, Nat.reduceAdd, noslR, noslP, noslB, noslA, List.all_cons, List.all_nil]
  rw [w64 (by omega), c_Sin]
  simp only [bnd_some, ctl_true, ctl_false, ctl_and, ctl_or', ctl_or2, x_toPV, x_toCs, x_toCs2, x_toEs, x_bEs, x_bCs, x_aPV, x_aCs, x_int, x_bool, x_str, x_es, x_esn, nth_0, nth_1, nth_2, nth_3, nth_4, nth_5, nth_6, nth_7, nth_8, nth_9, y_nil, y_int, y_bool, y_str, y_sl, y_nils, y_agg, y_ownp, y_own, z_nil, z_int, z_bool, z_str, z_sl, z_nils, b_nil, b_arr, b_box1, b_box2, b_box3, b_box4, List.map_cons, List.map_nil, Bool.and_self, Bool.and_true, Bool.true_and, Bool.not_true, Bool.not_false, Bool.or_false, Bool.false_or, cond_true, cond_false, okPack, okPut, okPutBlks, okPutCells, q_isP, q_isAg, q_isBox, q_isArr, q_int, q_bool, q_str, q_sl, q_nils, e_exit, e_ret, e_nrm, e_ret_exit, e_exit_ret, e_nrm_exit, e_nrm_ret, e_exit_nrm, e_ret_nrm, Nat.zero_add, Nat.reduceAdd, noslR, noslP, noslB, noslA, List.all_cons, List.all_nil, Cos]

def Width (x y : Int) : Int := Norm (y - x)
theorem c_Width {x y : Int} (hx : 0 ≤ x ∧ x < 3600) (hy : 0 ≤ y ∧ y < 3600) : denC E 100 [AV.agg [PV.int .i64 x, PV.int .i64 y]] [] = some ([RV.p (PV.int .i64 (Width x y))], []) := by
  rw [denC_eq, r100, w64 (by omega), c_Norm]
  simp only [bnd_some, ctl_true, ctl_false, ctl_and, ctl_or', ctl_or2, x_toPV, x_toCs, x_toCs2, x_toEs, x_bEs, x_bCs, x_aPV, x_aCs, x_int, x_bool, x_str, x_es, x_esn, nth_0, nth_1, nth_2, nth_3, nth_4, nth_5, nth_6, nth_7, nth_8, nth_9, y_nil, y_int, y_bool, y_str, y_sl, y_nils, y_agg, y_ownp, y_own, z_nil, z_int, z_bool, z_str, z_sl, z_nils, b_nil, b_arr, b_box1, b_box2, b_box3, b_box4, List.map_cons, List.map_nil, Bool.and_self, Bool.and_true, Bool.true_and, Bool.not_true, Bool.not_false, Bool.or_false, Bool.false_or, cond_true, cond_false, okPack, okPut, okPutBlks, okPutCells, q_isP, q_isAg, q_isBox, q_isArr, q_int, q_bool, q_str, q_sl, q_nils, e_exit, e_ret, e_nrm, e_ret_exit, e_exit_ret, e_nrm_exit, e_nrm_ret, e_exit_nrm, e_ret_nrm, Nat.zero_add, Nat.reduceAdd, noslR, noslP, noslB, noslA, List.all_cons, List.all_nil, Width]

theorem c_Valid1 (a : Int) : denC E 99 [AV.int .i64 a] [] = some ([RV.p (PV.bool (leB 0 a && ltB a 3600))], []) := by
  rw [denC_eq, r99]
  simp only [bnd_some, ctl_true, ctl_false, ctl_and, ctl_or', ctl_or2, x_toPV, x_toCs, x_toCs2, x_toEs, x_bEs, x_bCs, x_aPV, x_aCs, x_int, x_bool, x_str, x_es, x_esn, nth_0, nth_1, nth_2, nth_3, nth_4, nth_5, nth_6, nth_7, nth_8, nth_9, y_nil, y_int, y_bool, y_str, y_sl, y_nils, y_agg, y_ownp, y_own, z_nil, z_int, z_bool, z_str, z_sl, z_nils, b_nil, b_arr, b_box1, b_box2, b_box3, b_box4, List.map_cons, List.map_nil, Bool.and_self, Bool.and_true, Bool.true_and, Bool.not_true, Bool.not_false, Bool.or_false, Bool.false_or, cond_true, cond_false, okPack, okPut, okPutBlks, okPutCells, q_isP, q_isAg, q_isBox, q_isArr, q_int, q_bool, q_str, q_sl, q_nils, e_exit, e_ret, e_nrm, e_ret_exit, e_exit_ret, e_nrm_exit, e_nrm_ret, e_exit_nrm, e_ret_nrm, Nat.zero_add, Nat.reduceAdd, noslR, noslP, noslB, noslA, List.all_cons, List.all_nil]

def Valid (x y : Int) : Bool := decide (0 ≤ x ∧ x < 3600 ∧ 0 ≤ y ∧ y < 3600 ∧ Width x y < 1800)
theorem c_Valid (x y : Int) : denC E 89 [AV.agg [PV.int .i64 x, PV.int .i64 y]] [] = some ([RV.p (PV.bool (Valid x y))], []) := by
  rw [denC_eq, r89, c_Valid1, c_Valid1]
  simp only [bnd_some, ctl_true, ctl_false, ctl_and, ctl_or', ctl_or2, x_toPV, x_toCs, x_toCs2, x_toEs, x_bEs, x_bCs, x_aPV, x_aCs, x_int, x_bool, x_str, x_es, x_esn, nth_0, nth_1, nth_2, nth_3, nth_4, nth_5, nth_6, nth_7, nth_8, nth_9, y_nil, y_int, y_bool, y_str, y_sl, y_nils, y_agg, y_ownp, y_own, z_nil, z_int, z_bool, z_str, z_sl, z_nils, b_nil, b_arr, b_box1, b_box2, b_box3, b_box4, List.map_cons, List.map_nil, Bool.and_self, Bool.and_true, Bool.true_and, Bool.not_true, Bool.not_false, Bool.or_false, Bool.false_or, cond_true, cond_false, okPack, okPut, okPutBlks, okPutCells, q_isP, q_isAg, q_isBox, q_isArr, q_int, q_bool, q_str, q_sl, q_nils, e_exit, e_ret, e_nrm, e_ret_exit, e_exit_ret, e_nrm_exit, e_nrm_ret, e_exit_nrm, e_ret_nrm, Nat.zero_add, Nat.reduceAdd, noslR, noslP, noslB, noslA, List.all_cons, List.all_nil]
  by_cases hx : 0 ≤ x ∧ x < 3600
  · by_cases hy : 0 ≤ y ∧ y < 3600
    · rw [c_Width hx hy]
      have e1 : (leB 0 x && ltB x 3600) = true := by simp; omega
      have e2 : (leB 0 y && ltB y 3600) = true := by simp; omega
      rw [e1, e2]
      simp only [bnd_some, ctl_true, ctl_false, ctl_and, ctl_or', ctl_or2, x_toPV, x_toCs, x_toCs2, x_toEs, x_bEs, x_bCs, x_aPV, x_aCs, x_int, x_bool, x_str, x_es, x_esn, nth_0, nth_1, nth_2, nth_3, nth_4, nth_5, nth_6, nth_7, nth_8, nth_9, y_nil, y_int, y_bool, y_str, y_sl, y_nils, y_agg, y_ownp, y_own, z_nil, z_int, z_bool, z_str, z_sl, z_nils, b_nil, b_arr, b_box1, b_box2, b_box3, b_box4, List.map_cons, List.map_nil, Bool.and_self, Bool.and_true, Bool.true_and, Bool.not_true, Bool.not_false, Bool.or_false, Bool.false_or, cond_true, cond_false, okPack, okPut, okPutBlks, okPutCells, q_isP, q_isAg, q_isBox, q_isArr, q_int, q_bool, q_str, q_sl, q_nils, e_exit, e_ret, e_nrm, e_ret_exit, e_exit_ret, e_nrm_exit, e_nrm_ret, e_exit_nrm, e_ret_nrm, Nat.zero_add, Nat.reduceAdd, noslR, noslP, noslB, noslA, List.all_cons, List.all_nil]
      have : ltB (Width x y) 1800 = Valid x y := by
        unfold Valid
        rw [Bool.eq_iff_iff]
        simp only [decide_eq_true_eq]
        omega
      rw [this]
    · have e1 : (leB 0 x && ltB x 3600) = true := by simp; omega
      have e2 : (leB 0 y && ltB y 3600) = false := by simp; omega
      rw [e1, e2]
      simp only [bnd_some, ctl_true, ctl_false, ctl_and, ctl_or', ctl_or2, x_toPV, x_toCs, x_toCs2, x_toEs, x_bEs, x_bCs, x_aPV, x_aCs, x_int, x_bool, x_str, x_es, x_esn, nth_0, nth_1, nth_2, nth_3, nth_4, nth_5, nth_6, nth_7, nth_8, nth_9, y_nil, y_int, y_bool, y_str, y_sl, y_nils, y_agg, y_ownp, y_own, z_nil, z_int, z_bool, z_str, z_sl, z_nils, b_nil, b_arr, b_box1, b_box2, b_box3, b_box4, List.map_cons, List.map_nil, Bool.and_self, Bool.and_true, Bool.true_and, Bool.not_true, Bool.not_false, Bool.or_false, Bool.false_or, cond_true, cond_false, okPack, okPut, okPutBlks, okPutCells, q_isP, q_isAg, q_isBox, q_isArr, q_int, q_bool, q_str, q_sl, q_nils, e_exit, e_ret, e_nrm, e_ret_exit, e_exit_ret, e_nrm_exit, e_nrm_ret, e_exit_nrm, e_ret_nrm, Nat.zero_add, Nat.reduceAdd, noslR, noslP, noslB, noslA, List.all_cons, List.all_nil]
      have : Valid x y = false := by unfold Valid; simp; omega
      rw [this]
  · have e1 : (leB 0 x && ltB x 3600) = false := by simp; omega
    rw [e1]
    simp only [bnd_some, ctl_true, ctl_false, ctl_and, ctl_or', ctl_or2, x_toPV, x_toCs, x_toCs2, x_toEs, x_bEs, x_bCs, x_aPV, x_aCs, x_int, x_bool, x_str, x_es, x_esn, nth_0, nth_1, nth_2, nth_3, nth_4, nth_5, nth_6, nth_7, nth_8, nth_9, y_nil, y_int, y_bool, y_str, y_sl, y_nils, y_agg, y_ownp, y_own, z_nil, z_int, z_bool, z_str, z_sl, z_nils, b_nil, b_arr, b_box1, b_box2, b_box3, b_box4, List.map_cons, List.map_nil, Bool.and_self, Bool.and_true, Bool.true_and, Bool.not_true, Bool.not_false, Bool.or_false, Bool.false_or, cond_true, cond_false, okPack, okPut, okPutBlks, okPutCells, q_isP, q_isAg, q_isBox, q_isArr, q_int, q_bool, q_str, q_sl, q_nils, e_exit, e_ret, e_nrm, e_ret_exit, e_exit_ret, e_nrm_exit, e_nrm_ret, e_exit_nrm, e_ret_nrm, Nat.zero_add, Nat.reduceAdd, noslR, noslP, noslB, noslA, List.all_cons, List.all_nil]
    have : Valid x y = false := by unfold Valid; simp; omega
    rw [this]

theorem Valid_iff {x y : Int} : Valid x y = true ↔ 0 ≤ x ∧ x < 3600 ∧ 0 ≤ y ∧ y < 3600 ∧ Width x y < 1800 := by unfold Valid; simp

end Go.Proofs.Ytcnjaffogkkpnaa.Vm
