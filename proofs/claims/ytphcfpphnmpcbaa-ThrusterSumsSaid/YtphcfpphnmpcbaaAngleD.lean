/- Contracts of the functions that compute with vectors. -/
import Derived.Test.YtphcfpphnmpcbaaAngleC
import Derived.Test.YtphcfpphnmpcbaaMkC
namespace Go.Proofs.Ytphcfpphnmpcbaa.Vm
set_option linter.unusedVariables false
set_option linter.unusedSimpArgs false

theorem mul_le {a b m n : Int} (ha : -m ≤ a ∧ a ≤ m) (hb : -n ≤ b ∧ b ≤ n) : -(m * n) ≤ a * b ∧ a * b ≤ m * n := by
  have hm : 0 ≤ m := by omega
  have hn : 0 ≤ n := by omega
  have h1 : (a * b).natAbs ≤ (m * n).natAbs := by
    rw [Int.natAbs_mul, Int.natAbs_mul]
    exact Nat.mul_le_mul (by omega) (by omega)
  have h2 : 0 ≤ m * n := Int.mul_nonneg hm hn
  omega

def arcFrom (L : List Int) (k : Nat) : Int := vPick L k [0, 450, 800, 1350, 1800, 2600, 3500]
def arcTo (L : List Int) (k : Nat) : Int := (arcFrom L k + vPick L (at' L k) [0, 100, 300, 900, 1799]) % 3600

theorem arcFrom_in (L : List Int) (k : Nat) : arcFrom L k ∈ [0, 450, 800, 1350, 1800, 2600, 3500] := vPick_mem L k (by decide)
theorem arcWidth_in (L : List Int) (k : Nat) : vPick L k [0, 100, 300, 900, 1799] ∈ [0, 100, 300, 900, 1799] := vPick_mem L k (by decide)

theorem c_Arc {L : List Int} {k : Nat} (hL : L.length ≤ 600) (hk : k ≤ 600) :
    denC E 19 [AV.t (.ptr 0 0)] [src L k] = some ([RV.agg [PV.int .i64 (arcFrom L k), PV.int .i64 (arcTo L k)]], [src L (at' L (at' L k))]) := by
  rw [denC_eq]
  have e1 : denC E 13 [AV.t (.ptr 0 0), AV.sl 1 [[PV.int .i64 0], [PV.int .i64 450], [PV.int .i64 800], [PV.int .i64 1350], [PV.int .i64 1800], [PV.int .i64 2600], [PV.int .i64 3500]]] [src L k] = _ := c_Pick hL hk (l := [0, 450, 800, 1350, 1800, 2600, 3500]) (by decide)
  have e2 : denC E 13 [AV.t (.ptr 0 0), AV.sl 1 [[PV.int .i64 0], [PV.int .i64 100], [PV.int .i64 300], [PV.int .i64 900], [PV.int .i64 1799]]] [src L (at' L k)] = _ := c_Pick hL (at'_le hL hk) (l := [0, 100, 300, 900, 1799]) (by decide)
  have m1 := arcFrom_in L k
  have m2 := arcWidth_in L (at' L k)
  rw [r19]
  rw [e1]
  simp only [bnd_some, ctl_true, ctl_false, ctl_and, ctl_or', ctl_or2, x_toPV, x_toCs, x_toCs2, x_toEs, x_bEs, x_bCs, x_aPV, x_aCs, x_int, x_bool, x_str, x_es, x_esn, nth_0, nth_1, nth_2, nth_3, nth_4, nth_5, nth_6, nth_7, nth_8, nth_9, y_nil, y_int, y_bool, y_str, y_sl, y_nils, y_agg, y_ownp, y_own, z_nil, z_int, z_bool, z_str, z_sl, z_nils, b_nil, b_arr, b_box1, b_box2, b_box3, b_box4, List.map_cons, List.map_nil, Bool.and_self, Bool.and_true, Bool.true_and, Bool.not_true, Bool.not_false, Bool.or_false, Bool.false_or, cond_true, cond_false, okPack, okPut, okPutBlks, okPutCells, q_isP, q_isAg, q_isBox, q_isArr, q_int, q_bool, q_str, q_sl, q_nils, e_exit, e_ret, e_nrm, e_ret_exit, e_exit_ret, e_nrm_exit, e_nrm_ret, e_exit_nrm, e_ret_nrm, Nat.zero_add, Nat.reduceAdd, noslR, noslP, noslB, noslA, List.all_cons, List.all_nil]
  rw [e2]
  simp only [bnd_some, ctl_true, ctl_false, ctl_and, ctl_or', ctl_or2, x_toPV, x_toCs, x_toCs2, x_toEs, x_bEs, x_bCs, x_aPV, x_aCs, x_int, x_bool, x_str, x_es, x_esn, nth_0, nth_1, nth_2, nth_3, nth_4, nth_5, nth_6, nth_7, nth_8, nth_9, y_nil, y_int, y_bool, y_str, y_sl, y_nils, y_agg, y_ownp, y_own, z_nil, z_int, z_bool, z_str, z_sl, z_nils, b_nil, b_arr, b_box1, b_box2, b_box3, b_box4, List.map_cons, List.map_nil, Bool.and_self, Bool.and_true, Bool.true_and, Bool.not_true, Bool.not_false, Bool.or_false, Bool.false_or, cond_true, cond_false, okPack, okPut, okPutBlks, okPutCells, q_isP, q_isAg, q_isBox, q_isArr, q_int, q_bool, q_str, q_sl, q_nils, e_exit, e_ret, e_nrm, e_ret_exit, e_exit_ret, e_nrm_exit, e_nrm_ret, e_exit_nrm, e_ret_nrm, Nat.zero_add, Nat.reduceAdd, noslR, noslP, noslB, noslA, List.all_cons, List.all_nil]
  have hb : 0 ≤ arcFrom L k ∧ arcFrom L k ≤ 3500 := by
    simp only [List.mem_cons, List.not_mem_nil, or_false] at m1; omega
  have hb2 : 0 ≤ vPick L (at' L k) [0, 100, 300, 900, 1799] ∧ vPick L (at' L k) [0, 100, 300, 900, 1799] ≤ 1799 := by
    simp only [List.mem_cons, List.not_mem_nil, or_false] at m2; omega
  have e : vPick L k [0, 450, 800, 1350, 1800, 2600, 3500] = arcFrom L k := rfl
  rw [e, w64 (by omega), Int.tmod_eq_emod_of_nonneg (by omega)]
  rfl

end Go.Proofs.Ytphcfpphnmpcbaa.Vm
