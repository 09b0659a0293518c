/- Contracts of the functions that compute with vectors. -/
import Derived.Test.YtcnjaffogkkpnaaAngleC
import Derived.Test.YtcnjaffogkkpnaaMkC
namespace Go.Proofs.Ytcnjaffogkkpnaa.Vm
set_option linter.unusedVariables false
set_option linter.unusedSimpArgs false

theorem sin0_all : ((List.range 1801).all fun n => leB (Sin0 (n : Int)) 10000) = true := by decide +kernel

theorem Sin0_le {p : Int} (hp : 0 ≤ p ∧ p ≤ 1800) : 0 ≤ Sin0 p ∧ Sin0 p ≤ 10000 := by
  have := List.all_eq_true.1 sin0_all p.toNat (by simp; omega)
  rw [Int.toNat_of_nonneg hp.1] at this
  exact ⟨(Sin0_bound hp).1, of_decide_eq_true this⟩

theorem Sin_le (a : Int) : -10000 ≤ Sin a ∧ Sin a ≤ 10000 := by
  have hN := Norm_lt a
  unfold Sin
  split
  · have := Sin0_le (p := Norm a - 1800) (by omega); omega
  · have := Sin0_le (p := Norm a) (by omega); omega

theorem Cos_le (a : Int) : -10000 ≤ Cos a ∧ Cos a ≤ 10000 := Sin_le _

theorem mul_le {a b m n : Int} (ha : -m ≤ a ∧ a ≤ m) (hb : -n ≤ b ∧ b ≤ n) : -(m * n) ≤ a * b ∧ a * b ≤ m * n := by
  have hm : 0 ≤ m := by omega
  have hn : 0 ≤ n := by omega
  have h1 : (a * b).natAbs ≤ (m * n).natAbs := by
    rw [Int.natAbs_mul, Int.natAbs_mul]
    exact Nat.mul_le_mul (by omega) (by omega)
  have h2 : 0 ≤ m * n := Int.mul_nonneg hm hn
  omega

def Small (x y : Int) : Bool := decide (-1000000000 ≤ x ∧ x ≤ 1000000000 ∧ -1000000000 ≤ y ∧ y ≤ 1000000000)
theorem Small_iff {x y : Int} : Small x y = true ↔ -1000000000 ≤ x ∧ x ≤ 1000000000 ∧ -1000000000 ≤ y ∧ y ≤ 1000000000 := by unfold Small; simp
theorem c_small (x y : Int) : denC E 103 [AV.int .i64 x, AV.int .i64 y] [] = some ([RV.p (PV.bool (Small x y))], []) := by
  rw [denC_eq, r103]
  simp only [bnd_some, ctl_true, ctl_false, ctl_and, ctl_or', ctl_or2, x_toPV, x_toCs, x_toCs2, x_toEs, x_bEs, x_bCs, x_aPV, x_aCs, x_int, x_bool, x_str, x_es, x_esn, nth_0, nth_1, nth_2, nth_3, nth_4, nth_5, nth_6, nth_7, nth_8, nth_9, y_nil, y_int, y_bool, y_str, y_sl, y_nils, y_agg, y_ownp, y_own, z_nil, z_int, z_bool, z_str, z_sl, z_nils, b_nil, b_arr, b_box1, b_box2, b_box3, b_box4, List.map_cons, List.map_nil, Bool.and_self, Bool.and_true, Bool.true_and, Bool.not_true, Bool.not_false, Bool.or_false, Bool.false_or, cond_true, cond_false, okPack, okPut, okPutBlks, okPutCells, q_isP, q_isAg, q_isBox, q_isArr, q_int, q_bool, q_str, q_sl, q_nils, e_exit, e_ret, e_nrm, e_ret_exit, e_exit_ret, e_nrm_exit, e_nrm_ret, e_exit_nrm, e_ret_nrm, Nat.zero_add, Nat.reduceAdd, noslR, noslP, noslB, noslA, List.all_cons, List.all_nil]
  have : (leB (maxI y x) 1000000000 && leB (-1000000000) (minI y x)) = Small x y := by
    rw [Bool.eq_iff_iff]
    unfold Small maxI minI
    simp only [Bool.and_eq_true, decide_eq_true_eq]
    split <;> split <;> omega
  rw [this]

def Cross (a x y : Int) : Int := if Small x y = true then Cos a * y - Sin a * x else 0
theorem c_Cross (a x y : Int) : denC E 104 [AV.int .i64 a, AV.int .i64 x, AV.int .i64 y] [] = some ([RV.p (PV.int .i64 (Cross a x y))], []) := by
  rw [denC_eq, r104, c_small, c_Cos, c_Sin]
  simp only [bnd_some, ctl_true, ctl_false, ctl_and, ctl_or', ctl_or2, x_toPV, x_toCs, x_toCs2, x_toEs, x_bEs, x_bCs, x_aPV, x_aCs, x_int, x_bool, x_str, x_es, x_esn, nth_0, nth_1, nth_2, nth_3, nth_4, nth_5, nth_6, nth_7, nth_8, nth_9, y_nil, y_int, y_bool, y_str, y_sl, y_nils, y_agg, y_ownp, y_own, z_nil, z_int, z_bool, z_str, z_sl, z_nils, b_nil, b_arr, b_box1, b_box2, b_box3, b_box4, List.map_cons, List.map_nil, Bool.and_self, Bool.and_true, Bool.true_and, Bool.not_true, Bool.not_false, Bool.or_false, Bool.false_or, cond_true, cond_false, okPack, okPut, okPutBlks, okPutCells, q_isP, q_isAg, q_isBox, q_isArr, q_int, q_bool, q_str, q_sl, q_nils, e_exit, e_ret, e_nrm, e_ret_exit, e_exit_ret, e_nrm_exit, e_nrm_ret, e_exit_nrm, e_ret_nrm, Nat.zero_add, Nat.reduceAdd, noslR, noslP, noslB, noslA, List.all_cons, List.all_nil]
  unfold Cross
  cases h : Small x y with
  | false => rfl
  | true =>
    have hs := Small_iff.1 h
    have h1 := mul_le (a := Cos a) (b := y) (m := 10000) (n := 1000000000) (Cos_le a) (by omega)
    have h2 := mul_le (a := Sin a) (b := x) (m := 10000) (n := 1000000000) (Sin_le a) (by omega)
    rw [w64 (n := Cos a * y) (by omega), w64 (n := Sin a * x) (by omega), w64 (by omega)]
    rfl

def Within (x y px py : Int) : Bool :=
  Valid x y && !(px == 0 && py == 0) && Small px py && (leB 0 (Cross x px py) && leB (Cross y px py) 0 && (ltB 0 (Cross x px py) || ltB 0 (Cos x * px + Sin x * py)))

theorem c_Within (x y px py : Int) : denC E 97 [AV.agg [PV.int .i64 x, PV.int .i64 y], AV.int .i64 px, AV.int .i64 py] [] = some ([RV.p (PV.bool (Within x y px py))], []) := by
  rw [denC_eq, r97]
  simp only [c_Valid, c_small, c_Cross, c_Cos, c_Sin, bnd_some, ctl_true, ctl_false, ctl_and, ctl_or', ctl_or2, x_toPV, x_toCs, x_toCs2, x_toEs, x_bEs, x_bCs, x_aPV, x_aCs, x_int, x_bool, x_str, x_es, x_esn, nth_0, nth_1, nth_2, nth_3, nth_4, nth_5, nth_6, nth_7, nth_8, nth_9, y_nil, y_int, y_bool, y_str, y_sl, y_nils, y_agg, y_ownp, y_own, z_nil, z_int, z_bool, z_str, z_sl, z_nils, b_nil, b_arr, b_box1, b_box2, b_box3, b_box4, List.map_cons, List.map_nil, Bool.and_self, Bool.and_true, Bool.true_and, Bool.not_true, Bool.not_false, Bool.or_false, Bool.false_or, cond_true, cond_false, okPack, okPut, okPutBlks, okPutCells, q_isP, q_isAg, q_isBox, q_isArr, q_int, q_bool, q_str, q_sl, q_nils, e_exit, e_ret, e_nrm, e_ret_exit, e_exit_ret, e_nrm_exit, e_nrm_ret, e_exit_nrm, e_ret_nrm, Nat.zero_add, Nat.reduceAdd, noslR, noslP, noslB, noslA, List.all_cons, List.all_nil]
  unfold Within
  cases hv : Valid x y with
  | false => rfl
  | true =>
    cases h0 : (px == 0 && py == 0) with
    | true => simp [ctl]
    | false =>
      cases hs : Small px py with
      | false => rfl
      | true =>
        have hs' := Small_iff.1 hs
        have h1 := mul_le (a := Cos x) (b := px) (m := 10000) (n := 1000000000) (Cos_le x) (by omega)
        have h2 := mul_le (a := Sin x) (b := py) (m := 10000) (n := 1000000000) (Sin_le x) (by omega)
        rw [w64 (n := Cos x * px) (by omega), w64 (n := Sin x * py) (by omega), w64 (n := Cos x * px + Sin x * py) (by omega)]
        simp [ctl]

def arcFrom (L : List Int) (k : Nat) : Int := vPick L k [0, 450, 800, 1350, 1800, 2600, 3500]
def arcTo (L : List Int) (k : Nat) : Int := (arcFrom L k + vPick L (at' L k) [0, 100, 300, 900, 1799]) % 3600

theorem arcFrom_in (L : List Int) (k : Nat) : arcFrom L k ∈ [0, 450, 800, 1350, 1800, 2600, 3500] := vPick_mem L k (by decide)
theorem arcWidth_in (L : List Int) (k : Nat) : vPick L k [0, 100, 300, 900, 1799] ∈ [0, 100, 300, 900, 1799] := vPick_mem L k (by decide)

theorem c_Arc {L : List Int} {k : Nat} (hL : L.length ≤ 600) (hk : k ≤ 600) :
    denC E 78 [AV.t (.ptr 0 0)] [src L k] = some ([RV.agg [PV.int .i64 (arcFrom L k), PV.int .i64 (arcTo L k)]], [src L (at' L (at' L k))]) := by
  rw [denC_eq]
  have e1 : denC E 49 [AV.t (.ptr 0 0), AV.sl 1 [[PV.int .i64 0], [PV.int .i64 450], [PV.int .i64 800], [PV.int .i64 1350], [PV.int .i64 1800], [PV.int .i64 2600], [PV.int .i64 3500]]] [src L k] = _ := c_Pick hL hk (l := [0, 450, 800, 1350, 1800, 2600, 3500]) (by decide)
  have e2 : denC E 49 [AV.t (.ptr 0 0), AV.sl 1 [[PV.int .i64 0], [PV.int .i64 100], [PV.int .i64 300], [PV.int .i64 900], [PV.int .i64 1799]]] [src L (at' L k)] = _ := c_Pick hL (at'_le hL hk) (l := [0, 100, 300, 900, 1799]) (by decide)
  have m1 := arcFrom_in L k
  have m2 := arcWidth_in L (at' L k)
  rw [r78]
  rw [e1]
  simp only [bnd_some, ctl_true, ctl_false, ctl_and, ctl_or', ctl_or2, x_toPV, x_toCs, x_toCs2, x_toEs, x_bEs, x_bCs, x_aPV, x_aCs, x_int, x_bool, x_str, x_es, x_esn, nth_0, nth_1, nth_2, nth_3, nth_4, nth_5, nth_6, nth_7, nth_8, nth_9, y_nil, y_int, y_bool, y_str, y_sl, y_nils, y_agg, y_ownp, y_own, z_nil, z_int, z_bool, z_str, z_sl, z_nils, b_nil, b_arr, b_box1, b_box2, b_box3, b_box4, List.map_cons, List.map_nil, Bool.and_self, Bool.and_true, Bool.true_and, Bool.not_true, Bool.not_false, Bool.or_false, Bool.false_or, cond_true, cond_false, okPack, okPut, okPutBlks, okPutCells, q_isP, q_isAg, q_isBox, q_isArr, q_int, q_bool, q_str, q_sl, q_nils, e_exit, e_ret, e_nrm, e_ret_exit, e_exit_ret, e_nrm_exit, e_nrm_ret, e_exit_nrm, e_ret_nrm, Nat.zero_add, Nat.reduceAdd, noslR, noslP, noslB, noslA, List.all_cons, List.all_nil]
  rw [e2]
  simp only [bnd_some, ctl_true, ctl_false, ctl_and, ctl_or', ctl_or2, x_toPV, x_toCs, x_toCs2, x_toEs, x_bEs, x_bCs, x_aPV, x_aCs, x_int, x_bool, x_str, x_es, x_esn, nth_0, nth_1, nth_2, nth_3, nth_4, nth_5, nth_6, nth_7, nth_8, nth_9, y_nil, y_int, y_bool, y_str, y_sl, y_nils, y_agg, y_ownp, y_own, z_nil, z_int, z_bool, z_str, z_sl, z_nils, b_nil, b_arr, b_box1, b_box2, b_box3, b_box4, List.map_cons, List.map_nil, Bool.and_self, Bool.and_true, Bool.true_and, Bool.not_true, Bool.not_false, Bool.or_false, Bool.false_or, cond_true, cond_false, okPack, okPut, okPutBlks, okPutCells, q_isP, q_isAg, q_isBox, q_isArr, q_int, q_bool, q_str, q_sl, q_nils, e_exit, e_ret, e_nrm, e_ret_exit, e_exit_ret, e_nrm_exit, e_nrm_ret, e_exit_nrm, e_ret_nrm, Nat.zero_add, Nat.reduceAdd, noslR, noslP, noslB, noslA, List.all_cons, List.all_nil]
  have hb : 0 ≤ arcFrom L k ∧ arcFrom L k ≤ 3500 := by
    simp only [List.mem_cons, List.not_mem_nil, or_false] at m1; omega
  have hb2 : 0 ≤ vPick L (at' L k) [0, 100, 300, 900, 1799] ∧ vPick L (at' L k) [0, 100, 300, 900, 1799] ≤ 1799 := by
    simp only [List.mem_cons, List.not_mem_nil, or_false] at m2; omega
  have e : vPick L k [0, 450, 800, 1350, 1800, 2600, 3500] = arcFrom L k := rfl
  rw [e, w64 (by omega), Int.tmod_eq_emod_of_nonneg (by omega)]
  rfl

end Go.Proofs.Ytcnjaffogkkpnaa.Vm
