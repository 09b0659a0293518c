/- The examples of the chapter, and laws that need no loop. -/
import Derived.Test.YtiagcaefhjibjaaStatusC
namespace Go.Proofs.Ytiagcaefhjibjaa.Vm
set_option linter.unusedVariables false
set_option linter.unusedSimpArgs false

theorem ints_loop : ∀ (a b p q : List Int), p.length = q.length → a.length = b.length → (p ++ a).length ≤ 1000000000000 →
    lp E (denC E) 22 0 [] 0 { vals := [AV.sl 1 (intsK .i64 (p ++ a)), AV.sl 1 (intsK .i64 (q ++ b)), AV.int .i64 ((p ++ a).length : Int), AV.int .i64 (p.length : Int)], blks := [] } =
      if a = b then some (Ex.exit 0, { vals := [], blks := [] }) else some (Ex.ret, { vals := [AV.bool false], blks := [] })
  | [], [], p, q, hpq, _, hl => by
    rw [r22_0, ctl_dec, if_neg (by simp)]
    rfl
  | x :: a, y :: b, p, q, hpq, hab, hl => by
    simp only [List.length_append, List.length_cons] at hl
    simp only [List.length_cons] at hab
    rw [r22_0, ctl_dec, if_pos (by simp; omega), getE_ints (by simp; omega), getE_ints (by simp; omega)]
    have hx : (p ++ x :: a).getD ((p.length : Int)).toNat 0 = x := by simp [List.getD]
    have hy : (q ++ y :: b).getD ((p.length : Int)).toNat 0 = y := by simp [List.getD, hpq]
    rw [hx, hy]
    simp only [bnd_some, ctl_true, ctl_false, ctl_and, ctl_or', ctl_or2, x_toPV, x_toCs, x_toCs2, x_toEs, x_bEs, x_bCs, x_aPV, x_aCs, x_int, x_bool, x_str, x_es, x_esn, nth_0, nth_1, nth_2, nth_3, nth_4, nth_5, nth_6, nth_7, nth_8, nth_9, y_nil, y_int, y_bool, y_str, y_sl, y_nils, y_agg, y_ownp, y_own, z_nil, z_int, z_bool, z_str, z_sl, z_nils, b_nil, b_arr, b_box1, b_box2, b_box3, b_box4, List.map_cons, List.map_nil, Bool.and_self, Bool.and_true, Bool.true_and, Bool.not_true, Bool.not_false, Bool.or_false, Bool.false_or, cond_true, cond_false, okPack, okPut, okPutBlks, okPutCells, q_isP, q_isAg, q_isBox, q_isArr, q_int, q_bool, q_str, q_sl, q_nils, e_exit, e_ret, e_nrm, e_ret_exit, e_exit_ret, e_nrm_exit, e_nrm_ret, e_exit_nrm, e_ret_nrm, Nat.zero_add, Nat.reduceAdd, noslR, noslP, noslB, noslA, List.all_cons, List.all_nil]
    by_cases h : x = y
    · have hz : (x != y) = false := by simp [h]
      rw [hz, ctl_false, w64 (by omega)]
      have ih := ints_loop a b (p ++ [x]) (q ++ [y]) (by simp [hpq]) (by omega) (by simp; omega)
      simp only [List.append_assoc, List.cons_append, List.nil_append, List.length_append, List.length_cons, List.length_nil] at ih
      simp only [List.length_append, List.length_cons]
      have e1 : ((p.length : Int) + 1) = ((p.length + (0 + 1) : Nat) : Int) := by omega
      rw [e1, ih]
      simp [h]
    · have hz : (x != y) = true := by simp [h]
      rw [hz, ctl_true]
      simp [h]
  | [], _ :: _, _, _, _, h, _ => by simp at h
  | _ :: _, [], _, _, _, h, _ => by simp at h

theorem c_Ints (a b : List Int) (ha : a.length ≤ 1000000000000) : denC E 22 [AV.sl 1 (intsK .i64 a), AV.sl 1 (intsK .i64 b)] [] = some ([RV.p (PV.bool (decide (a = b)))], []) := by
  rw [denC_eq, r22, intsK_length, intsK_length]
  by_cases h : a.length = b.length
  · have hz : ((a.length : Int) != (b.length : Int)) = false := by simp [h]
    rw [hz, ctl_false]
    have hl := ints_loop a b [] [] rfl h (by simpa using ha)
    simp only [List.nil_append, List.length_nil] at hl
    have e0 : (((0 : Nat)) : Int) = 0 := rfl
    rw [e0] at hl
    rw [hl]
    by_cases hab : a = b
    · rw [if_pos hab]
      simp only [bnd_some, ctl_true, ctl_false, ctl_and, ctl_or', ctl_or2, x_toPV, x_toCs, x_toCs2, x_toEs, x_bEs, x_bCs, x_aPV, x_aCs, x_int, x_bool, x_str, x_es, x_esn, nth_0, nth_1, nth_2, nth_3, nth_4, nth_5, nth_6, nth_7, nth_8, nth_9, y_nil, y_int, y_bool, y_str, y_sl, y_nils, y_agg, y_ownp, y_own, z_nil, z_int, z_bool, z_str, z_sl, z_nils, b_nil, b_arr, b_box1, b_box2, b_box3, b_box4, List.map_cons, List.map_nil, Bool.and_self, Bool.and_true, Bool.true_and, Bool.not_true, Bool.not_false, Bool.or_false, Bool.false_or, cond_true, cond_false, okPack, okPut, okPutBlks, okPutCells, q_isP, q_isAg, q_isBox, q_isArr, q_int, q_bool, q_str, q_sl, q_nils, e_exit, e_ret, e_nrm, e_ret_exit, e_exit_ret, e_nrm_exit, e_nrm_ret, e_exit_nrm, e_ret_nrm, Nat.zero_add, Nat.reduceAdd, noslR, noslP, noslB, noslA, List.all_cons, List.all_nil]
      simp [hab]
    · rw [if_neg hab]
      simp only [bnd_some, ctl_true, ctl_false, ctl_and, ctl_or', ctl_or2, x_toPV, x_toCs, x_toCs2, x_toEs, x_bEs, x_bCs, x_aPV, x_aCs, x_int, x_bool, x_str, x_es, x_esn, nth_0, nth_1, nth_2, nth_3, nth_4, nth_5, nth_6, nth_7, nth_8, nth_9, y_nil, y_int, y_bool, y_str, y_sl, y_nils, y_agg, y_ownp, y_own, z_nil, z_int, z_bool, z_str, z_sl, z_nils, b_nil, b_arr, b_box1, b_box2, b_box3, b_box4, List.map_cons, List.map_nil, Bool.and_self, Bool.and_true, Bool.true_and, Bool.not_true, Bool.not_false, Bool.or_false, Bool.false_or, cond_true, cond_false, okPack, okPut, okPutBlks, okPutCells, q_isP, q_isAg, q_isBox, q_isArr, q_int, q_bool, q_str, q_sl, q_nils, e_exit, e_ret, e_nrm, e_ret_exit, e_exit_ret, e_nrm_exit, e_nrm_ret, e_exit_nrm, e_ret_nrm, Nat.zero_add, Nat.reduceAdd, noslR, noslP, noslB, noslA, List.all_cons, List.all_nil]
      simp [hab]
  · have hz : ((a.length : Int) != (b.length : Int)) = true := by simp; omega
    rw [hz, ctl_true]
    have : a ≠ b := fun e => h (by rw [e])
    simp [this]

theorem c_sane : denC E 9 [] [] = some ([RV.p (PV.bool true)], []) := by
  rw [denC_eq, r9]
  have e1 : denC E 20 [AV.sl 1 [[PV.int .i64 3], [PV.int .i64 3], [PV.int .i64 3], [PV.int .i64 3], [PV.int .i64 3]], AV.int .i64 2] [] = _ := c_Run (L := [3, 3, 3, 3, 3]) 2 (by decide)
  have e2 : runR [3, 3, 3, 3, 3] 2 = ([1, 1, 2, 2, 3], 0) := by decide +kernel
  rw [e2] at e1
  simp only [if_true] at e1
  rw [e1]
  simp only [bnd_some, ctl_true, ctl_false, ctl_and, ctl_or', ctl_or2, x_toPV, x_toCs, x_toCs2, x_toEs, x_bEs, x_bCs, x_aPV, x_aCs, x_int, x_bool, x_str, x_es, x_esn, nth_0, nth_1, nth_2, nth_3, nth_4, nth_5, nth_6, nth_7, nth_8, nth_9, y_nil, y_int, y_bool, y_str, y_sl, y_nils, y_agg, y_ownp, y_own, z_nil, z_int, z_bool, z_str, z_sl, z_nils, b_nil, b_arr, b_box1, b_box2, b_box3, b_box4, List.map_cons, List.map_nil, Bool.and_self, Bool.and_true, Bool.true_and, Bool.not_true, Bool.not_false, Bool.or_false, Bool.false_or, cond_true, cond_false, okPack, okPut, okPutBlks, okPutCells, q_isP, q_isAg, q_isBox, q_isArr, q_int, q_bool, q_str, q_sl, q_nils, e_exit, e_ret, e_nrm, e_ret_exit, e_exit_ret, e_nrm_exit, e_nrm_ret, e_exit_nrm, e_ret_nrm, Nat.zero_add, Nat.reduceAdd, noslR, noslP, noslB, noslA, List.all_cons, List.all_nil]
  have e3 : denC E 22 [AV.sl 1 (intsK .i64 [1, 1, 2, 2, 3]), AV.sl 1 [[PV.int .i64 1], [PV.int .i64 1], [PV.int .i64 2], [PV.int .i64 2], [PV.int .i64 3]]] [] = _ := c_Ints [1, 1, 2, 2, 3] [1, 1, 2, 2, 3] (by decide)
  rw [e3]
  simp only [bnd_some, ctl_true, ctl_false, ctl_and, ctl_or', ctl_or2, x_toPV, x_toCs, x_toCs2, x_toEs, x_bEs, x_bCs, x_aPV, x_aCs, x_int, x_bool, x_str, x_es, x_esn, nth_0, nth_1, nth_2, nth_3, nth_4, nth_5, nth_6, nth_7, nth_8, nth_9, y_nil, y_int, y_bool, y_str, y_sl, y_nils, y_agg, y_ownp, y_own, z_nil, z_int, z_bool, z_str, z_sl, z_nils, b_nil, b_arr, b_box1, b_box2, b_box3, b_box4, List.map_cons, List.map_nil, Bool.and_self, Bool.and_true, Bool.true_and, Bool.not_true, Bool.not_false, Bool.or_false, Bool.false_or, cond_true, cond_false, okPack, okPut, okPutBlks, okPutCells, q_isP, q_isAg, q_isBox, q_isArr, q_int, q_bool, q_str, q_sl, q_nils, e_exit, e_ret, e_nrm, e_ret_exit, e_exit_ret, e_nrm_exit, e_nrm_ret, e_exit_nrm, e_ret_nrm, Nat.zero_add, Nat.reduceAdd, noslR, noslP, noslB, noslA, List.all_cons, List.all_nil, c_Judge, c_Enough]
  have k1 : (judge true true 1 2 == 3) = true := by decide +kernel
  have k2 : (judge true true 1 1 == 2) = true := by decide +kernel
  have k3 : (judge true true 0 2 == 1) = true := by decide +kernel
  rw [k1, k2, k3]
  rfl

theorem c_Estimate {L : List Int} {k : Nat} (hL : L.length ≤ 600) (hk : k ≤ 600) (time : Int) :
    denC E 23 [AV.t (.ptr 0 0), AV.int .i64 time] [src L k] =
      some ([RV.agg [PV.int .i64 (vPick L k [0, 300, -700, 5000]), PV.int .i64 (vPick L (at' L k) [0, 400, -100]), PV.int .i64 (vPick L (at' L (at' L k)) [0, 10, 100, 900]), PV.int .i64 time,
        PV.int .i64 (vPick L (at' L (at' L (at' L k))) [1, 1, 2, 0])]], [src L (at' L (at' L (at' L (at' L k))))]) := by
  rw [denC_eq, r23]
  have h1 := at'_le hL hk
  have h2 := at'_le hL h1
  have h3 := at'_le hL h2
  have e1 : denC E 31 [AV.t (.ptr 0 0), AV.sl 1 [[PV.int .i64 0], [PV.int .i64 300], [PV.int .i64 (-700)], [PV.int .i64 5000]]] [src L k] = _ := c_Pick hL hk (l := [0, 300, -700, 5000]) (by decide)
  have e2 : denC E 31 [AV.t (.ptr 0 0), AV.sl 1 [[PV.int .i64 0], [PV.int .i64 400], [PV.int .i64 (-100)]]] [src L (at' L k)] = _ := c_Pick hL h1 (l := [0, 400, -100]) (by decide)
  have e3 : denC E 31 [AV.t (.ptr 0 0), AV.sl 1 [[PV.int .i64 0], [PV.int .i64 10], [PV.int .i64 100], [PV.int .i64 900]]] [src L (at' L (at' L k))] = _ := c_Pick hL h2 (l := [0, 10, 100, 900]) (by decide)
  have e4 : denC E 31 [AV.t (.ptr 0 0), AV.sl 1 [[PV.int .i64 1], [PV.int .i64 1], [PV.int .i64 2], [PV.int .i64 0]]] [src L (at' L (at' L (at' L k)))] = _ := c_Pick hL h3 (l := [1, 1, 2, 0]) (by decide)
  rw [e1]
  simp only [bnd_some, ctl_true, ctl_false, ctl_and, ctl_or', ctl_or2, x_toPV, x_toCs, x_toCs2, x_toEs, x_bEs, x_bCs, x_aPV, x_aCs, x_int, x_bool, x_str, x_es, x_esn, nth_0, nth_1, nth_2, nth_3, nth_4, nth_5, nth_6, nth_7, nth_8, nth_9, y_nil, y_int, y_bool, y_str, y_sl, y_nils, y_agg, y_ownp, y_own, z_nil, z_int, z_bool, z_str, z_sl, z_nils, b_nil, b_arr, b_box1, b_box2, b_box3, b_box4, List.map_cons, List.map_nil, Bool.and_self, Bool.and_true, Bool.true_and, Bool.not_true, Bool.not_false, Bool.or_false, Bool.false_or, cond_true, cond_false, okPack, okPut, okPutBlks, okPutCells, q_isP, q_isAg, q_isBox, q_isArr, q_int, q_bool, q_str, q_sl, q_nils, e_exit, e_ret, e_nrm, e_ret_exit, e_exit_ret, e_nrm_exit, e_nrm_ret, e_exit_nrm, e_ret_nrm, Nat.zero_add, Nat.reduceAdd, noslR, noslP, noslB, noslA, List.all_cons, List.all_nil]
  rw [e2]
  simp only [bnd_some, ctl_true, ctl_false, ctl_and, ctl_or', ctl_or2, x_toPV, x_toCs, x_toCs2, x_toEs, x_bEs, x_bCs, x_aPV, x_aCs, x_int, x_bool, x_str, x_es, x_esn, nth_0, nth_1, nth_2, nth_3, nth_4, nth_5, nth_6, nth_7, nth_8, nth_9, y_nil, y_int, y_bool, y_str, y_sl, y_nils, y_agg, y_ownp, y_own, z_nil, z_int, z_bool, z_str, z_sl, z_nils, b_nil, b_arr, b_box1, b_box2, b_box3, b_box4, List.map_cons, List.map_nil, Bool.and_self, Bool.and_true, Bool.true_and, Bool.not_true, Bool.not_false, Bool.or_false, Bool.false_or, cond_true, cond_false, okPack, okPut, okPutBlks, okPutCells, q_isP, q_isAg, q_isBox, q_isArr, q_int, q_bool, q_str, q_sl, q_nils, e_exit, e_ret, e_nrm, e_ret_exit, e_exit_ret, e_nrm_exit, e_nrm_ret, e_exit_nrm, e_ret_nrm, Nat.zero_add, Nat.reduceAdd, noslR, noslP, noslB, noslA, List.all_cons, List.all_nil]
  rw [e3]
  simp only [bnd_some, ctl_true, ctl_false, ctl_and, ctl_or', ctl_or2, x_toPV, x_toCs, x_toCs2, x_toEs, x_bEs, x_bCs, x_aPV, x_aCs, x_int, x_bool, x_str, x_es, x_esn, nth_0, nth_1, nth_2, nth_3, nth_4, nth_5, nth_6, nth_7, nth_8, nth_9, y_nil, y_int, y_bool, y_str, y_sl, y_nils, y_agg, y_ownp, y_own, z_nil, z_int, z_bool, z_str, z_sl, z_nils, b_nil, b_arr, b_box1, b_box2, b_box3, b_box4, List.map_cons, List.map_nil, Bool.and_self, Bool.and_true, Bool.true_and, Bool.not_true, Bool.not_false, Bool.or_false, Bool.false_or, cond_true, cond_false, okPack, okPut, okPutBlks, okPutCells, q_isP, q_isAg, q_isBox, q_isArr, q_int, q_bool, q_str, q_sl, q_nils, e_exit, e_ret, e_nrm, e_ret_exit, e_exit_ret, e_nrm_exit, e_nrm_ret, e_exit_nrm, e_ret_nrm, Nat.zero_add, Nat.reduceAdd, noslR, noslP, noslB, noslA, List.all_cons, List.all_nil]
  rw [e4]
  simp only [bnd_some, ctl_true, ctl_false, ctl_and, ctl_or', ctl_or2, x_toPV, x_toCs, x_toCs2, x_toEs, x_bEs, x_bCs, x_aPV, x_aCs, x_int, x_bool, x_str, x_es, x_esn, nth_0, nth_1, nth_2, nth_3, nth_4, nth_5, nth_6, nth_7, nth_8, nth_9, y_nil, y_int, y_bool, y_str, y_sl, y_nils, y_agg, y_ownp, y_own, z_nil, z_int, z_bool, z_str, z_sl, z_nils, b_nil, b_arr, b_box1, b_box2, b_box3, b_box4, List.map_cons, List.map_nil, Bool.and_self, Bool.and_true, Bool.true_and, Bool.not_true, Bool.not_false, Bool.or_false, Bool.false_or, cond_true, cond_false, okPack, okPut, okPutBlks, okPutCells, q_isP, q_isAg, q_isBox, q_isArr, q_int, q_bool, q_str, q_sl, q_nils, e_exit, e_ret, e_nrm, e_ret_exit, e_exit_ret, e_nrm_exit, e_nrm_ret, e_exit_nrm, e_ret_nrm, Nat.zero_add, Nat.reduceAdd, noslR, noslP, noslB, noslA, List.all_cons, List.all_nil]

theorem d_StatusJudges (t : List Int) (_ : t.length ≤ maxLen) (_ : ∀ n ∈ t, -9223372036854775808 ≤ n ∧ n ≤ 9223372036854775807) (c : Int) (hc : 0 ≤ c ∧ c ≤ 255) :
    denC E 8 [AV.sl 1 (intsK .i64 t), AV.int .u8 c] [] = some ([RV.p (PV.bool true)], []) := by
  rw [denC_eq, r8, intsK_length, ctl_dec]
  by_cases ht : 600 < (t.length : Int)
  · rw [if_pos ht, c_sane]
    simp only [bnd_some, ctl_true, ctl_false, ctl_and, ctl_or', ctl_or2, x_toPV, x_toCs, x_toCs2, x_toEs, x_bEs, x_bCs, x_aPV, x_aCs, x_int, x_bool, x_str, x_es, x_esn, nth_0, nth_1, nth_2, nth_3, nth_4, nth_5, nth_6, nth_7, nth_8, nth_9, y_nil, y_int, y_bool, y_str, y_sl, y_nils, y_agg, y_ownp, y_own, z_nil, z_int, z_bool, z_str, z_sl, z_nils, b_nil, b_arr, b_box1, b_box2, b_box3, b_box4, List.map_cons, List.map_nil, Bool.and_self, Bool.and_true, Bool.true_and, Bool.not_true, Bool.not_false, Bool.or_false, Bool.false_or, cond_true, cond_false, okPack, okPut, okPutBlks, okPutCells, q_isP, q_isAg, q_isBox, q_isArr, q_int, q_bool, q_str, q_sl, q_nils, e_exit, e_ret, e_nrm, e_ret_exit, e_exit_ret, e_nrm_exit, e_nrm_ret, e_exit_nrm, e_ret_nrm, Nat.zero_add, Nat.reduceAdd, noslR, noslP, noslB, noslA, List.all_cons, List.all_nil]
  · rw [if_neg ht, c_New]
    simp only [bnd_some, ctl_true, ctl_false, ctl_and, ctl_or', ctl_or2, x_toPV, x_toCs, x_toCs2, x_toEs, x_bEs, x_bCs, x_aPV, x_aCs, x_int, x_bool, x_str, x_es, x_esn, nth_0, nth_1, nth_2, nth_3, nth_4, nth_5, nth_6, nth_7, nth_8, nth_9, y_nil, y_int, y_bool, y_str, y_sl, y_nils, y_agg, y_ownp, y_own, z_nil, z_int, z_bool, z_str, z_sl, z_nils, b_nil, b_arr, b_box1, b_box2, b_box3, b_box4, List.map_cons, List.map_nil, Bool.and_self, Bool.and_true, Bool.true_and, Bool.not_true, Bool.not_false, Bool.or_false, Bool.false_or, cond_true, cond_false, okPack, okPut, okPutBlks, okPutCells, q_isP, q_isAg, q_isBox, q_isArr, q_int, q_bool, q_str, q_sl, q_nils, e_exit, e_ret, e_nrm, e_ret_exit, e_exit_ret, e_nrm_exit, e_nrm_ret, e_exit_nrm, e_ret_nrm, Nat.zero_add, Nat.reduceAdd, noslR, noslP, noslB, noslA, List.all_cons, List.all_nil]
    rw [src_zero, c_Estimate (by rw [List.length_take]; omega) (by omega)]
    simp only [bnd_some, ctl_true, ctl_false, ctl_and, ctl_or', ctl_or2, x_toPV, x_toCs, x_toCs2, x_toEs, x_bEs, x_bCs, x_aPV, x_aCs, x_int, x_bool, x_str, x_es, x_esn, nth_0, nth_1, nth_2, nth_3, nth_4, nth_5, nth_6, nth_7, nth_8, nth_9, y_nil, y_int, y_bool, y_str, y_sl, y_nils, y_agg, y_ownp, y_own, z_nil, z_int, z_bool, z_str, z_sl, z_nils, b_nil, b_arr, b_box1, b_box2, b_box3, b_box4, List.map_cons, List.map_nil, Bool.and_self, Bool.and_true, Bool.true_and, Bool.not_true, Bool.not_false, Bool.or_false, Bool.false_or, cond_true, cond_false, okPack, okPut, okPutBlks, okPutCells, q_isP, q_isAg, q_isBox, q_isArr, q_int, q_bool, q_str, q_sl, q_nils, e_exit, e_ret, e_nrm, e_ret_exit, e_exit_ret, e_nrm_exit, e_nrm_ret, e_exit_nrm, e_ret_nrm, Nat.zero_add, Nat.reduceAdd, noslR, noslP, noslB, noslA, List.all_cons, List.all_nil, c_Judge, c_sane]
    generalize vPick (t.take 600) _ [1, 1, 2, 0] = s
    rw [w64 (n := c) (by omega), w64 (n := c + 1) (by omega)]
    have key : (judge false true s c == 1 && (s == 1) == ltB 1 (judge true true s c) && leB (judge true false s c) (judge true true s c) && ltB (judge true false s c) 3 && leB (judge true true s c) (judge true true s (c + 1))) = true := by
      unfold judge
      by_cases hs : s = 1
      · subst hs
        by_cases h2 : 2 ≤ c
        · have h3 : leB 2 c = true := by simpa using h2
          have h4 : leB 2 (c + 1) = true := by simp; omega
          simp [h3, h4]
        · have h3 : leB 2 c = false := by simp; omega
          cases h4 : leB 2 (c + 1) <;> simp [h3]
      · have h1 : (s != 1) = true := by simpa using hs
        have h2 : (s == 1) = false := by simpa using hs
        simp [h1, h2]
    rw [key]

theorem nextF_stay {c time judged delay : Int} (hc : 1 ≤ c ∧ c ≤ 3) (ht : 0 ≤ time ∧ time ≤ 100) (hj : 1 ≤ judged ∧ judged ≤ c) (hd : 0 ≤ delay ∧ delay ≤ 600) : nextF c (-1) time judged delay = (judged, -1, 0) := by
  have h1 : (!VC c (-1) time || !Lev judged) = false := by
    have a1 : VC c (-1) time = true := VC_iff.2 (by omega)
    have a2 : Lev judged = true := Lev_iff.2 (by omega)
    rw [a1, a2]; rfl
  have h2 : (ltB time 0 || ltB 2147483648 time || ltB delay 0 || ltB 600 delay) = false := by
    simp only [Bool.or_eq_false_iff, decide_eq_false_iff_not]; omega
  unfold nextF
  rw [h1, h2]
  simp only [Bool.false_eq_true, if_false]
  rw [if_neg (by omega)]

theorem nextF_wait {c time judged delay : Int} (hc : 1 ≤ c ∧ c ≤ 3) (ht : 0 ≤ time ∧ time ≤ 100) (hj : c < judged ∧ judged ≤ 3) (hd : 1 ≤ delay ∧ delay ≤ 600) : nextF c (-1) time judged delay = (c, time, 0) := by
  have h1 : (!VC c (-1) time || !Lev judged) = false := by
    have a1 : VC c (-1) time = true := VC_iff.2 (by omega)
    have a2 : Lev judged = true := Lev_iff.2 (by omega)
    rw [a1, a2]; rfl
  have h2 : (ltB time 0 || ltB 2147483648 time || ltB delay 0 || ltB 600 delay) = false := by
    simp only [Bool.or_eq_false_iff, decide_eq_false_iff_not]; omega
  unfold nextF
  rw [h1, h2]
  simp only [Bool.false_eq_true, if_false, if_true]
  rw [if_pos (by omega), if_pos (by omega)]

theorem d_StatusStays (t : List Int) (_ : t.length ≤ maxLen) (_ : ∀ n ∈ t, -9223372036854775808 ≤ n ∧ n ≤ 9223372036854775807) :
    denC E 7 [AV.sl 1 (intsK .i64 t)] [] = some ([RV.p (PV.bool true)], []) := by
  rw [denC_eq, r7, intsK_length, ctl_dec]
  by_cases ht : 600 < (t.length : Int)
  · rw [if_pos ht, c_sane]
    simp only [bnd_some, ctl_true, ctl_false, ctl_and, ctl_or', ctl_or2, x_toPV, x_toCs, x_toCs2, x_toEs, x_bEs, x_bCs, x_aPV, x_aCs, x_int, x_bool, x_str, x_es, x_esn, nth_0, nth_1, nth_2, nth_3, nth_4, nth_5, nth_6, nth_7, nth_8, nth_9, y_nil, y_int, y_bool, y_str, y_sl, y_nils, y_agg, y_ownp, y_own, z_nil, z_int, z_bool, z_str, z_sl, z_nils, b_nil, b_arr, b_box1, b_box2, b_box3, b_box4, List.map_cons, List.map_nil, Bool.and_self, Bool.and_true, Bool.true_and, Bool.not_true, Bool.not_false, Bool.or_false, Bool.false_or, cond_true, cond_false, okPack, okPut, okPutBlks, okPutCells, q_isP, q_isAg, q_isBox, q_isArr, q_int, q_bool, q_str, q_sl, q_nils, e_exit, e_ret, e_nrm, e_ret_exit, e_exit_ret, e_nrm_exit, e_nrm_ret, e_exit_nrm, e_ret_nrm, Nat.zero_add, Nat.reduceAdd, noslR, noslP, noslB, noslA, List.all_cons, List.all_nil]
  · rw [if_neg ht, c_New]
    have hL : (t.take 600).length ≤ 600 := by rw [List.length_take]; omega
    have h1 := at'_le hL (Nat.zero_le 600)
    have h2 := at'_le hL h1
    simp only [bnd_some, ctl_true, ctl_false, ctl_and, ctl_or', ctl_or2, x_toPV, x_toCs, x_toCs2, x_toEs, x_bEs, x_bCs, x_aPV, x_aCs, x_int, x_bool, x_str, x_es, x_esn, nth_0, nth_1, nth_2, nth_3, nth_4, nth_5, nth_6, nth_7, nth_8, nth_9, y_nil, y_int, y_bool, y_str, y_sl, y_nils, y_agg, y_ownp, y_own, z_nil, z_int, z_bool, z_str, z_sl, z_nils, b_nil, b_arr, b_box1, b_box2, b_box3, b_box4, List.map_cons, List.map_nil, Bool.and_self, Bool.and_true, Bool.true_and, Bool.not_true, Bool.not_false, Bool.or_false, Bool.false_or, cond_true, cond_false, okPack, okPut, okPutBlks, okPutCells, q_isP, q_isAg, q_isBox, q_isArr, q_int, q_bool, q_str, q_sl, q_nils, e_exit, e_ret, e_nrm, e_ret_exit, e_exit_ret, e_nrm_exit, e_nrm_ret, e_exit_nrm, e_ret_nrm, Nat.zero_add, Nat.reduceAdd, noslR, noslP, noslB, noslA, List.all_cons, List.all_nil]
    rw [src_zero, c_Range hL (by omega) (by omega)]
    simp only [bnd_some, ctl_true, ctl_false, ctl_and, ctl_or', ctl_or2, x_toPV, x_toCs, x_toCs2, x_toEs, x_bEs, x_bCs, x_aPV, x_aCs, x_int, x_bool, x_str, x_es, x_esn, nth_0, nth_1, nth_2, nth_3, nth_4, nth_5, nth_6, nth_7, nth_8, nth_9, y_nil, y_int, y_bool, y_str, y_sl, y_nils, y_agg, y_ownp, y_own, z_nil, z_int, z_bool, z_str, z_sl, z_nils, b_nil, b_arr, b_box1, b_box2, b_box3, b_box4, List.map_cons, List.map_nil, Bool.and_self, Bool.and_true, Bool.true_and, Bool.not_true, Bool.not_false, Bool.or_false, Bool.false_or, cond_true, cond_false, okPack, okPut, okPutBlks, okPutCells, q_isP, q_isAg, q_isBox, q_isArr, q_int, q_bool, q_str, q_sl, q_nils, e_exit, e_ret, e_nrm, e_ret_exit, e_exit_ret, e_nrm_exit, e_nrm_ret, e_exit_nrm, e_ret_nrm, Nat.zero_add, Nat.reduceAdd, noslR, noslP, noslB, noslA, List.all_cons, List.all_nil]
    rw [c_N hL h1 _ (by omega)]
    simp only [bnd_some, ctl_true, ctl_false, ctl_and, ctl_or', ctl_or2, x_toPV, x_toCs, x_toCs2, x_toEs, x_bEs, x_bCs, x_aPV, x_aCs, x_int, x_bool, x_str, x_es, x_esn, nth_0, nth_1, nth_2, nth_3, nth_4, nth_5, nth_6, nth_7, nth_8, nth_9, y_nil, y_int, y_bool, y_str, y_sl, y_nils, y_agg, y_ownp, y_own, z_nil, z_int, z_bool, z_str, z_sl, z_nils, b_nil, b_arr, b_box1, b_box2, b_box3, b_box4, List.map_cons, List.map_nil, Bool.and_self, Bool.and_true, Bool.true_and, Bool.not_true, Bool.not_false, Bool.or_false, Bool.false_or, cond_true, cond_false, okPack, okPut, okPutBlks, okPutCells, q_isP, q_isAg, q_isBox, q_isArr, q_int, q_bool, q_str, q_sl, q_nils, e_exit, e_ret, e_nrm, e_ret_exit, e_exit_ret, e_nrm_exit, e_nrm_ret, e_exit_nrm, e_ret_nrm, Nat.zero_add, Nat.reduceAdd, noslR, noslP, noslB, noslA, List.all_cons, List.all_nil]
    rw [c_N hL h2 _ (by omega)]
    simp only [bnd_some, ctl_true, ctl_false, ctl_and, ctl_or', ctl_or2, x_toPV, x_toCs, x_toCs2, x_toEs, x_bEs, x_bCs, x_aPV, x_aCs, x_int, x_bool, x_str, x_es, x_esn, nth_0, nth_1, nth_2, nth_3, nth_4, nth_5, nth_6, nth_7, nth_8, nth_9, y_nil, y_int, y_bool, y_str, y_sl, y_nils, y_agg, y_ownp, y_own, z_nil, z_int, z_bool, z_str, z_sl, z_nils, b_nil, b_arr, b_box1, b_box2, b_box3, b_box4, List.map_cons, List.map_nil, Bool.and_self, Bool.and_true, Bool.true_and, Bool.not_true, Bool.not_false, Bool.or_false, Bool.false_or, cond_true, cond_false, okPack, okPut, okPutBlks, okPutCells, q_isP, q_isAg, q_isBox, q_isArr, q_int, q_bool, q_str, q_sl, q_nils, e_exit, e_ret, e_nrm, e_ret_exit, e_exit_ret, e_nrm_exit, e_nrm_ret, e_exit_nrm, e_ret_nrm, Nat.zero_add, Nat.reduceAdd, noslR, noslP, noslB, noslA, List.all_cons, List.all_nil]
    have b1 := vRange_bounds (L := t.take 600) (k := 0) (lo := 1) (hi := 3) (by omega)
    have b2 := vN_bounds (L := t.take 600) (k := at' (t.take 600) 0) (n := 50) (by omega)
    have b3 := vN_bounds (L := t.take 600) (k := at' (t.take 600) (at' (t.take 600) 0)) (n := 9) (by omega)
    generalize vRange (t.take 600) 0 1 3 = c at *
    generalize vN (t.take 600) (at' (t.take 600) 0) 50 = time at *
    generalize vN (t.take 600) (at' (t.take 600) (at' (t.take 600) 0)) 9 = d at *
    rw [w64 (n := 1 + d) (by omega), w64 (n := time + 1) (by omega)]
    simp only [c_Next, bnd_some, ctl_true, ctl_false, ctl_and, ctl_or', ctl_or2, x_toPV, x_toCs, x_toCs2, x_toEs, x_bEs, x_bCs, x_aPV, x_aCs, x_int, x_bool, x_str, x_es, x_esn, nth_0, nth_1, nth_2, nth_3, nth_4, nth_5, nth_6, nth_7, nth_8, nth_9, y_nil, y_int, y_bool, y_str, y_sl, y_nils, y_agg, y_ownp, y_own, z_nil, z_int, z_bool, z_str, z_sl, z_nils, b_nil, b_arr, b_box1, b_box2, b_box3, b_box4, List.map_cons, List.map_nil, Bool.and_self, Bool.and_true, Bool.true_and, Bool.not_true, Bool.not_false, Bool.or_false, Bool.false_or, cond_true, cond_false, okPack, okPut, okPutBlks, okPutCells, q_isP, q_isAg, q_isBox, q_isArr, q_int, q_bool, q_str, q_sl, q_nils, e_exit, e_ret, e_nrm, e_ret_exit, e_exit_ret, e_nrm_exit, e_nrm_ret, e_exit_nrm, e_ret_nrm, Nat.zero_add, Nat.reduceAdd, noslR, noslP, noslB, noslA, List.all_cons, List.all_nil, c_sane]
    rw [nextF_stay (c := c) (judged := c) (by omega) (by omega) (by omega) (by omega), nextF_stay (c := c) (judged := 1) (by omega) (by omega) (by omega) (by omega)]
    simp only []
    rw [nextF_wait (by omega) (by omega) (by omega) (by omega)]
    simp [ctl]

end Go.Proofs.Ytiagcaefhjibjaa.Vm
