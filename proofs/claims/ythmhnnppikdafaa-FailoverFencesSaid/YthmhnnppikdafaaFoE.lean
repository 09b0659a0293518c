/- Chapter 33: contracts: each controller changed. -/
import Derived.Test.YthmhnnppikdafaaFoD
namespace Go.Proofs.Ythmhnnppikdafaa.Vm
set_option linter.unusedVariables false
set_option linter.unusedSimpArgs false

theorem iT_1 (v) : isArrT 1 (.arr 1 v) = true := rfl
theorem iT_3 (v) : isArrT 3 (.arr 3 v) = true := rfl
theorem iT_f1 (v) : isArrT 1000002 (.tab false 1 v) = true := rfl
theorem iT_m0 (v) : isArrT 1000001 (.tab true 0 v) = true := rfl
theorem iT_m1 (v) : isArrT 1000003 (.tab true 1 v) = true := rfl

theorem c_clone3 {l : List Ct} (h1 : 1 ≤ l.length) (h5 : l.length ≤ 1000) : denC E 38 [AV.sl 3 (ctrs l)] [] = some ([RV.own 3 (ctrs l)], []) := by
  cases l with
  | nil => cases h1
  | cons c l =>
    have e : ctrs (c :: l) = ctr c :: ctrs l := rfl
    have h2 : leN ((0 + (ctr c :: ctrs l).length) * 24) 140737488355328 = true := by
      simp only [List.length_cons] at h5
      rw [List.length_cons, ctrs_length]; simp only [decide_eq_true_eq]; omega
    rw [e, denC_eq, r38c, h2]
    rfl
theorem c_clone1 {l : List Nat} (h1 : 1 ≤ l.length) (h5 : l.length ≤ 1000) : denC E 53 [AV.sl 1 (ns l)] [] = some ([RV.own 1 (ns l)], []) := by
  cases l with
  | nil => cases h1
  | cons c l =>
    have e : ns (c :: l) = [PV.int .i64 (c : Int)] :: ns l := rfl
    have h2 : leN ((0 + ([PV.int .i64 (c : Int)] :: ns l).length) * 8) 140737488355328 = true := by
      simp only [List.length_cons] at h5
      rw [List.length_cons, ns_length]; simp only [decide_eq_true_eq]; omega
    rw [e, denC_eq, r53c, h2]
    rfl

theorem drop_gt {l : List Ct} {k : Nat} (hk : k < l.length) : l.drop k = gt l k :: l.drop (k + 1) := by
  rw [List.drop_eq_getElem_cons hk]
  simp [gt, List.getD, hk]
theorem each_set {l D : List Ct} {k : Nat} (hk : k < l.length) (hD : D.length = k) (v : Ct) : (D ++ l.drop k).set k v = (D ++ [v]) ++ l.drop (k + 1) := by
  rw [drop_gt hk, List.set_append_right _ _ (by omega), hD]
  simp
theorem each_skip {l D : List Ct} {k : Nat} (hk : k < l.length) : D ++ l.drop k = (D ++ [gt l k]) ++ l.drop (k + 1) := by
  rw [drop_gt hk]; simp

theorem each_l {l : List Ct} {R : List (List Bool)} (hS : Sq l R) : ∀ (m k : Nat) (D : List Ct), k + m = l.length → D.length = k →
    lp E (denC E) 28 0 [AV.undef, AV.bnd 29 [PV.sl 3 (ctrs l), PV.sl 1 (rch R)]] 0 { vals := [AV.sl 3 (ctrs l), AV.int .i64 l.length, AV.int .i64 k], blks := [bpt l R, Blk.box [AV.sl 3 [], AV.sl 1 []], Blk.box [AV.t (.hsl 3), AV.sl 1 (rch R)], Blk.arr 3 (ctrs (D ++ l.drop k))] } =
      some (Ex.exit 0, { vals := [], blks := [Blk.box [AV.sl 3 [], AV.sl 1 []], Blk.box [AV.t (.hsl 2), AV.sl 1 (rch R)], Blk.arr 3 (ctrs (D ++ (List.range' k m).map (eachC l (learnC l R))))] }) := by
  have h5 := hS.n5
  intro m
  induction m with
  | zero =>
    intro k D hk hD
    rw [r28_0l, ctl_dec, if_neg (by omega), List.drop_eq_nil_of_le (by omega)]
    simp
  | succ m ih =>
    intro k D hk hD
    have hkl : k < l.length := by omega
    have hin : (leB 0 (k : Int) && ltB (k : Int) ((ctrs (D ++ l.drop k)).length : Int)) = true := by
      rw [ctrs_length]; exact in_len (by simp; omega)
    rw [r28_0l, ctl_dec, if_pos (by omega), getE_ctrs hkl]
    simp only [bnd_some, ctl_true, ctl_false, ctl_and, ctl_or', ctl_or2, x_toPV, x_toCs, x_toCs2, x_toEs, x_bEs, x_bCs, x_aPV, x_aCs, x_int, x_bool, x_str, x_es, x_esn, nth_0, nth_1, nth_2, nth_3, nth_4, nth_5, nth_6, nth_7, nth_8, nth_9, y_nil, y_int, y_bool, y_str, y_sl, y_nils, y_agg, y_ownp, y_own, z_nil, z_int, z_bool, z_str, z_sl, z_nils, b_nil, b_arr, b_box1, b_box2, b_box3, b_box4, List.map_cons, List.map_nil, Bool.and_self, Bool.and_true, Bool.true_and, Bool.not_true, Bool.not_false, Bool.or_false, Bool.false_or, cond_true, cond_false, okPack, okPut, okPutBlks, okPutCells, q_isP, q_isAg, q_isBox, q_isArr, q_int, q_bool, q_str, q_sl, q_nils, e_exit, e_ret, e_nrm, e_ret_exit, e_exit_ret, e_nrm_exit, e_nrm_ret, e_exit_nrm, e_ret_nrm, Nat.zero_add, Nat.reduceAdd, noslR, noslP, noslB, noslA, List.all_cons, List.all_nil]
    rw [c_up hkl, w64 (n := (k : Int) + 1) (by omega), succ_cast, hin, eqAV_self, c_learn hS hkl (gt l k)]
    simp only [bnd_some, ctl_true, ctl_false, ctl_and, ctl_or', ctl_or2, x_toPV, x_toCs, x_toCs2, x_toEs, x_bEs, x_bCs, x_aPV, x_aCs, x_int, x_bool, x_str, x_es, x_esn, nth_0, nth_1, nth_2, nth_3, nth_4, nth_5, nth_6, nth_7, nth_8, nth_9, y_nil, y_int, y_bool, y_str, y_sl, y_nils, y_agg, y_ownp, y_own, z_nil, z_int, z_bool, z_str, z_sl, z_nils, b_nil, b_arr, b_box1, b_box2, b_box3, b_box4, List.map_cons, List.map_nil, Bool.and_self, Bool.and_true, Bool.true_and, Bool.not_true, Bool.not_false, Bool.or_false, Bool.false_or, cond_true, cond_false, okPack, okPut, okPutBlks, okPutCells, q_isP, q_isAg, q_isBox, q_isArr, q_int, q_bool, q_str, q_sl, q_nils, e_exit, e_ret, e_nrm, e_ret_exit, e_exit_ret, e_nrm_exit, e_nrm_ret, e_exit_nrm, e_ret_nrm, Nat.zero_add, Nat.reduceAdd, noslR, noslP, noslB, noslA, List.all_cons, List.all_nil]
    rw [Int.toNat_natCast, setEs_0 (by simp; omega), each_set hkl hD, List.range'_succ, List.map_cons]
    unfold eachC
    cases hu : upB l k with
    | true =>
      rw [ctl_true, if_pos rfl, ih (k + 1) _ (by omega) (by simp; omega)]
      simp only [List.append_assoc, List.singleton_append]
      rfl
    | false =>
      rw [ctl_false, if_neg (by simp), each_skip hkl, ih (k + 1) _ (by omega) (by simp; omega)]
      simp only [List.append_assoc, List.singleton_append]
      rfl

theorem c_each_l {l : List Ct} {R : List (List Bool)} (hS : Sq l R) : denC E 28 [pty l R, AV.bnd 29 [PV.sl 3 (ctrs l), PV.sl 1 (rch R)]] [] = some ([RV.agg [PV.sl 3 (ctrs (eachL l (learnC l R))), PV.sl 1 (rch R)]], []) := by
  have h1 := hS.n1
  have h5 := hS.n5
  have h := each_l hS l.length 0 [] (by omega) rfl
  rw [nc0, List.nil_append, List.drop_zero] at h
  rw [denC_eq, r28l, c_clone3 h1 (by omega)]
  simp only [bnd_some, ctl_true, ctl_false, ctl_and, ctl_or', ctl_or2, x_toPV, x_toCs, x_toCs2, x_toEs, x_bEs, x_bCs, x_aPV, x_aCs, x_int, x_bool, x_str, x_es, x_esn, nth_0, nth_1, nth_2, nth_3, nth_4, nth_5, nth_6, nth_7, nth_8, nth_9, y_nil, y_int, y_bool, y_str, y_sl, y_nils, y_agg, y_ownp, y_own, z_nil, z_int, z_bool, z_str, z_sl, z_nils, b_nil, b_arr, b_box1, b_box2, b_box3, b_box4, List.map_cons, List.map_nil, Bool.and_self, Bool.and_true, Bool.true_and, Bool.not_true, Bool.not_false, Bool.or_false, Bool.false_or, cond_true, cond_false, okPack, okPut, okPutBlks, okPutCells, q_isP, q_isAg, q_isBox, q_isArr, q_int, q_bool, q_str, q_sl, q_nils, e_exit, e_ret, e_nrm, e_ret_exit, e_exit_ret, e_nrm_exit, e_nrm_ret, e_exit_nrm, e_ret_nrm, Nat.zero_add, Nat.reduceAdd, noslR, noslP, noslB, noslA, List.all_cons, List.all_nil]
  rw [ctrs_length, eqAV_self, ctl_true, h]
  simp only [bnd_some, ctl_true, ctl_false, ctl_and, ctl_or', ctl_or2, x_toPV, x_toCs, x_toCs2, x_toEs, x_bEs, x_bCs, x_aPV, x_aCs, x_int, x_bool, x_str, x_es, x_esn, nth_0, nth_1, nth_2, nth_3, nth_4, nth_5, nth_6, nth_7, nth_8, nth_9, y_nil, y_int, y_bool, y_str, y_sl, y_nils, y_agg, y_ownp, y_own, z_nil, z_int, z_bool, z_str, z_sl, z_nils, b_nil, b_arr, b_box1, b_box2, b_box3, b_box4, List.map_cons, List.map_nil, Bool.and_self, Bool.and_true, Bool.true_and, Bool.not_true, Bool.not_false, Bool.or_false, Bool.false_or, cond_true, cond_false, okPack, okPut, okPutBlks, okPutCells, q_isP, q_isAg, q_isBox, q_isArr, q_int, q_bool, q_str, q_sl, q_nils, e_exit, e_ret, e_nrm, e_ret_exit, e_exit_ret, e_nrm_exit, e_nrm_ret, e_exit_nrm, e_ret_nrm, Nat.zero_add, Nat.reduceAdd, noslR, noslP, noslB, noslA, List.all_cons, List.all_nil, List.nil_append]
  rfl

theorem each_y {l b : List Ct} {R : List (List Bool)} (hS : Sq l R) (hb : b.length = l.length) : ∀ (m k : Nat) (D : List Ct), k + m = l.length → D.length = k →
    lp E (denC E) 28 2 [AV.undef, AV.fn 42 [.ptr 0 0, .ptr 1 0]] 0 { vals := [AV.sl 3 (ctrs l), AV.int .i64 l.length, AV.int .i64 k], blks := [bpt l R, bpt b R, bpt l R, Blk.box [AV.sl 3 [], AV.sl 1 []], Blk.box [AV.t (.hsl 5), AV.sl 1 (rch R)], Blk.arr 3 (ctrs (D ++ l.drop k))] } =
      some (Ex.exit 0, { vals := [], blks := [bpt l R, bpt b R, Blk.box [AV.sl 3 [], AV.sl 1 []], Blk.box [AV.t (.hsl 4), AV.sl 1 (rch R)], Blk.arr 3 (ctrs (D ++ (List.range' k m).map (eachC l (yieldC l R b))))] }) := by
  have h5 := hS.n5
  intro m
  induction m with
  | zero =>
    intro k D hk hD
    rw [r28_0y, ctl_dec, if_neg (by omega), List.drop_eq_nil_of_le (by omega)]
    simp
  | succ m ih =>
    intro k D hk hD
    have hkl : k < l.length := by omega
    have hin : (leB 0 (k : Int) && ltB (k : Int) ((ctrs (D ++ l.drop k)).length : Int)) = true := by
      rw [ctrs_length]; exact in_len (by simp; omega)
    rw [r28_0y, ctl_dec, if_pos (by omega), getE_ctrs hkl]
    simp only [bnd_some, ctl_true, ctl_false, ctl_and, ctl_or', ctl_or2, x_toPV, x_toCs, x_toCs2, x_toEs, x_bEs, x_bCs, x_aPV, x_aCs, x_int, x_bool, x_str, x_es, x_esn, nth_0, nth_1, nth_2, nth_3, nth_4, nth_5, nth_6, nth_7, nth_8, nth_9, y_nil, y_int, y_bool, y_str, y_sl, y_nils, y_agg, y_ownp, y_own, z_nil, z_int, z_bool, z_str, z_sl, z_nils, b_nil, b_arr, b_box1, b_box2, b_box3, b_box4, List.map_cons, List.map_nil, Bool.and_self, Bool.and_true, Bool.true_and, Bool.not_true, Bool.not_false, Bool.or_false, Bool.false_or, cond_true, cond_false, okPack, okPut, okPutBlks, okPutCells, q_isP, q_isAg, q_isBox, q_isArr, q_int, q_bool, q_str, q_sl, q_nils, e_exit, e_ret, e_nrm, e_ret_exit, e_exit_ret, e_nrm_exit, e_nrm_ret, e_exit_nrm, e_ret_nrm, Nat.zero_add, Nat.reduceAdd, noslR, noslP, noslB, noslA, List.all_cons, List.all_nil]
    rw [c_up hkl, w64 (n := (k : Int) + 1) (by omega), succ_cast, hin, c_yield hS hkl hb (gt l k)]
    simp only [bnd_some, ctl_true, ctl_false, ctl_and, ctl_or', ctl_or2, x_toPV, x_toCs, x_toCs2, x_toEs, x_bEs, x_bCs, x_aPV, x_aCs, x_int, x_bool, x_str, x_es, x_esn, nth_0, nth_1, nth_2, nth_3, nth_4, nth_5, nth_6, nth_7, nth_8, nth_9, y_nil, y_int, y_bool, y_str, y_sl, y_nils, y_agg, y_ownp, y_own, z_nil, z_int, z_bool, z_str, z_sl, z_nils, b_nil, b_arr, b_box1, b_box2, b_box3, b_box4, List.map_cons, List.map_nil, Bool.and_self, Bool.and_true, Bool.true_and, Bool.not_true, Bool.not_false, Bool.or_false, Bool.false_or, cond_true, cond_false, okPack, okPut, okPutBlks, okPutCells, q_isP, q_isAg, q_isBox, q_isArr, q_int, q_bool, q_str, q_sl, q_nils, e_exit, e_ret, e_nrm, e_ret_exit, e_exit_ret, e_nrm_exit, e_nrm_ret, e_exit_nrm, e_ret_nrm, Nat.zero_add, Nat.reduceAdd, noslR, noslP, noslB, noslA, List.all_cons, List.all_nil]
    rw [Int.toNat_natCast, setEs_0 (by simp; omega), each_set hkl hD, List.range'_succ, List.map_cons]
    unfold eachC
    cases hu : upB l k with
    | true =>
      rw [ctl_true, if_pos rfl, ih (k + 1) _ (by omega) (by simp; omega)]
      simp only [List.append_assoc, List.singleton_append]
      rfl
    | false =>
      rw [ctl_false, if_neg (by simp), each_skip hkl, ih (k + 1) _ (by omega) (by simp; omega)]
      simp only [List.append_assoc, List.singleton_append]
      rfl

theorem c_each_y {l b : List Ct} {R : List (List Bool)} (hS : Sq l R) (hb : b.length = l.length) : denC E 28 [pty l R, AV.fn 42 [.ptr 0 0, .ptr 1 0]] [bpt l R, bpt b R] = some ([RV.agg [PV.sl 3 (ctrs (eachL l (yieldC l R b))), PV.sl 1 (rch R)]], [bpt l R, bpt b R]) := by
  have h1 := hS.n1
  have h5 := hS.n5
  have h := each_y hS hb l.length 0 [] (by omega) rfl
  rw [nc0, List.nil_append, List.drop_zero] at h
  rw [denC_eq, r28y, c_clone3 h1 (by omega)]
  simp only [bnd_some, ctl_true, ctl_false, ctl_and, ctl_or', ctl_or2, x_toPV, x_toCs, x_toCs2, x_toEs, x_bEs, x_bCs, x_aPV, x_aCs, x_int, x_bool, x_str, x_es, x_esn, nth_0, nth_1, nth_2, nth_3, nth_4, nth_5, nth_6, nth_7, nth_8, nth_9, y_nil, y_int, y_bool, y_str, y_sl, y_nils, y_agg, y_ownp, y_own, z_nil, z_int, z_bool, z_str, z_sl, z_nils, b_nil, b_arr, b_box1, b_box2, b_box3, b_box4, List.map_cons, List.map_nil, Bool.and_self, Bool.and_true, Bool.true_and, Bool.not_true, Bool.not_false, Bool.or_false, Bool.false_or, cond_true, cond_false, okPack, okPut, okPutBlks, okPutCells, q_isP, q_isAg, q_isBox, q_isArr, q_int, q_bool, q_str, q_sl, q_nils, e_exit, e_ret, e_nrm, e_ret_exit, e_exit_ret, e_nrm_exit, e_nrm_ret, e_exit_nrm, e_ret_nrm, Nat.zero_add, Nat.reduceAdd, noslR, noslP, noslB, noslA, List.all_cons, List.all_nil]
  rw [ctrs_length, h]
  simp only [bnd_some, ctl_true, ctl_false, ctl_and, ctl_or', ctl_or2, x_toPV, x_toCs, x_toCs2, x_toEs, x_bEs, x_bCs, x_aPV, x_aCs, x_int, x_bool, x_str, x_es, x_esn, nth_0, nth_1, nth_2, nth_3, nth_4, nth_5, nth_6, nth_7, nth_8, nth_9, y_nil, y_int, y_bool, y_str, y_sl, y_nils, y_agg, y_ownp, y_own, z_nil, z_int, z_bool, z_str, z_sl, z_nils, b_nil, b_arr, b_box1, b_box2, b_box3, b_box4, List.map_cons, List.map_nil, Bool.and_self, Bool.and_true, Bool.true_and, Bool.not_true, Bool.not_false, Bool.or_false, Bool.false_or, cond_true, cond_false, okPack, okPut, okPutBlks, okPutCells, q_isP, q_isAg, q_isBox, q_isArr, q_int, q_bool, q_str, q_sl, q_nils, e_exit, e_ret, e_nrm, e_ret_exit, e_exit_ret, e_nrm_exit, e_nrm_ret, e_exit_nrm, e_ret_nrm, Nat.zero_add, Nat.reduceAdd, noslR, noslP, noslB, noslA, List.all_cons, List.all_nil, List.nil_append]
  rfl

theorem each_h {l : List Ct} {R : List (List Bool)} (hS : Sq l R) (t : Int) : ∀ (m k : Nat) (D : List Ct), k + m = l.length → D.length = k →
    lp E (denC E) 28 2 [AV.undef, AV.fn 47 [.ptr 0 0, .ptr 1 0]] 0 { vals := [AV.sl 3 (ctrs l), AV.int .i64 l.length, AV.int .i64 k], blks := [bpt l R, Blk.box [AV.int .i64 t], bpt l R, Blk.box [AV.sl 3 [], AV.sl 1 []], Blk.box [AV.t (.hsl 5), AV.sl 1 (rch R)], Blk.arr 3 (ctrs (D ++ l.drop k))] } =
      some (Ex.exit 0, { vals := [], blks := [bpt l R, Blk.box [AV.int .i64 t], Blk.box [AV.sl 3 [], AV.sl 1 []], Blk.box [AV.t (.hsl 4), AV.sl 1 (rch R)], Blk.arr 3 (ctrs (D ++ (List.range' k m).map (eachC l (listenC l R t))))] }) := by
  have h5 := hS.n5
  intro m
  induction m with
  | zero =>
    intro k D hk hD
    rw [r28_0h, ctl_dec, if_neg (by omega), List.drop_eq_nil_of_le (by omega)]
    simp
  | succ m ih =>
    intro k D hk hD
    have hkl : k < l.length := by omega
    have hin : (leB 0 (k : Int) && ltB (k : Int) ((ctrs (D ++ l.drop k)).length : Int)) = true := by
      rw [ctrs_length]; exact in_len (by simp; omega)
    rw [r28_0h, ctl_dec, if_pos (by omega), getE_ctrs hkl]
    simp only [bnd_some, ctl_true, ctl_false, ctl_and, ctl_or', ctl_or2, x_toPV, x_toCs, x_toCs2, x_toEs, x_bEs, x_bCs, x_aPV, x_aCs, x_int, x_bool, x_str, x_es, x_esn, nth_0, nth_1, nth_2, nth_3, nth_4, nth_5, nth_6, nth_7, nth_8, nth_9, y_nil, y_int, y_bool, y_str, y_sl, y_nils, y_agg, y_ownp, y_own, z_nil, z_int, z_bool, z_str, z_sl, z_nils, b_nil, b_arr, b_box1, b_box2, b_box3, b_box4, List.map_cons, List.map_nil, Bool.and_self, Bool.and_true, Bool.true_and, Bool.not_true, Bool.not_false, Bool.or_false, Bool.false_or, cond_true, cond_false, okPack, okPut, okPutBlks, okPutCells, q_isP, q_isAg, q_isBox, q_isArr, q_int, q_bool, q_str, q_sl, q_nils, e_exit, e_ret, e_nrm, e_ret_exit, e_exit_ret, e_nrm_exit, e_nrm_ret, e_exit_nrm, e_ret_nrm, Nat.zero_add, Nat.reduceAdd, noslR, noslP, noslB, noslA, List.all_cons, List.all_nil]
    rw [c_up hkl, w64 (n := (k : Int) + 1) (by omega), succ_cast, hin, c_listen hS hkl (gt l k) t]
    simp only [bnd_some, ctl_true, ctl_false, ctl_and, ctl_or', ctl_or2, x_toPV, x_toCs, x_toCs2, x_toEs, x_bEs, x_bCs, x_aPV, x_aCs, x_int, x_bool, x_str, x_es, x_esn, nth_0, nth_1, nth_2, nth_3, nth_4, nth_5, nth_6, nth_7, nth_8, nth_9, y_nil, y_int, y_bool, y_str, y_sl, y_nils, y_agg, y_ownp, y_own, z_nil, z_int, z_bool, z_str, z_sl, z_nils, b_nil, b_arr, b_box1, b_box2, b_box3, b_box4, List.map_cons, List.map_nil, Bool.and_self, Bool.and_true, Bool.true_and, Bool.not_true, Bool.not_false, Bool.or_false, Bool.false_or, cond_true, cond_false, okPack, okPut, okPutBlks, okPutCells, q_isP, q_isAg, q_isBox, q_isArr, q_int, q_bool, q_str, q_sl, q_nils, e_exit, e_ret, e_nrm, e_ret_exit, e_exit_ret, e_nrm_exit, e_nrm_ret, e_exit_nrm, e_ret_nrm, Nat.zero_add, Nat.reduceAdd, noslR, noslP, noslB, noslA, List.all_cons, List.all_nil]
    rw [Int.toNat_natCast, setEs_0 (by simp; omega), each_set hkl hD, List.range'_succ, List.map_cons]
    unfold eachC
    cases hu : upB l k with
    | true =>
      rw [ctl_true, if_pos rfl, ih (k + 1) _ (by omega) (by simp; omega)]
      simp only [List.append_assoc, List.singleton_append]
      rfl
    | false =>
      rw [ctl_false, if_neg (by simp), each_skip hkl, ih (k + 1) _ (by omega) (by simp; omega)]
      simp only [List.append_assoc, List.singleton_append]
      rfl

theorem c_each_h {l : List Ct} {R : List (List Bool)} (hS : Sq l R) (t : Int) : denC E 28 [pty l R, AV.fn 47 [.ptr 0 0, .ptr 1 0]] [bpt l R, Blk.box [AV.int .i64 t]] = some ([RV.agg [PV.sl 3 (ctrs (eachL l (listenC l R t))), PV.sl 1 (rch R)]], [bpt l R, Blk.box [AV.int .i64 t]]) := by
  have h1 := hS.n1
  have h5 := hS.n5
  have h := each_h hS t l.length 0 [] (by omega) rfl
  rw [nc0, List.nil_append, List.drop_zero] at h
  rw [denC_eq, r28h, c_clone3 h1 (by omega)]
  simp only [bnd_some, ctl_true, ctl_false, ctl_and, ctl_or', ctl_or2, x_toPV, x_toCs, x_toCs2, x_toEs, x_bEs, x_bCs, x_aPV, x_aCs, x_int, x_bool, x_str, x_es, x_esn, nth_0, nth_1, nth_2, nth_3, nth_4, nth_5, nth_6, nth_7, nth_8, nth_9, y_nil, y_int, y_bool, y_str, y_sl, y_nils, y_agg, y_ownp, y_own, z_nil, z_int, z_bool, z_str, z_sl, z_nils, b_nil, b_arr, b_box1, b_box2, b_box3, b_box4, List.map_cons, List.map_nil, Bool.and_self, Bool.and_true, Bool.true_and, Bool.not_true, Bool.not_false, Bool.or_false, Bool.false_or, cond_true, cond_false, okPack, okPut, okPutBlks, okPutCells, q_isP, q_isAg, q_isBox, q_isArr, q_int, q_bool, q_str, q_sl, q_nils, e_exit, e_ret, e_nrm, e_ret_exit, e_exit_ret, e_nrm_exit, e_nrm_ret, e_exit_nrm, e_ret_nrm, Nat.zero_add, Nat.reduceAdd, noslR, noslP, noslB, noslA, List.all_cons, List.all_nil]
  rw [ctrs_length, h]
  simp only [bnd_some, ctl_true, ctl_false, ctl_and, ctl_or', ctl_or2, x_toPV, x_toCs, x_toCs2, x_toEs, x_bEs, x_bCs, x_aPV, x_aCs, x_int, x_bool, x_str, x_es, x_esn, nth_0, nth_1, nth_2, nth_3, nth_4, nth_5, nth_6, nth_7, nth_8, nth_9, y_nil, y_int, y_bool, y_str, y_sl, y_nils, y_agg, y_ownp, y_own, z_nil, z_int, z_bool, z_str, z_sl, z_nils, b_nil, b_arr, b_box1, b_box2, b_box3, b_box4, List.map_cons, List.map_nil, Bool.and_self, Bool.and_true, Bool.true_and, Bool.not_true, Bool.not_false, Bool.or_false, Bool.false_or, cond_true, cond_false, okPack, okPut, okPutBlks, okPutCells, q_isP, q_isAg, q_isBox, q_isArr, q_int, q_bool, q_str, q_sl, q_nils, e_exit, e_ret, e_nrm, e_ret_exit, e_exit_ret, e_nrm_exit, e_nrm_ret, e_exit_nrm, e_ret_nrm, Nat.zero_add, Nat.reduceAdd, noslR, noslP, noslB, noslA, List.all_cons, List.all_nil, List.nil_append]
  rfl

end Go.Proofs.Ythmhnnppikdafaa.Vm
