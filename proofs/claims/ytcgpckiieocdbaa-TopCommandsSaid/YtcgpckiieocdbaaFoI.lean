import Derived.Test.YtcgpckiieocdbaaFoD
/- Chapter 33: contracts: each controller changed. -/
namespace Go.Proofs.Ytcgpckiieocdbaa.Vm
set_option linter.unusedVariables false
set_option linter.unusedSimpArgs false

theorem iT_1 (v) : isArrT 1 (.arr 1 v) = true := rfl
theorem iT_3 (v) : isArrT 3 (.arr 3 v) = true := rfl
theorem iT_f1 (v) : isArrT 1000002 (.tab false 1 v) = true := rfl
theorem iT_m0 (v) : isArrT 1000001 (.tab true 0 v) = true := rfl
theorem iT_m1 (v) : isArrT 1000003 (.tab true 1 v) = true := rfl

theorem c_clone3 {l : List Ct} (h1 : 1 ≤ l.length) (h5 : l.length ≤ 1000) : denC E 30 [AV.sl 3 (ctrs l)] [] = some ([RV.own 3 (ctrs l)], []) := by
  cases l with
  | nil => cases h1
  | cons c l =>
    have e : ctrs (c :: l) = ctr c :: ctrs l := rfl
    have h2 : leN ((0 + (ctr c :: ctrs l).length) * 24) 140737488355328 = true := by
      simp only [List.length_cons] at h5
      rw [List.length_cons, ctrs_length]; simp only [decide_eq_true_eq]; omega
    rw [e, denC_eq, r30c, h2]
    rfl
theorem c_clone1 {l : List Nat} (h1 : 1 ≤ l.length) (h5 : l.length ≤ 1000) : denC E 45 [AV.sl 1 (ns l)] [] = some ([RV.own 1 (ns l)], []) := by
  cases l with
  | nil => cases h1
  | cons c l =>
    have e : ns (c :: l) = [PV.int .i64 (c : Int)] :: ns l := rfl
    have h2 : leN ((0 + ([PV.int .i64 (c : Int)] :: ns l).length) * 8) 140737488355328 = true := by
      simp only [List.length_cons] at h5
      rw [List.length_cons, ns_length]; simp only [decide_eq_true_eq]; omega
    rw [e, denC_eq, r45c, h2]
    rfl

theorem drop_gt {l : List Ct} {k : Nat} (hk : k < l.length) : l.drop k = gt l k :: l.drop (k + 1) := by
  rw [List.drop_eq_getElem_cons hk]
  simp [gt, List.getD, hk]
theorem each_set {l D : List Ct} {k : Nat} (hk : k < l.length) (hD : D.length = k) (v : Ct) : (D ++ l.drop k).set k v = (D ++ [v]) ++ l.drop (k + 1) := by
  rw [drop_gt hk, List.set_append_right _ _ (by omega), hD]
  simp
theorem each_skip {l D : List Ct} {k : Nat} (hk : k < l.length) : D ++ l.drop k = (D ++ [gt l k]) ++ l.drop (k + 1) := by
  rw [drop_gt hk]; simp

theorem each_l {l : List Ct} {R : List (List Bool)} (hS : Sq l R) : ∀ (m k : Nat) (D : List Ct), k + m = l.length → D.length = k →
    lp E (denC E) 21 0 [AV.undef, AV.bnd 22 [PV.sl 3 (ctrs l), PV.sl 1 (rch R)]] 0 { vals := [AV.sl 3 (ctrs l), AV.int .i64 l.length, AV.int .i64 k], blks := [bpt l R, Blk.box [AV.sl 3 [], AV.sl 1 []], Blk.box [AV.t (.hsl 3), AV.sl 1 (rch R)], Blk.arr 3 (ctrs (D ++ l.drop k))] } =
      some (Ex.exit 0, { vals := [], blks := [Blk.box [AV.sl 3 [], AV.sl 1 []], Blk.box [AV.t (.hsl 2), AV.sl 1 (rch R)], Blk.arr 3 (ctrs (D ++ (List.range' k m).map (eachC l (learnC l R))))] }) := by
  have h5 := hS.n5
  intro m
  induction m with
  | zero =>
    intro k D hk hD
    rw [r21_0l, ctl_dec, if_neg (by omega), List.drop_eq_nil_of_le (by omega)]
    simp
  | succ m ih =>
    intro k D hk hD
    have hkl : k < l.length := by omega
    have hin : (leB 0 (k : Int) && ltB (k : Int) ((ctrs (D ++ l.drop k)).length : Int)) = true := by
      rw [ctrs_length]; exact in_len (by simp; omega)
    rw [r21_0l, ctl_dec, if_pos (by omega), getE_ctrs hkl]
    simp only [bnd_some, ctl_true, ctl_false, ctl_and, ctl_or', ctl_or2, x_toPV, x_toCs, x_toCs2, x_toEs, x_bEs, x_bCs, x_aPV, x_aCs, x_int, x_bool, x_str, x_es, x_esn, nth_0, nth_1, nth_2, nth_3, nth_4, nth_5, nth_6, nth_7, nth_8, nth_9, y_nil, y_int, y_bool, y_str, y_sl, y_nils, y_agg, y_ownp, y_own, z_nil, z_int, z_bool, z_str, z_sl, z_nils, b_nil, b_arr, b_box1, b_box2, b_box3, b_box4, List.map_cons, List.map_nil, Bool.and_self, Bool.and_true, Bool.true_and, Bool.not_true, Bool.not_false, Bool.or_false, Bool.false_or, cond_true, cond_false, okPack, okPut, okPutBlks, okPutCells, q_isP, q_isAg, q_isBox, q_isArr, q_int, q_bool, q_str, q_sl, q_nils, e_exit, e_ret, e_nrm, e_ret_exit, e_exit_ret, e_nrm_exit, e_nrm_ret, e_exit_nrm, e_ret_nrm, Nat.zero_add, Nat.reduceAdd, noslR, noslP, noslB, noslA, List.all_cons, List.all_nil]
    rw [c_up hkl, w64 (n := (k : Int) + 1) (by omega), succ_cast, hin, eqAV_self, c_learn hS hkl (gt l k)]
    simp only [bnd_some, ctl_true, ctl_false, ctl_and, ctl_or', ctl_or2, x_toPV, x_toCs, x_toCs2, x_toEs, x_bEs, x_bCs, x_aPV, x_aCs, x_int, x_bool, x_str, x_es, x_esn, nth_0, nth_1, nth_2, nth_3, nth_4, nth_5, nth_6, nth_7, nth_8, nth_9, y_nil, y_int, y_bool, y_str, y_sl, y_nils, y_agg, y_ownp, y_own, z_nil, z_int, z_bool, z_str, z_sl, z_nils, b_nil, b_arr, b_box1, b_box2, b_box3, b_box4, List.map_cons, List.map_nil, Bool.and_self, Bool.and_true, Bool.true_and, Bool.not_true, Bool.not_false, Bool.or_false, Bool.false_or, cond_true, cond_false, okPack, okPut, okPutBlks, okPutCells, q_isP, q_isAg, q_isBox, q_isArr, q_int, q_bool, q_str, q_sl, q_nils, e_exit, e_ret, e_nrm, e_ret_exit, e_exit_ret, e_nrm_exit, e_nrm_ret, e_exit_nrm, e_ret_nrm, Nat.zero_add, Nat.reduceAdd, noslR, noslP, noslB, noslA, List.all_cons, List.all_nil]
    rw [Int.toNat_natCast, setEs_0 (by simp; omega), each_set hkl hD, List.range'_succ, List.map_cons]
    unfold eachC
    cases hu : upB l k with
    | true =>
      rw [ctl_true, if_pos rfl, ih (k + 1) _ (by omega) (by simp; omega)]
      simp only [List.append_assoc, List.singleton_append]
      rfl
    | false =>
      rw [ctl_false, if_neg (by simp), each_skip hkl, ih (k + 1) _ (by omega) (by simp; omega)]
      simp only [List.append_assoc, List.singleton_append]
      rfl

theorem c_each_l {l : List Ct} {R : List (List Bool)} (hS : Sq l R) : denC E 21 [pty l R, AV.bnd 22 [PV.sl 3 (ctrs l), PV.sl 1 (rch R)]] [] = some ([RV.agg [PV.sl 3 (ctrs (eachL l (learnC l R))), PV.sl 1 (rch R)]], []) := by
  have h1 := hS.n1
  have h5 := hS.n5
  have h := each_l hS l.length 0 [] (by omega) rfl
  rw [nc0, List.nil_append, List.drop_zero] at h
  rw [denC_eq, r21l, c_clone3 h1 (by omega)]
  simp only [bnd_some, ctl_true, ctl_false, ctl_and, ctl_or', ctl_or2, x_toPV, x_toCs, x_toCs2, x_toEs, x_bEs, x_bCs, x_aPV, x_aCs, x_int, x_bool, x_str, x_es, x_esn, nth_0, nth_1, nth_2, nth_3, nth_4, nth_5, nth_6, nth_7, nth_8, nth_9, y_nil, y_int, y_bool, y_str, y_sl, y_nils, y_agg, y_ownp, y_own, z_nil, z_int, z_bool, z_str, z_sl, z_nils, b_nil, b_arr, b_box1, b_box2, b_box3, b_box4, List.map_cons, List.map_nil, Bool.and_self, Bool.and_true, Bool.true_and, Bool.not_true, Bool.not_false, Bool.or_false, Bool.false_or, cond_true, cond_false, okPack, okPut, okPutBlks, okPutCells, q_isP, q_isAg, q_isBox, q_isArr, q_int, q_bool, q_str, q_sl, q_nils, e_exit, e_ret, e_nrm, e_ret_exit, e_exit_ret, e_nrm_exit, e_nrm_ret, e_exit_nrm, e_ret_nrm, Nat.zero_add, Nat.reduceAdd, noslR, noslP, noslB, noslA, List.all_cons, List.all_nil]
  rw [ctrs_length, eqAV_self, ctl_true, h]
  simp only [bnd_some, ctl_true, ctl_false, ctl_and, ctl_or', ctl_or2, x_toPV, x_toCs, x_toCs2, x_toEs, x_bEs, x_bCs, x_aPV, x_aCs, x_int, x_bool, x_str, x_es, x_esn, nth_0, nth_1, nth_2, nth_3, nth_4, nth_5, nth_6, nth_7, nth_8, nth_9, y_nil, y_int, y_bool, y_str, y_sl, y_nils, y_agg, y_ownp, y_own, z_nil, z_int, z_bool, z_str, z_sl, z_nils, b_nil, b_arr, b_box1, b_box2, b_box3, b_box4, List.map_cons, List.map_nil, Bool.and_self, Bool.and_true, Bool.true_and, Bool.not_true, Bool.not_false, Bool.or_false, Bool.false_or, cond_true, cond_false, okPack, okPut, okPutBlks, okPutCells, q_isP, q_isAg, q_isBox, q_isArr, q_int, q_bool, q_str, q_sl, q_nils, e_exit, e_ret, e_nrm, e_ret_exit, e_exit_ret, e_nrm_exit, e_nrm_ret, e_exit_nrm, e_ret_nrm, Nat.zero_add, Nat.reduceAdd, noslR, noslP, noslB, noslA, List.all_cons, List.all_nil, List.nil_append]
  rfl

theorem each_y {l b : List Ct} {R : List (List Bool)} (hS : Sq l R) (hb : b.length = l.length) : ∀ (m k : Nat) (D : List Ct), k + m = l.length → D.length = k →
    lp E (denC E) 21 2 [AV.undef, AV.fn 34 [.ptr 0 0, .ptr 1 0]] 0 { vals := [AV.sl 3 (ctrs l), AV.int .i64 l.length, AV.int .i64 k], blks := [bpt l R, bpt b R, bpt l R, Blk.box [AV.sl 3 [], AV.sl 1 []], Blk.box [AV.t (.hsl 5), AV.sl 1 (rch R)], Blk.arr 3 (ctrs (D ++ l.drop k))] } =
      some (Ex.exit 0, { vals := [], blks := [bpt l R, bpt b R, Blk.box [AV.sl 3 [], AV.sl 1 []], Blk.box [AV.t (.hsl 4), AV.sl 1 (rch R)], Blk.arr 3 (ctrs (D ++ (List.range' k m).map (eachC l (yieldC l R b))))] }) := by
  have h5 := hS.n5
  intro m
  induction m with
  | zero =>
    intro k D hk hD
    rw [r21_0y, ctl_dec, if_neg (by omega), List.drop_eq_nil_of_le (by omega)]
    simp
  | succ m ih =>
    intro k D hk hD
    have hkl : k < l.length := by omega
    have hin : (leB 0 (k : Int) && ltB (k : Int) ((ctrs (D ++ l.drop k)).length : Int)) = true := by
      rw [ctrs_length]; exact in_len (by simp; omega)
    rw [r21_0y, ctl_dec, if_pos (by omega), getE_ctrs hkl]
    simp only [bnd_some, ctl_true, ctl_false, ctl_and, ctl_or', ctl_or2, x_toPV, x_toCs, x_toCs2, x_toEs, x_bEs, x_bCs, x_aPV, x_aCs, x_int, x_bool, x_str, x_es, x_esn, nth_0, nth_1, nth_2, nth_3, nth_4, nth_5, nth_6, nth_7, nth_8, nth_9, y_nil, y_int, y_bool, y_str, y_sl, y_nils, y_agg, y_ownp, y_own, z_nil, z_int, z_bool, z_str, z_sl, z_nils, b_nil, b_arr, b_box1, b_box2, b_box3, b_box4, List.map_cons, List.map_nil, Bool.and_self, Bool.and_true, Bool.true_and, Bool.not_true, Bool.not_false, Bool.or_false, Bool.false_or, cond_true, cond_false, okPack, okPut, okPutBlks, okPutCells, q_isP, q_isAg, q_isBox, q_isArr, q_int, q_bool, q_str, q_sl, q_nils, e_exit, e_ret, e_nrm, e_ret_exit, e_exit_ret, e_nrm_exit, e_nrm_ret, e_exit_nrm, e_ret_nrm, Nat.zero_add, Nat.reduceAdd, noslR, noslP, noslB, noslA, List.all_cons, List.all_nil]
    rw [c_up hkl, w64 (n := (k : Int) + 1) (by omega), succ_cast, hin, c_yield hS hkl hb (gt l k)]
    simp only [bnd_some, ctl_true, ctl_false, ctl_and, ctl_or', ctl_or2, x_toPV, x_toCs, x_toCs2, x_toEs, x_bEs, x_bCs, x_aPV, x_aCs, x_int, x_bool, x_str, x_es, x_esn, nth_0, nth_1, nth_2, nth_3, nth_4, nth_5, nth_6, nth_7, nth_8, nth_9, y_nil, y_int, y_bool, y_str, y_sl, y_nils, y_agg, y_ownp, y_own, z_nil, z_int, z_bool, z_str, z_sl, z_nils, b_nil, b_arr, b_box1, b_box2, b_box3, b_box4, List.map_cons, List.map_nil, Bool.and_self, Bool.and_true, Bool.true_and, Bool.not_true, Bool.not_false, Bool.or_false, Bool.false_or, cond_true, cond_false, okPack, okPut, okPutBlks, okPutCells, q_isP, q_isAg, q_isBox, q_isArr, q_int, q_bool, q_str, q_sl, q_nils, e_exit, e_ret, e_nrm, e_ret_exit, e_exit_ret, e_nrm_exit, e_nrm_ret, e_exit_nrm, e_ret_nrm, Nat.zero_add, Nat.reduceAdd, noslR, noslP, noslB, noslA, List.all_cons, List.all_nil]
    rw [Int.toNat_natCast, setEs_0 (by simp; omega), each_set hkl hD, List.range'_succ, List.map_cons]
    unfold eachC
    cases hu : upB l k with
    | true =>
      rw [ctl_true, if_pos rfl, ih (k + 1) _ (by omega) (by simp; omega)]
      simp only [List.append_assoc, List.singleton_append]
      rfl
    | false =>
      rw [ctl_false, if_neg (by simp), each_skip hkl, ih (k + 1) _ (by omega) (by simp; omega)]
      simp only [List.append_assoc, List.singleton_append]
      rfl

theorem c_each_y {l b : List Ct} {R : List (List Bool)} (hS : Sq l R) (hb : b.length = l.length) : denC E 21 [pty l R, AV.fn 34 [.ptr 0 0, .ptr 1 0]] [bpt l R, bpt b R] = some ([RV.agg [PV.sl 3 (ctrs (eachL l (yieldC l R b))), PV.sl 1 (rch R)]], [bpt l R, bpt b R]) := by
  have h1 := hS.n1
  have h5 := hS.n5
  have h := each_y hS hb l.length 0 [] (by omega) rfl
  rw [nc0, List.nil_append, List.drop_zero] at h
  rw [denC_eq, r21y, c_clone3 h1 (by omega)]
  simp only [bnd_some, ctl_true, ctl_false, ctl_and, ctl_or', ctl_or2, x_toPV, x_toCs, x_toCs2, x_toEs, x_bEs, x_bCs, x_aPV, x_aCs, x_int, x_bool, x_str, x_es, x_esn, nth_0, nth_1, nth_2, nth_3, nth_4, nth_5, nth_6, nth_7, nth_8, nth_9, y_nil, y_int, y_bool, y_str, y_sl, y_nils, y_agg, y_ownp, y_own, z_nil, z_int, z_bool, z_str, z_sl, z_nils, b_nil, b_arr, b_box1, b_box2, b_box3, b_box4, List.map_cons, List.map_nil, Bool.and_self, Bool.and_true, Bool.true_and, Bool.not_true, Bool.not_false, Bool.or_false, Bool.false_or, cond_true, cond_false, okPack, okPut, okPutBlks, okPutCells, q_isP, q_isAg, q_isBox, q_isArr, q_int, q_bool, q_str, q_sl, q_nils, e_exit, e_ret, e_nrm, e_ret_exit, e_exit_ret, e_nrm_exit, e_nrm_ret, e_exit_nrm, e_ret_nrm, Nat.zero_add, Nat.reduceAdd, noslR, noslP, noslB, noslA, List.all_cons, List.all_nil]
  rw [ctrs_length, h]
  simp only [bnd_some, ctl_true, ctl_false, ctl_and, ctl_or', ctl_or2, x_toPV, x_toCs, x_toCs2, x_toEs, x_bEs, x_bCs, x_aPV, x_aCs, x_int, x_bool, x_str, x_es, x_esn, nth_0, nth_1, nth_2, nth_3, nth_4, nth_5, nth_6, nth_7, nth_8, nth_9, y_nil, y_int, y_bool, y_str, y_sl, y_nils, y_agg, y_ownp, y_own, z_nil, z_int, z_bool, z_str, z_sl, z_nils, b_nil, b_arr, b_box1, b_box2, b_box3, b_box4, List.map_cons, List.map_nil, Bool.and_self, Bool.and_true, Bool.true_and, Bool.not_true, Bool.not_false, Bool.or_false, Bool.false_or, cond_true, cond_false, okPack, okPut, okPutBlks, okPutCells, q_isP, q_isAg, q_isBox, q_isArr, q_int, q_bool, q_str, q_sl, q_nils, e_exit, e_ret, e_nrm, e_ret_exit, e_exit_ret, e_nrm_exit, e_nrm_ret, e_exit_nrm, e_ret_nrm, Nat.zero_add, Nat.reduceAdd, noslR, noslP, noslB, noslA, List.all_cons, List.all_nil, List.nil_append]
  rfl

theorem each_h {l : List Ct} {R : List (List Bool)} (hS : Sq l R) (t : Int) : ∀ (m k : Nat) (D : List Ct), k + m = l.length → D.length = k →
    lp E (denC E) 21 2 [AV.undef, AV.fn 39 [.ptr 0 0, .ptr 1 0]] 0 { vals := [AV.sl 3 (ctrs l), AV.int .i64 l.length, AV.int .i64 k], blks := [bpt l R, Blk.box [AV.int .i64 t], bpt l R, Blk.box [AV.sl 3 [], AV.sl 1 []], Blk.box [AV.t (.hsl 5), AV.sl 1 (rch R)], Blk.arr 3 (ctrs (D ++ l.drop k))] } =
      some (Ex.exit 0, { vals := [], blks := [bpt l R, Blk.box [AV.int .i64 t], Blk.box [AV.sl 3 [], AV.sl 1 []], Blk.box [AV.t (.hsl 4), AV.sl 1 (rch R)], Blk.arr 3 (ctrs (D ++ (List.range' k m).map (eachC l (listenC l R t))))] }) := by
  have h5 := hS.n5
  intro m
  induction m with
  | zero =>
    intro k D hk hD
    rw [r21_0h, ctl_dec, if_neg (by omega), List.drop_eq_nil_of_le (by omega)]
    simp
  | succ m ih =>
    intro k D hk hD
    have hkl : k < l.length := by omega
    have hin : (leB 0 (k : Int) && ltB (k : Int) ((ctrs (D ++ l.drop k)).length : Int)) = true := by
      rw [ctrs_length]; exact in_len (by simp; omega)
    rw [r21_0h, ctl_dec, if_pos (by omega), getE_ctrs hkl]
    simp only [bnd_some, ctl_true, ctl_false, ctl_and, ctl_or', ctl_or2, x_toPV, x_toCs, x_toCs2, x_toEs, x_bEs, x_bCs, x_aPV, x_aCs, x_int, x_bool, x_str, x_es, x_esn, nth_0, nth_1, nth_2, nth_3, nth_4, nth_5, nth_6, nth_7, nth_8, nth_9, y_nil, y_int, y_bool, y_str, y_sl, y_nils, y_agg, y_ownp, y_own, z_nil, z_int, z_bool, z_str, z_sl, z_nils, b_nil, b_arr, b_box1, b_box2, b_box3, b_box4, List.map_cons, List.map_nil, Bool.and_self, Bool.and_true, Bool.true_and, Bool.not_true, Bool.not_false, Bool.or_false, Bool.false_or, cond_true, cond_false, okPack, okPut, okPutBlks, okPutCells, q_isP, q_isAg, q_isBox, q_isArr, q_int, q_bool, q_str, q_sl, q_nils, e_exit, e_ret, e_nrm, e_ret_exit, e_exit_ret, e_nrm_exit, e_nrm_ret, e_exit_nrm, e_ret_nrm, Nat.zero_add, Nat.reduceAdd, noslR, noslP, noslB, noslA, List.all_cons, List.all_nil]
    rw [c_up hkl, w64 (n := (k : Int) + 1) (by omega), succ_cast, hin, c_listen hS hkl (gt l k) t]
    simp only [bnd_some, ctl_true, ctl_false, ctl_and, ctl_or', ctl_or2, x_toPV, x_toCs, x_toCs2, x_toEs, x_bEs, x_bCs, x_aPV, x_aCs, x_int, x_bool, x_str, x_es, x_esn, nth_0, nth_1, nth_2, nth_3, nth_4, nth_5, nth_6, nth_7, nth_8, nth_9, y_nil, y_int, y_bool, y_str, y_sl, y_nils, y_agg, y_ownp, y_own, z_nil, z_int, z_bool, z_str, z_sl, z_nils, b_nil, b_arr, b_box1, b_box2, b_box3, b_box4, List.map_cons, List.map_nil, Bool.and_self, Bool.and_true, Bool.true_and, Bool.not_true, Bool.not_false, Bool.or_false, Bool.false_or, cond_true, cond_false, okPack, okPut, okPutBlks, okPutCells, q_isP, q_isAg, q_isBox, q_isArr, q_int, q_bool, q_str, q_sl, q_nils, e_exit, e_ret, e_nrm, e_ret_exit, e_exit_ret, e_nrm_exit, e_nrm_ret, e_exit_nrm, e_ret_nrm, Nat.zero_add, Nat.reduceAdd, noslR, noslP, noslB, noslA, List.all_cons, List.all_nil]
    rw [Int.toNat_natCast, setEs_0 (by simp; omega), each_set hkl hD, List.range'_succ, List.map_cons]
    unfold eachC
    cases hu : upB l k with
    | true =>
      rw [ctl_true, if_pos rfl, ih (k + 1) _ (by omega) (by simp; omega)]
      simp only [List.append_assoc, List.singleton_append]
      rfl
    | false =>
      rw [ctl_false, if_neg (by simp), each_skip hkl, ih (k + 1) _ (by omega) (by simp; omega)]
      simp only [List.append_assoc, List.singleton_append]
      rfl

theorem c_each_h {l : List Ct} {R : List (List Bool)} (hS : Sq l R) (t : Int) : denC E 21 [pty l R, AV.fn 39 [.ptr 0 0, .ptr 1 0]] [bpt l R, Blk.box [AV.int .i64 t]] = some ([RV.agg [PV.sl 3 (ctrs (eachL l (listenC l R t))), PV.sl 1 (rch R)]], [bpt l R, Blk.box [AV.int .i64 t]]) := by
  have h1 := hS.n1
  have h5 := hS.n5
  have h := each_h hS t l.length 0 [] (by omega) rfl
  rw [nc0, List.nil_append, List.drop_zero] at h
  rw [denC_eq, r21h, c_clone3 h1 (by omega)]
  simp only [bnd_some, ctl_true, ctl_false, ctl_and, ctl_or', ctl_or2, x_toPV, x_toCs, x_toCs2, x_toEs, x_bEs, x_bCs, x_aPV, x_aCs, x_int, x_bool, x_str, x_es, x_esn, nth_0, nth_1, nth_2, nth_3, nth_4, nth_5, nth_6, nth_7, nth_8, nth_9, y_nil, y_int, y_bool, y_str, y_sl, y_nils, y_agg, y_ownp, y_own, z_nil, z_int, z_bool, z_str, z_sl, z_nils, b_nil, b_arr, b_box1, b_box2, b_box3, b_box4, List.map_cons, List.map_nil, Bool.and_self, Bool.and_true, Bool.true_and, Bool.not_true, Bool.not_false, Bool.or_false, Bool.false_or, cond_true, cond_false, okPack, okPut, okPutBlks, okPutCells, q_isP, q_isAg, q_isBox, q_isArr, q_int, q_bool, q_str, q_sl, q_nils, e_exit, e_ret, e_nrm, e_ret_exit, e_exit_ret, e_nrm_exit, e_nrm_ret, e_exit_nrm, e_ret_nrm, Nat.zero_add, Nat.reduceAdd, noslR, noslP, noslB, noslA, List.all_cons, List.all_nil]
  rw [ctrs_length, h]
  simp only [bnd_some, ctl_true, ctl_false, ctl_and, ctl_or', ctl_or2, x_toPV, x_toCs, x_toCs2, x_toEs, x_bEs, x_bCs, x_aPV, x_aCs, x_int, x_bool, x_str, x_es, x_esn, nth_0, nth_1, nth_2, nth_3, nth_4, nth_5, nth_6, nth_7, nth_8, nth_9, y_nil, y_int, y_bool, y_str, y_sl, y_nils, y_agg, y_ownp, y_own, z_nil, z_int, z_bool, z_str, z_sl, z_nils, b_nil, b_arr, b_box1, b_box2, b_box3, b_box4, List.map_cons, List.map_nil, Bool.and_self, Bool.and_true, Bool.true_and, Bool.not_true, Bool.not_false, Bool.or_false, Bool.false_or, cond_true, cond_false, okPack, okPut, okPutBlks, okPutCells, q_isP, q_isAg, q_isBox, q_isArr, q_int, q_bool, q_str, q_sl, q_nils, e_exit, e_ret, e_nrm, e_ret_exit, e_exit_ret, e_nrm_exit, e_nrm_ret, e_exit_nrm, e_ret_nrm, Nat.zero_add, Nat.reduceAdd, noslR, noslP, noslB, noslA, List.all_cons, List.all_nil, List.nil_append]
  rfl

end Go.Proofs.Ytcgpckiieocdbaa.Vm

/- Chapter 33: contracts: candidates and votes. -/
namespace Go.Proofs.Ytcgpckiieocdbaa.Vm
set_option linter.unusedVariables false
set_option linter.unusedSimpArgs false

structure Bd (l : List Ct) : Prop where
  ep0 : ∀ i, i < l.length → 0 ≤ (gt l i).ep
  ep : ∀ i, i < l.length → (gt l i).ep ≤ 2147483648
  hd0 : ∀ i, i < l.length → 0 ≤ (gt l i).hd
  hd : ∀ i, i < l.length → (gt l i).hd ≤ 2147483648

theorem idx_loop {v : Nat} : ∀ (xs pre : List Nat), pre.length + xs.length ≤ 1000 →
    lp E (denC E) 51 0 [] 0 { vals := [AV.sl 1 (ns (pre ++ xs)), AV.int .i64 (v : Int), AV.int .i64 (pre ++ xs).length, AV.int .i64 pre.length], blks := [] } =
      some (if xs.any (fun y => v == y) = true then (Ex.ret, { vals := [AV.int .i64 (fidx (fun y => v == y) xs pre.length)], blks := [] }) else (Ex.exit 0, { vals := [], blks := [] })) := by
  intro xs
  induction xs with
  | nil =>
    intro pre hp
    rw [r51_0, ctl_dec, if_neg (by simp)]
    rfl
  | cons x xs ih =>
    intro pre hp
    have hg : (pre ++ x :: xs).getD pre.length 0 = x := by simp [List.getD]
    simp only [List.length_cons] at hp
    rw [r51_0, ctl_dec, if_pos (by simp; omega), getE_ns (by simp), hg]
    simp only [bnd_some, ctl_true, ctl_false, ctl_and, ctl_or', ctl_or2, x_toPV, x_toCs, x_toCs2, x_toEs, x_bEs, x_bCs, x_aPV, x_aCs, x_int, x_bool, x_str, x_es, x_esn, nth_0, nth_1, nth_2, nth_3, nth_4, nth_5, nth_6, nth_7, nth_8, nth_9, y_nil, y_int, y_bool, y_str, y_sl, y_nils, y_agg, y_ownp, y_own, z_nil, z_int, z_bool, z_str, z_sl, z_nils, b_nil, b_arr, b_box1, b_box2, b_box3, b_box4, List.map_cons, List.map_nil, Bool.and_self, Bool.and_true, Bool.true_and, Bool.not_true, Bool.not_false, Bool.or_false, Bool.false_or, cond_true, cond_false, okPack, okPut, okPutBlks, okPutCells, q_isP, q_isAg, q_isBox, q_isArr, q_int, q_bool, q_str, q_sl, q_nils, e_exit, e_ret, e_nrm, e_ret_exit, e_exit_ret, e_nrm_exit, e_nrm_ret, e_exit_nrm, e_ret_nrm, Nat.zero_add, Nat.reduceAdd, noslR, noslP, noslB, noslA, List.all_cons, List.all_nil]
    rw [w64 (n := (pre.length : Int) + 1) (by omega)]
    have ev : ((v : Int) == (x : Int)) = (v == x) := by
      rw [Bool.eq_iff_iff]; simp; omega
    rw [ev, List.any_cons]
    unfold fidx
    cases hb : (v == x) with
    | true => rfl
    | false =>
      have e1 : (pre.length : Int) + 1 = ((pre ++ [x]).length : Int) := by simp
      have e2 : pre ++ x :: xs = (pre ++ [x]) ++ xs := by simp
      rw [ctl_false, e1, e2, ih (pre ++ [x]) (by simp; omega)]
      simp

theorem c_contains (xs : List Nat) (hn : xs.length ≤ 1000) (v : Nat) : denC E 44 [AV.sl 1 (ns xs), AV.int .i64 (v : Int)] [] = some ([RV.p (PV.bool (xs.contains v))], []) := by
  have h := idx_loop (v := v) xs [] (by simpa using hn)
  rw [List.nil_append, List.length_nil, nc0] at h
  have h2 : denC E 51 [AV.sl 1 (ns xs), AV.int .i64 (v : Int)] [] = some ([RV.p (PV.int .i64 (fidx (fun y => v == y) xs 0))], []) := by
    rw [denC_eq, r51, ns_length, h]
    by_cases ha : xs.any (fun y => v == y) = true
    · rw [if_pos ha]
      simp only [bnd_some, ctl_true, ctl_false, ctl_and, ctl_or', ctl_or2, x_toPV, x_toCs, x_toCs2, x_toEs, x_bEs, x_bCs, x_aPV, x_aCs, x_int, x_bool, x_str, x_es, x_esn, nth_0, nth_1, nth_2, nth_3, nth_4, nth_5, nth_6, nth_7, nth_8, nth_9, y_nil, y_int, y_bool, y_str, y_sl, y_nils, y_agg, y_ownp, y_own, z_nil, z_int, z_bool, z_str, z_sl, z_nils, b_nil, b_arr, b_box1, b_box2, b_box3, b_box4, List.map_cons, List.map_nil, Bool.and_self, Bool.and_true, Bool.true_and, Bool.not_true, Bool.not_false, Bool.or_false, Bool.false_or, cond_true, cond_false, okPack, okPut, okPutBlks, okPutCells, q_isP, q_isAg, q_isBox, q_isArr, q_int, q_bool, q_str, q_sl, q_nils, e_exit, e_ret, e_nrm, e_ret_exit, e_exit_ret, e_nrm_exit, e_nrm_ret, e_exit_nrm, e_ret_nrm, Nat.zero_add, Nat.reduceAdd, noslR, noslP, noslB, noslA, List.all_cons, List.all_nil]
    · rw [if_neg ha, fidx_none _ _ _ ha]
      simp only [bnd_some, ctl_true, ctl_false, ctl_and, ctl_or', ctl_or2, x_toPV, x_toCs, x_toCs2, x_toEs, x_bEs, x_bCs, x_aPV, x_aCs, x_int, x_bool, x_str, x_es, x_esn, nth_0, nth_1, nth_2, nth_3, nth_4, nth_5, nth_6, nth_7, nth_8, nth_9, y_nil, y_int, y_bool, y_str, y_sl, y_nils, y_agg, y_ownp, y_own, z_nil, z_int, z_bool, z_str, z_sl, z_nils, b_nil, b_arr, b_box1, b_box2, b_box3, b_box4, List.map_cons, List.map_nil, Bool.and_self, Bool.and_true, Bool.true_and, Bool.not_true, Bool.not_false, Bool.or_false, Bool.false_or, cond_true, cond_false, okPack, okPut, okPutBlks, okPutCells, q_isP, q_isAg, q_isBox, q_isArr, q_int, q_bool, q_str, q_sl, q_nils, e_exit, e_ret, e_nrm, e_ret_exit, e_exit_ret, e_nrm_exit, e_nrm_ret, e_exit_nrm, e_ret_nrm, Nat.zero_add, Nat.reduceAdd, noslR, noslP, noslB, noslA, List.all_cons, List.all_nil]
  rw [denC_eq, r44, h2]
  simp only [bnd_some, ctl_true, ctl_false, ctl_and, ctl_or', ctl_or2, x_toPV, x_toCs, x_toCs2, x_toEs, x_bEs, x_bCs, x_aPV, x_aCs, x_int, x_bool, x_str, x_es, x_esn, nth_0, nth_1, nth_2, nth_3, nth_4, nth_5, nth_6, nth_7, nth_8, nth_9, y_nil, y_int, y_bool, y_str, y_sl, y_nils, y_agg, y_ownp, y_own, z_nil, z_int, z_bool, z_str, z_sl, z_nils, b_nil, b_arr, b_box1, b_box2, b_box3, b_box4, List.map_cons, List.map_nil, Bool.and_self, Bool.and_true, Bool.true_and, Bool.not_true, Bool.not_false, Bool.or_false, Bool.false_or, cond_true, cond_false, okPack, okPut, okPutBlks, okPutCells, q_isP, q_isAg, q_isBox, q_isArr, q_int, q_bool, q_str, q_sl, q_nils, e_exit, e_ret, e_nrm, e_ret_exit, e_exit_ret, e_nrm_exit, e_nrm_ret, e_exit_nrm, e_ret_nrm, Nat.zero_add, Nat.reduceAdd, noslR, noslP, noslB, noslA, List.all_cons, List.all_nil]
  rw [fidx_any, List.contains_eq_any_beq]

abbrev hasB (hs : List Nat) (c : Nat) : Bool := hs.contains c
theorem vote_loop {hs : List Nat} (hh : hs.length ≤ 1000) : ∀ (xs pre : List Nat), pre.length + xs.length ≤ 1000 →
    lp E (denC E) 42 1 [AV.undef, AV.fn 43 [.ptr 0 0]] 0 { vals := [AV.sl 1 (ns (pre ++ xs)), AV.int .i64 (pre ++ xs).length, AV.int .i64 pre.length], blks := [Blk.box [AV.sl 1 (ns hs)]] } =
      some (if xs.any (hasB hs) = true then (Ex.ret, { vals := [AV.int .i64 (fidx (hasB hs) xs pre.length)], blks := [Blk.box [AV.sl 1 (ns hs)]] }) else (Ex.exit 0, { vals := [], blks := [Blk.box [AV.sl 1 (ns hs)]] })) := by
  intro xs
  induction xs with
  | nil =>
    intro pre hp
    rw [r42_0e, ctl_dec, if_neg (by simp)]
    rfl
  | cons x xs ih =>
    intro pre hp
    have hg : (pre ++ x :: xs).getD pre.length 0 = x := by simp [List.getD]
    have hc : denC E 43 [AV.int .i64 (x : Int), AV.t (.ptr 0 0)] [Blk.box [AV.sl 1 (ns hs)]] = some ([RV.p (PV.bool (hasB hs x))], [Blk.box [AV.sl 1 (ns hs)]]) := by
      rw [denC_eq, r43, c_contains _ hh]
      simp only [bnd_some, ctl_true, ctl_false, ctl_and, ctl_or', ctl_or2, x_toPV, x_toCs, x_toCs2, x_toEs, x_bEs, x_bCs, x_aPV, x_aCs, x_int, x_bool, x_str, x_es, x_esn, nth_0, nth_1, nth_2, nth_3, nth_4, nth_5, nth_6, nth_7, nth_8, nth_9, y_nil, y_int, y_bool, y_str, y_sl, y_nils, y_agg, y_ownp, y_own, z_nil, z_int, z_bool, z_str, z_sl, z_nils, b_nil, b_arr, b_box1, b_box2, b_box3, b_box4, List.map_cons, List.map_nil, Bool.and_self, Bool.and_true, Bool.true_and, Bool.not_true, Bool.not_false, Bool.or_false, Bool.false_or, cond_true, cond_false, okPack, okPut, okPutBlks, okPutCells, q_isP, q_isAg, q_isBox, q_isArr, q_int, q_bool, q_str, q_sl, q_nils, e_exit, e_ret, e_nrm, e_ret_exit, e_exit_ret, e_nrm_exit, e_nrm_ret, e_exit_nrm, e_ret_nrm, Nat.zero_add, Nat.reduceAdd, noslR, noslP, noslB, noslA, List.all_cons, List.all_nil]
    simp only [List.length_cons] at hp
    rw [r42_0e, ctl_dec, if_pos (by simp; omega), getE_ns (by simp), hg]
    simp only [bnd_some, ctl_true, ctl_false, ctl_and, ctl_or', ctl_or2, x_toPV, x_toCs, x_toCs2, x_toEs, x_bEs, x_bCs, x_aPV, x_aCs, x_int, x_bool, x_str, x_es, x_esn, nth_0, nth_1, nth_2, nth_3, nth_4, nth_5, nth_6, nth_7, nth_8, nth_9, y_nil, y_int, y_bool, y_str, y_sl, y_nils, y_agg, y_ownp, y_own, z_nil, z_int, z_bool, z_str, z_sl, z_nils, b_nil, b_arr, b_box1, b_box2, b_box3, b_box4, List.map_cons, List.map_nil, Bool.and_self, Bool.and_true, Bool.true_and, Bool.not_true, Bool.not_false, Bool.or_false, Bool.false_or, cond_true, cond_false, okPack, okPut, okPutBlks, okPutCells, q_isP, q_isAg, q_isBox, q_isArr, q_int, q_bool, q_str, q_sl, q_nils, e_exit, e_ret, e_nrm, e_ret_exit, e_exit_ret, e_nrm_exit, e_nrm_ret, e_exit_nrm, e_ret_nrm, Nat.zero_add, Nat.reduceAdd, noslR, noslP, noslB, noslA, List.all_cons, List.all_nil]
    rw [hc, w64 (n := (pre.length : Int) + 1) (by omega)]
    simp only [bnd_some, ctl_true, ctl_false, ctl_and, ctl_or', ctl_or2, x_toPV, x_toCs, x_toCs2, x_toEs, x_bEs, x_bCs, x_aPV, x_aCs, x_int, x_bool, x_str, x_es, x_esn, nth_0, nth_1, nth_2, nth_3, nth_4, nth_5, nth_6, nth_7, nth_8, nth_9, y_nil, y_int, y_bool, y_str, y_sl, y_nils, y_agg, y_ownp, y_own, z_nil, z_int, z_bool, z_str, z_sl, z_nils, b_nil, b_arr, b_box1, b_box2, b_box3, b_box4, List.map_cons, List.map_nil, Bool.and_self, Bool.and_true, Bool.true_and, Bool.not_true, Bool.not_false, Bool.or_false, Bool.false_or, cond_true, cond_false, okPack, okPut, okPutBlks, okPutCells, q_isP, q_isAg, q_isBox, q_isArr, q_int, q_bool, q_str, q_sl, q_nils, e_exit, e_ret, e_nrm, e_ret_exit, e_exit_ret, e_nrm_exit, e_nrm_ret, e_exit_nrm, e_ret_nrm, Nat.zero_add, Nat.reduceAdd, noslR, noslP, noslB, noslA, List.all_cons, List.all_nil]
    rw [List.any_cons]
    unfold fidx
    cases hb : hasB hs x with
    | true => rfl
    | false =>
      have e1 : (pre.length : Int) + 1 = ((pre ++ [x]).length : Int) := by simp
      have e2 : pre ++ x :: xs = (pre ++ [x]) ++ xs := by simp
      rw [ctl_false, e1, e2, ih (pre ++ [x]) (by simp; omega)]
      simp

theorem c_vote (hs xs : List Nat) (hh : hs.length ≤ 1000) (hn : xs.length ≤ 1000) :
    denC E 42 [AV.sl 1 (ns xs), AV.fn 43 [.ptr 0 0]] [Blk.box [AV.sl 1 (ns hs)]] = some ([RV.p (PV.int .i64 (fidx (hasB hs) xs 0))], [Blk.box [AV.sl 1 (ns hs)]]) := by
  have h := vote_loop hh xs [] (by simpa using hn)
  rw [List.nil_append, List.length_nil, nc0] at h
  rw [denC_eq, r42e, ns_length, h]
  by_cases ha : xs.any (hasB hs) = true
  · rw [if_pos ha]
    simp only [bnd_some, ctl_true, ctl_false, ctl_and, ctl_or', ctl_or2, x_toPV, x_toCs, x_toCs2, x_toEs, x_bEs, x_bCs, x_aPV, x_aCs, x_int, x_bool, x_str, x_es, x_esn, nth_0, nth_1, nth_2, nth_3, nth_4, nth_5, nth_6, nth_7, nth_8, nth_9, y_nil, y_int, y_bool, y_str, y_sl, y_nils, y_agg, y_ownp, y_own, z_nil, z_int, z_bool, z_str, z_sl, z_nils, b_nil, b_arr, b_box1, b_box2, b_box3, b_box4, List.map_cons, List.map_nil, Bool.and_self, Bool.and_true, Bool.true_and, Bool.not_true, Bool.not_false, Bool.or_false, Bool.false_or, cond_true, cond_false, okPack, okPut, okPutBlks, okPutCells, q_isP, q_isAg, q_isBox, q_isArr, q_int, q_bool, q_str, q_sl, q_nils, e_exit, e_ret, e_nrm, e_ret_exit, e_exit_ret, e_nrm_exit, e_nrm_ret, e_exit_nrm, e_ret_nrm, Nat.zero_add, Nat.reduceAdd, noslR, noslP, noslB, noslA, List.all_cons, List.all_nil]
  · rw [if_neg ha, fidx_none _ _ _ ha]
    simp only [bnd_some, ctl_true, ctl_false, ctl_and, ctl_or', ctl_or2, x_toPV, x_toCs, x_toCs2, x_toEs, x_bEs, x_bCs, x_aPV, x_aCs, x_int, x_bool, x_str, x_es, x_esn, nth_0, nth_1, nth_2, nth_3, nth_4, nth_5, nth_6, nth_7, nth_8, nth_9, y_nil, y_int, y_bool, y_str, y_sl, y_nils, y_agg, y_ownp, y_own, z_nil, z_int, z_bool, z_str, z_sl, z_nils, b_nil, b_arr, b_box1, b_box2, b_box3, b_box4, List.map_cons, List.map_nil, Bool.and_self, Bool.and_true, Bool.true_and, Bool.not_true, Bool.not_false, Bool.or_false, Bool.false_or, cond_true, cond_false, okPack, okPut, okPutBlks, okPutCells, q_isP, q_isAg, q_isBox, q_isArr, q_int, q_bool, q_str, q_sl, q_nils, e_exit, e_ret, e_nrm, e_ret_exit, e_exit_ret, e_nrm_exit, e_nrm_ret, e_exit_nrm, e_ret_nrm, Nat.zero_add, Nat.reduceAdd, noslR, noslP, noslB, noslA, List.all_cons, List.all_nil]

/-- What stands at the place that was found. -/
theorem fidx_find (p : Nat → Bool) : ∀ (l pre : List Nat), (l.find? p = none ∧ fidx p l pre.length = -1) ∨ (∃ z c : Nat, l.find? p = some c ∧ fidx p l pre.length = z ∧ z < (pre ++ l).length ∧ (pre ++ l).getD z 0 = c)
  | [], pre => .inl ⟨rfl, rfl⟩
  | x :: l, pre => by
    unfold fidx
    cases h : p x with
    | true => exact .inr ⟨pre.length, x, by rw [List.find?_cons, h], by rw [if_pos rfl], by simp, by simp [List.getD]⟩
    | false =>
      have e2 : pre ++ x :: l = (pre ++ [x]) ++ l := by simp
      have e3 : pre.length + 1 = (pre ++ [x]).length := by simp
      rw [if_neg (by simp), e3, e2, List.find?_cons, h]
      exact fidx_find p l (pre ++ [x])

theorem cand_loop {l : List Ct} {R : List (List Bool)} (hS : Sq l R) (hB : Bd l) {t d : Int} (ht : 0 ≤ t ∧ t ≤ 2147483648) : ∀ (m k : Nat) (acc : List Nat), k + m = l.length → acc.length ≤ k →
    lp E (denC E) 41 0 [] 0 { vals := [AV.int .i64 t, AV.int .i64 d, AV.sl 3 (ctrs l), AV.int .i64 l.length, AV.int .i64 k], blks := [bpt l R, Blk.arr 1 (ns acc)] } =
      some (Ex.exit 0, { vals := [], blks := [Blk.arr 1 (ns (acc ++ (List.range' k m).filter (candB l R t d)))] }) := by
  have h5 := hS.n5
  intro m
  induction m with
  | zero =>
    intro k acc hk ha
    rw [r41_0, ctl_dec, if_neg (by omega)]
    simp
  | succ m ih =>
    intro k acc hk ha
    have hkl : k < l.length := by omega
    have b1 := hB.hd0 k hkl
    have b2 := hB.hd k hkl
    have hh := hears_len (l := l) (R := R) k
    have hl : leN (((ns acc).length + 1) * 8) 140737488355328 = true := by rw [ns_length]; simp only [decide_eq_true_eq]; omega
    rw [r41_0, ctl_dec, if_pos (by omega), getE_ctrs hkl]
    simp only [bnd_some, ctl_true, ctl_false, ctl_and, ctl_or', ctl_or2, x_toPV, x_toCs, x_toCs2, x_toEs, x_bEs, x_bCs, x_aPV, x_aCs, x_int, x_bool, x_str, x_es, x_esn, nth_0, nth_1, nth_2, nth_3, nth_4, nth_5, nth_6, nth_7, nth_8, nth_9, y_nil, y_int, y_bool, y_str, y_sl, y_nils, y_agg, y_ownp, y_own, z_nil, z_int, z_bool, z_str, z_sl, z_nils, b_nil, b_arr, b_box1, b_box2, b_box3, b_box4, List.map_cons, List.map_nil, Bool.and_self, Bool.and_true, Bool.true_and, Bool.not_true, Bool.not_false, Bool.or_false, Bool.false_or, cond_true, cond_false, okPack, okPut, okPutBlks, okPutCells, q_isP, q_isAg, q_isBox, q_isArr, q_int, q_bool, q_str, q_sl, q_nils, e_exit, e_ret, e_nrm, e_ret_exit, e_exit_ret, e_nrm_exit, e_nrm_ret, e_exit_nrm, e_ret_nrm, Nat.zero_add, Nat.reduceAdd, noslR, noslP, noslB, noslA, List.all_cons, List.all_nil]
    rw [c_hears hS hkl, c_leads hS hkl, w64 (n := (k : Int) + 1) (by omega), w64 (n := t - (gt l k).hd) (by omega), succ_cast]
    simp only [bnd_some, ctl_true, ctl_false, ctl_and, ctl_or', ctl_or2, x_toPV, x_toCs, x_toCs2, x_toEs, x_bEs, x_bCs, x_aPV, x_aCs, x_int, x_bool, x_str, x_es, x_esn, nth_0, nth_1, nth_2, nth_3, nth_4, nth_5, nth_6, nth_7, nth_8, nth_9, y_nil, y_int, y_bool, y_str, y_sl, y_nils, y_agg, y_ownp, y_own, z_nil, z_int, z_bool, z_str, z_sl, z_nils, b_nil, b_arr, b_box1, b_box2, b_box3, b_box4, List.map_cons, List.map_nil, Bool.and_self, Bool.and_true, Bool.true_and, Bool.not_true, Bool.not_false, Bool.or_false, Bool.false_or, cond_true, cond_false, okPack, okPut, okPutBlks, okPutCells, q_isP, q_isAg, q_isBox, q_isArr, q_int, q_bool, q_str, q_sl, q_nils, e_exit, e_ret, e_nrm, e_ret_exit, e_exit_ret, e_nrm_exit, e_nrm_ret, e_exit_nrm, e_ret_nrm, Nat.zero_add, Nat.reduceAdd, noslR, noslP, noslB, noslA, List.all_cons, List.all_nil]
    rw [ns_length, c_maj (by omega)]
    simp only [bnd_some, ctl_true, ctl_false, ctl_and, ctl_or', ctl_or2, x_toPV, x_toCs, x_toCs2, x_toEs, x_bEs, x_bCs, x_aPV, x_aCs, x_int, x_bool, x_str, x_es, x_esn, nth_0, nth_1, nth_2, nth_3, nth_4, nth_5, nth_6, nth_7, nth_8, nth_9, y_nil, y_int, y_bool, y_str, y_sl, y_nils, y_agg, y_ownp, y_own, z_nil, z_int, z_bool, z_str, z_sl, z_nils, b_nil, b_arr, b_box1, b_box2, b_box3, b_box4, List.map_cons, List.map_nil, Bool.and_self, Bool.and_true, Bool.true_and, Bool.not_true, Bool.not_false, Bool.or_false, Bool.false_or, cond_true, cond_false, okPack, okPut, okPutBlks, okPutCells, q_isP, q_isAg, q_isBox, q_isArr, q_int, q_bool, q_str, q_sl, q_nils, e_exit, e_ret, e_nrm, e_ret_exit, e_exit_ret, e_nrm_exit, e_nrm_ret, e_exit_nrm, e_ret_nrm, Nat.zero_add, Nat.reduceAdd, noslR, noslP, noslB, noslA, List.all_cons, List.all_nil, ctl_and, hl]
    have e : ((((gt l k).st == 0 && maj l (hearsL l R k).length) && !leadsB l R k) && leB d (t - (gt l k).hd)) = candB l R t d k := rfl
    rw [e, List.range'_succ, List.filter_cons]
    cases hc : candB l R t d k with
    | true =>
      have en : ns acc ++ [[PV.int IntKind.i64 (k : Int)]] = ns (acc ++ [k]) := by simp [ns]
      rw [ctl_true, en, ih (k + 1) (acc ++ [k]) (by omega) (by simp; omega)]
      simp
    | false =>
      rw [ctl_false, ih (k + 1) acc (by omega) (by omega)]
      simp

theorem c_cand {l : List Ct} {R : List (List Bool)} (hS : Sq l R) (hB : Bd l) {t d : Int} (ht : 0 ≤ t ∧ t ≤ 2147483648) : denC E 41 [pty l R, AV.int .i64 t, AV.int .i64 d] [] = some ([RV.p (PV.sl 1 (ns (candL l R t d)))], []) := by
  have h := cand_loop hS hB (d := d) ht l.length 0 [] (by omega) (by simp)
  have e0 : ns [] = [] := rfl
  rw [e0, nc0, List.nil_append] at h
  rw [denC_eq, r41, ctrs_length, h]
  simp only [bnd_some, ctl_true, ctl_false, ctl_and, ctl_or', ctl_or2, x_toPV, x_toCs, x_toCs2, x_toEs, x_bEs, x_bCs, x_aPV, x_aCs, x_int, x_bool, x_str, x_es, x_esn, nth_0, nth_1, nth_2, nth_3, nth_4, nth_5, nth_6, nth_7, nth_8, nth_9, y_nil, y_int, y_bool, y_str, y_sl, y_nils, y_agg, y_ownp, y_own, z_nil, z_int, z_bool, z_str, z_sl, z_nils, b_nil, b_arr, b_box1, b_box2, b_box3, b_box4, List.map_cons, List.map_nil, Bool.and_self, Bool.and_true, Bool.true_and, Bool.not_true, Bool.not_false, Bool.or_false, Bool.false_or, cond_true, cond_false, okPack, okPut, okPutBlks, okPutCells, q_isP, q_isAg, q_isBox, q_isArr, q_int, q_bool, q_str, q_sl, q_nils, e_exit, e_ret, e_nrm, e_ret_exit, e_exit_ret, e_nrm_exit, e_nrm_ret, e_exit_nrm, e_ret_nrm, Nat.zero_add, Nat.reduceAdd, noslR, noslP, noslB, noslA, List.all_cons, List.all_nil, iT_1]
  rfl

theorem cand_lt {l : List Ct} {R : List (List Bool)} {t d : Int} {c : Nat} (h : c ∈ candL l R t d) : c < l.length := by
  have := (List.mem_filter.1 h).1
  simp at this
  exact this
theorem cand_len {l : List Ct} {R : List (List Bool)} {t d : Int} : (candL l R t d).length ≤ l.length := by
  have := List.length_filter_le (candB l R t d) (List.range' 0 l.length)
  simpa [candL] using this

/-! ### The map of the votes -/
theorem kv_put (dv v : MV) (k : Int) : ∀ m : List (Int × MV), kvGet dv k (kvPut k v m) = v
  | [] => by simp [kvPut, kvGet]
  | (x, u) :: m => by
    unfold kvPut
    cases h : (x == k) with
    | true => simp [kvGet, h]
    | false => simp [kvGet, h, kv_put dv v k m]
theorem kv_put_ne (dv v : MV) {k j : Int} (hj : k ≠ j) : ∀ m : List (Int × MV), kvGet dv j (kvPut k v m) = kvGet dv j m
  | [] => by
    have : (k == j) = false := by simpa using hj
    simp [kvPut, kvGet, this]
  | (x, u) :: m => by
    unfold kvPut
    cases h : (x == k) with
    | true =>
      have hx : x = k := by simpa using h
      have : (x == j) = false := by simpa [hx] using hj
      simp [kvGet, this]
    | false => simp [kvGet, kv_put_ne dv v hj m]
theorem kv_gone_ne (dv : MV) {k j : Int} (hj : k ≠ j) : ∀ m : List (Int × MV), kvGet dv j (kvGone k m) = kvGet dv j m
  | [] => rfl
  | (x, u) :: m => by
    unfold kvGone
    cases h : (x == k) with
    | true =>
      have hx : x = k := by simpa using h
      have : (x == j) = false := by simpa [hx] using hj
      simp [kvGet, this]
    | false => simp [kvGet, kv_gone_ne dv hj m]
theorem kv_frz {k : Int} {v : List Nat} : ∀ {m : List (Int × MV)}, kvGet (MV.row []) k m = MV.row (ns v) →
    MV.pvOk (.sl 1) (kvGet (MV.pv .nils) k (m.map fun x => (x.1, MV.pv (x.2.frz 1)))) = true ∧ (kvGet (MV.pv .nils) k (m.map fun x => (x.1, MV.pv (x.2.frz 1)))).toPV.toEs = ns v
  | [], h => by
    simp only [kvGet, MV.row.injEq] at h
    simp only [List.map_nil, kvGet]
    exact ⟨rfl, h⟩
  | (x, u) :: m, h => by
    rw [List.map_cons]
    unfold kvGet at h ⊢
    cases hx : (x == k) with
    | true =>
      rw [hx] at h
      simp only [cond_true] at h ⊢
      rw [h]
      exact ⟨rfl, rfl⟩
    | false =>
      rw [hx] at h
      simp only [cond_false] at h ⊢
      exact kv_frz h

theorem votes_succ {l : List Ct} {R : List (List Bool)} {all : List Nat} {k c : Nat} : votesL l R all (k + 1) c = votesL l R all k c ++ if votes l R all k = some c then [k] else [] := by
  unfold votesL
  rw [List.range'_concat, List.filter_append]
  congr 1
  simp [List.filter_cons]

def KV (l : List Ct) (R : List (List Bool)) (all : List Nat) (k : Nat) (kv : List (Int × MV)) : Prop := ∀ c : Nat, kvGet (MV.row []) (c : Int) kv = MV.row (ns (votesL l R all k c))

theorem votes_len {l : List Ct} {R : List (List Bool)} {all : List Nat} {k c : Nat} : (votesL l R all k c).length ≤ k := by
  have := List.length_filter_le (fun i => votes l R all i == some c) (List.range' 0 k)
  simpa [votesL] using this

theorem elect_loop0 {l : List Ct} {R : List (List Bool)} (hS : Sq l R) {t : Int} {all : List Nat} (hal : all.length ≤ 5) : ∀ (m k : Nat) (kv : List (Int × MV)), k + m = l.length → KV l R all k kv →
    ∃ kv', KV l R all l.length kv' ∧ lp E (denC E) 25 0 [] 0 { vals := [AV.int .i64 t, AV.sl 1 (ns all), AV.int .i64 l.length, AV.int .i64 k], blks := [bpt l R, Blk.box [AV.sl 3 [], AV.sl 1 []], Blk.tab true 1 kv] } =
      some (Ex.exit 0, { vals := [AV.int .i64 t, AV.sl 1 (ns all)], blks := [bpt l R, Blk.box [AV.sl 3 [], AV.sl 1 []], Blk.tab true 1 kv'] }) := by
  have h5 := hS.n5
  intro m
  induction m with
  | zero =>
    intro k kv hk hv
    rw [r25_0, ctl_dec, if_neg (by omega)]
    exact ⟨kv, by rw [show l.length = k by omega]; exact hv, rfl⟩
  | succ m ih =>
    intro k kv hk hv
    have hkl : k < l.length := by omega
    have hh := hears_len (l := l) (R := R) k
    rw [r25_0, ctl_dec, if_pos (by omega), c_leads hS hkl]
    simp only [bnd_some, ctl_true, ctl_false, ctl_and, ctl_or', ctl_or2, x_toPV, x_toCs, x_toCs2, x_toEs, x_bEs, x_bCs, x_aPV, x_aCs, x_int, x_bool, x_str, x_es, x_esn, nth_0, nth_1, nth_2, nth_3, nth_4, nth_5, nth_6, nth_7, nth_8, nth_9, y_nil, y_int, y_bool, y_str, y_sl, y_nils, y_agg, y_ownp, y_own, z_nil, z_int, z_bool, z_str, z_sl, z_nils, b_nil, b_arr, b_box1, b_box2, b_box3, b_box4, List.map_cons, List.map_nil, Bool.and_self, Bool.and_true, Bool.true_and, Bool.not_true, Bool.not_false, Bool.or_false, Bool.false_or, cond_true, cond_false, okPack, okPut, okPutBlks, okPutCells, q_isP, q_isAg, q_isBox, q_isArr, q_int, q_bool, q_str, q_sl, q_nils, e_exit, e_ret, e_nrm, e_ret_exit, e_exit_ret, e_nrm_exit, e_nrm_ret, e_exit_nrm, e_ret_nrm, Nat.zero_add, Nat.reduceAdd, noslR, noslP, noslB, noslA, List.all_cons, List.all_nil]
    rw [w64 (n := (k : Int) + 1) (by omega), succ_cast]
    have skip : votes l R all k = none → KV l R all (k + 1) kv := fun hn c => by
      rw [hv c, votes_succ, hn]; simp
    cases hl : leadsB l R k with
    | true =>
      rw [ctl_true]
      exact ih (k + 1) kv (by omega) (skip (by unfold votes; rw [hl]; rfl))
    | false =>
      rw [ctl_false, c_hears hS hkl]
      simp only [bnd_some, ctl_true, ctl_false, ctl_and, ctl_or', ctl_or2, x_toPV, x_toCs, x_toCs2, x_toEs, x_bEs, x_bCs, x_aPV, x_aCs, x_int, x_bool, x_str, x_es, x_esn, nth_0, nth_1, nth_2, nth_3, nth_4, nth_5, nth_6, nth_7, nth_8, nth_9, y_nil, y_int, y_bool, y_str, y_sl, y_nils, y_agg, y_ownp, y_own, z_nil, z_int, z_bool, z_str, z_sl, z_nils, b_nil, b_arr, b_box1, b_box2, b_box3, b_box4, List.map_cons, List.map_nil, Bool.and_self, Bool.and_true, Bool.true_and, Bool.not_true, Bool.not_false, Bool.or_false, Bool.false_or, cond_true, cond_false, okPack, okPut, okPutBlks, okPutCells, q_isP, q_isAg, q_isBox, q_isArr, q_int, q_bool, q_str, q_sl, q_nils, e_exit, e_ret, e_nrm, e_ret_exit, e_exit_ret, e_nrm_exit, e_nrm_ret, e_exit_nrm, e_ret_nrm, Nat.zero_add, Nat.reduceAdd, noslR, noslP, noslB, noslA, List.all_cons, List.all_nil]
      rw [c_vote _ _ (by omega) (by omega)]
      simp only [bnd_some, ctl_true, ctl_false, ctl_and, ctl_or', ctl_or2, x_toPV, x_toCs, x_toCs2, x_toEs, x_bEs, x_bCs, x_aPV, x_aCs, x_int, x_bool, x_str, x_es, x_esn, nth_0, nth_1, nth_2, nth_3, nth_4, nth_5, nth_6, nth_7, nth_8, nth_9, y_nil, y_int, y_bool, y_str, y_sl, y_nils, y_agg, y_ownp, y_own, z_nil, z_int, z_bool, z_str, z_sl, z_nils, b_nil, b_arr, b_box1, b_box2, b_box3, b_box4, List.map_cons, List.map_nil, Bool.and_self, Bool.and_true, Bool.true_and, Bool.not_true, Bool.not_false, Bool.or_false, Bool.false_or, cond_true, cond_false, okPack, okPut, okPutBlks, okPutCells, q_isP, q_isAg, q_isBox, q_isArr, q_int, q_bool, q_str, q_sl, q_nils, e_exit, e_ret, e_nrm, e_ret_exit, e_exit_ret, e_nrm_exit, e_nrm_ret, e_exit_nrm, e_ret_nrm, Nat.zero_add, Nat.reduceAdd, noslR, noslP, noslB, noslA, List.all_cons, List.all_nil]
      have hvk : votes l R all k = all.find? (hasB (hearsL l R k)) := by unfold votes; rw [hl]; rfl
      rcases fidx_find (hasB (hearsL l R k)) all [] with ⟨h1, h2⟩ | ⟨z, c, h1, h2, h3, h4⟩
      · rw [List.length_nil] at h2
        rw [h2, show leB 0 (-1) = false from rfl, ctl_false]
        exact ih (k + 1) kv (by omega) (skip (by rw [hvk, h1]))
      · rw [List.length_nil] at h2
        rw [List.nil_append] at h3 h4
        have hvl := votes_len (l := l) (R := R) (all := all) (k := k) (c := c)
        have hi : ((MV.row (ns (votesL l R all k c))).toEs) = ns (votesL l R all k c) := rfl
        have hle : leN (((ns (votesL l R all k c)).length + 1) * 8) 140737488355328 = true := by rw [ns_length]; simp only [decide_eq_true_eq]; omega
        have en : ns (votesL l R all k c) ++ [[PV.int IntKind.i64 (k : Int)]] = ns (votesL l R all (k + 1) c) := by rw [votes_succ, hvk, h1, if_pos rfl, ← ns_app]; rfl
        rw [h2, show leB 0 (z : Int) = true by simp, ctl_true, getE_ns h3, h4]
        simp only [bnd_some, ctl_true, ctl_false, ctl_and, ctl_or', ctl_or2, x_toPV, x_toCs, x_toCs2, x_toEs, x_bEs, x_bCs, x_aPV, x_aCs, x_int, x_bool, x_str, x_es, x_esn, nth_0, nth_1, nth_2, nth_3, nth_4, nth_5, nth_6, nth_7, nth_8, nth_9, y_nil, y_int, y_bool, y_str, y_sl, y_nils, y_agg, y_ownp, y_own, z_nil, z_int, z_bool, z_str, z_sl, z_nils, b_nil, b_arr, b_box1, b_box2, b_box3, b_box4, List.map_cons, List.map_nil, Bool.and_self, Bool.and_true, Bool.true_and, Bool.not_true, Bool.not_false, Bool.or_false, Bool.false_or, cond_true, cond_false, okPack, okPut, okPutBlks, okPutCells, q_isP, q_isAg, q_isBox, q_isArr, q_int, q_bool, q_str, q_sl, q_nils, e_exit, e_ret, e_nrm, e_ret_exit, e_exit_ret, e_nrm_exit, e_nrm_ret, e_exit_nrm, e_ret_nrm, Nat.zero_add, Nat.reduceAdd, noslR, noslP, noslB, noslA, List.all_cons, List.all_nil]
        rw [getE_ns h3, h4]
        simp only [bnd_some, ctl_true, ctl_false, ctl_and, ctl_or', ctl_or2, x_toPV, x_toCs, x_toCs2, x_toEs, x_bEs, x_bCs, x_aPV, x_aCs, x_int, x_bool, x_str, x_es, x_esn, nth_0, nth_1, nth_2, nth_3, nth_4, nth_5, nth_6, nth_7, nth_8, nth_9, y_nil, y_int, y_bool, y_str, y_sl, y_nils, y_agg, y_ownp, y_own, z_nil, z_int, z_bool, z_str, z_sl, z_nils, b_nil, b_arr, b_box1, b_box2, b_box3, b_box4, List.map_cons, List.map_nil, Bool.and_self, Bool.and_true, Bool.true_and, Bool.not_true, Bool.not_false, Bool.or_false, Bool.false_or, cond_true, cond_false, okPack, okPut, okPutBlks, okPutCells, q_isP, q_isAg, q_isBox, q_isArr, q_int, q_bool, q_str, q_sl, q_nils, e_exit, e_ret, e_nrm, e_ret_exit, e_exit_ret, e_nrm_exit, e_nrm_ret, e_exit_nrm, e_ret_nrm, Nat.zero_add, Nat.reduceAdd, noslR, noslP, noslB, noslA, List.all_cons, List.all_nil]
        rw [hv c, hi, hle, en, ctl_true]
        simp only [MV.isRow, ctl_true]
        refine ih (k + 1) _ (by omega) fun j => ?_
        by_cases hj : c = j
        · subst hj
          rw [kv_put]
        · have hne : (c : Int) ≠ (j : Int) := by omega
          rw [kv_put_ne _ _ hne, kv_gone_ne _ hne, hv j, votes_succ, hvk, h1, if_neg (by simpa using hj), List.append_nil]

end Go.Proofs.Ytcgpckiieocdbaa.Vm

/- Chapter 33: contracts: a whole round. -/
namespace Go.Proofs.Ytcgpckiieocdbaa.Vm
set_option linter.unusedVariables false
set_option linter.unusedSimpArgs false

theorem k_kvs (m : Bool) (sz : Nat) (kv) : (Blk.tab m sz kv).toKvs = kv := rfl

theorem great_bd {l : List Ct} (hB : Bd l) : ∀ (xs : List Nat) (o : Int), (∀ x ∈ xs, x < l.length) → 0 ≤ o ∧ o ≤ 2147483648 → 0 ≤ great l o xs ∧ great l o xs ≤ 2147483648
  | [], o, _, ho => ho
  | x :: xs, o, hx, ho => by
    have h1 := hB.ep0 x (hx x (by simp))
    have h2 := hB.ep x (hx x (by simp))
    exact great_bd hB xs (maxI (gt l x).ep o) (fun y hy => hx y (by simp [hy])) (by unfold maxI; split <;> omega)

theorem setEp_length (e : Int) : ∀ (xs : List Nat) (o : List Ct), (xs.foldl (setEp e) o).length = o.length
  | [], o => rfl
  | x :: xs, o => by rw [List.foldl_cons, setEp_length e xs]; simp [setEp]

theorem elect_loop4 {l : List Ct} {R : List (List Bool)} {t : Int} {c : Nat} {e : Int} {X : List (List PV)} {y z : Int} {kv : List (Int × MV)} : ∀ (xs pre : List Nat) (out : List Ct), pre.length + xs.length ≤ 1000 → (∀ x ∈ xs, x < out.length) →
    lp E (denC E) 25 0 [] 4 { vals := [AV.int .i64 t, AV.int .i64 (c : Int), AV.int .i64 e, AV.sl 1 X, AV.int .i64 y, AV.int .i64 z, AV.sl 1 (ns (pre ++ xs)), AV.int .i64 (pre ++ xs).length, AV.int .i64 pre.length], blks := [bpt l R, Blk.box [AV.sl 3 [], AV.sl 1 []], Blk.tab true 0 kv, Blk.box [AV.t (.hsl 4), AV.sl 1 (rch R)], Blk.arr 3 (ctrs out)] } =
      some (Ex.exit 4, { vals := [AV.int .i64 t, AV.int .i64 (c : Int), AV.sl 1 X, AV.int .i64 y, AV.int .i64 z], blks := [bpt l R, Blk.box [AV.sl 3 [], AV.sl 1 []], Blk.tab true 0 kv, Blk.box [AV.t (.hsl 4), AV.sl 1 (rch R)], Blk.arr 3 (ctrs (xs.foldl (setEp e) out))] }) := by
  intro xs
  induction xs with
  | nil =>
    intro pre out hp hx
    rw [r25_4, ctl_dec, if_neg (by simp)]
    rfl
  | cons x xs ih =>
    intro pre out hp hx
    have hxl := hx x (by simp)
    have hg : (pre ++ x :: xs).getD pre.length 0 = x := by simp [List.getD]
    simp only [List.length_cons] at hp
    rw [r25_4, ctl_dec, if_pos (by simp; omega), getE_ns (by simp), hg]
    simp only [bnd_some, ctl_true, ctl_false, ctl_and, ctl_or', ctl_or2, x_toPV, x_toCs, x_toCs2, x_toEs, x_bEs, x_bCs, x_aPV, x_aCs, x_int, x_bool, x_str, x_es, x_esn, nth_0, nth_1, nth_2, nth_3, nth_4, nth_5, nth_6, nth_7, nth_8, nth_9, y_nil, y_int, y_bool, y_str, y_sl, y_nils, y_agg, y_ownp, y_own, z_nil, z_int, z_bool, z_str, z_sl, z_nils, b_nil, b_arr, b_box1, b_box2, b_box3, b_box4, List.map_cons, List.map_nil, Bool.and_self, Bool.and_true, Bool.true_and, Bool.not_true, Bool.not_false, Bool.or_false, Bool.false_or, cond_true, cond_false, okPack, okPut, okPutBlks, okPutCells, q_isP, q_isAg, q_isBox, q_isArr, q_int, q_bool, q_str, q_sl, q_nils, e_exit, e_ret, e_nrm, e_ret_exit, e_exit_ret, e_nrm_exit, e_nrm_ret, e_exit_nrm, e_ret_nrm, Nat.zero_add, Nat.reduceAdd, noslR, noslP, noslB, noslA, List.all_cons, List.all_nil]
    have e1 : (pre.length : Int) + 1 = ((pre ++ [x]).length : Int) := by simp
    have e2 : pre ++ x :: xs = (pre ++ [x]) ++ xs := by simp
    rw [ctrs_length, in_len hxl, ctl_true, Int.toNat_natCast, setEs_ep hxl, w64 (n := (pre.length : Int) + 1) (by omega), e1, e2, ih (pre ++ [x]) _ (by simp; omega) fun y hy => by simpa using hx y (by simp [hy])]
    rfl

def electR (R : List (List Bool)) : Option (List Ct) → Ex × Pack
  | some o => (Ex.exit 2, { vals := [], blks := [Blk.box [AV.sl 3 [], AV.sl 1 []], Blk.box [AV.t (.hsl 2), AV.sl 1 (rch R)], Blk.arr 3 (ctrs o)] })
  | none => (Ex.ret, { vals := [AV.bool false], blks := [Blk.box [AV.sl 3 [], AV.sl 1 []]] })

theorem elect_loop2 {l : List Ct} {R : List (List Bool)} (hS : Sq l R) (hB : Bd l) {t : Int} {V : Nat → List Nat} {kv : List (Int × MV)}
    (hV : ∀ c : Nat, MV.pvOk (.sl 1) (kvGet (MV.pv .nils) (c : Int) kv) = true ∧ (kvGet (MV.pv .nils) (c : Int) kv).toPV.toEs = ns (V c)) (hV5 : ∀ c, (V c).length ≤ 5) (hVl : ∀ c, ∀ i ∈ V c, i < l.length) :
    ∀ (cs pre : List Nat) (out : List Ct), pre.length + cs.length ≤ 1000 → (∀ c ∈ cs, c < l.length) → out.length = l.length →
    lp E (denC E) 25 0 [] 2 { vals := [AV.int .i64 t, AV.sl 1 (ns (pre ++ cs)), AV.int .i64 (pre ++ cs).length, AV.int .i64 pre.length], blks := [bpt l R, Blk.box [AV.sl 3 [], AV.sl 1 []], Blk.tab true 0 kv, Blk.box [AV.t (.hsl 4), AV.sl 1 (rch R)], Blk.arr 3 (ctrs out)] } =
      some (electR R (elect l t V cs out)) := by
  have h1 := hS.n1
  have h5 := hS.n5
  intro cs
  induction cs with
  | nil =>
    intro pre out hp hc ho
    rw [r25_2, ctl_dec, if_neg (by simp)]
    rfl
  | cons c cs ih =>
    intro pre out hp hc ho
    have hcl := hc c (by simp)
    have hg : (pre ++ c :: cs).getD pre.length 0 = c := by simp [List.getD]
    simp only [List.length_cons] at hp
    obtain ⟨v1, v2⟩ := hV c
    have hv5 := hV5 c
    have hvl := hVl c
    have e1 : (pre.length : Int) + 1 = ((pre ++ [c]).length : Int) := by simp
    have e2 : pre ++ c :: cs = (pre ++ [c]) ++ cs := by simp
    rw [r25_2, ctl_dec, if_pos (by simp; omega), getE_ns (by simp), hg]
    simp only [bnd_some, ctl_true, ctl_false, ctl_and, ctl_or', ctl_or2, x_toPV, x_toCs, x_toCs2, x_toEs, x_bEs, x_bCs, x_aPV, x_aCs, x_int, x_bool, x_str, x_es, x_esn, nth_0, nth_1, nth_2, nth_3, nth_4, nth_5, nth_6, nth_7, nth_8, nth_9, y_nil, y_int, y_bool, y_str, y_sl, y_nils, y_agg, y_ownp, y_own, z_nil, z_int, z_bool, z_str, z_sl, z_nils, b_nil, b_arr, b_box1, b_box2, b_box3, b_box4, List.map_cons, List.map_nil, Bool.and_self, Bool.and_true, Bool.true_and, Bool.not_true, Bool.not_false, Bool.or_false, Bool.false_or, cond_true, cond_false, okPack, okPut, okPutBlks, okPutCells, q_isP, q_isAg, q_isBox, q_isArr, q_int, q_bool, q_str, q_sl, q_nils, e_exit, e_ret, e_nrm, e_ret_exit, e_exit_ret, e_nrm_exit, e_nrm_ret, e_exit_nrm, e_ret_nrm, Nat.zero_add, Nat.reduceAdd, noslR, noslP, noslB, noslA, List.all_cons, List.all_nil]
    rw [v1, v2, ns_length, c_maj (by omega), w64 (n := (pre.length : Int) + 1) (by omega)]
    simp only [bnd_some, ctl_true, ctl_false, ctl_and, ctl_or', ctl_or2, x_toPV, x_toCs, x_toCs2, x_toEs, x_bEs, x_bCs, x_aPV, x_aCs, x_int, x_bool, x_str, x_es, x_esn, nth_0, nth_1, nth_2, nth_3, nth_4, nth_5, nth_6, nth_7, nth_8, nth_9, y_nil, y_int, y_bool, y_str, y_sl, y_nils, y_agg, y_ownp, y_own, z_nil, z_int, z_bool, z_str, z_sl, z_nils, b_nil, b_arr, b_box1, b_box2, b_box3, b_box4, List.map_cons, List.map_nil, Bool.and_self, Bool.and_true, Bool.true_and, Bool.not_true, Bool.not_false, Bool.or_false, Bool.false_or, cond_true, cond_false, okPack, okPut, okPutBlks, okPutCells, q_isP, q_isAg, q_isBox, q_isArr, q_int, q_bool, q_str, q_sl, q_nils, e_exit, e_ret, e_nrm, e_ret_exit, e_exit_ret, e_nrm_exit, e_nrm_ret, e_exit_nrm, e_ret_nrm, Nat.zero_add, Nat.reduceAdd, noslR, noslP, noslB, noslA, List.all_cons, List.all_nil]
    unfold elect
    cases hm : maj l (V c).length with
    | false =>
      rw [Bool.not_false, ctl_true, if_neg (by simp), e1, e2]
      exact ih (pre ++ [c]) out (by simp; omega) (fun y hy => hc y (by simp [hy])) ho
    | true =>
      have hn1 : 1 ≤ (V c).length := by
        have : (l.length : Int) < 2 * ((V c).length : Nat) := by simpa [maj] using hm
        omega
      have en : ns (V c) ++ [[PV.int IntKind.i64 (c : Int)]] = ns (V c ++ [c]) := by simp [ns]
      have hlt : ∀ x ∈ V c ++ [c], x < l.length := fun x hx => by
        rcases List.mem_append.1 hx with h | h
        · exact hvl x h
        · rw [List.mem_singleton] at h; rw [h]; exact hcl
      have hgb := great_bd hB (V c ++ [c]) 0 hlt (by omega)
      have hle : leN (((ns (V c)).length + 1) * 8) 140737488355328 = true := by rw [ns_length]; simp only [decide_eq_true_eq]; omega
      have hlen : (V c ++ [c]).length ≤ 1000 := by simp; omega
      rw [Bool.not_true, ctl_false, if_pos rfl, c_clone1 hn1 (by omega)]
      simp only [bnd_some, ctl_true, ctl_false, ctl_and, ctl_or', ctl_or2, x_toPV, x_toCs, x_toCs2, x_toEs, x_bEs, x_bCs, x_aPV, x_aCs, x_int, x_bool, x_str, x_es, x_esn, nth_0, nth_1, nth_2, nth_3, nth_4, nth_5, nth_6, nth_7, nth_8, nth_9, y_nil, y_int, y_bool, y_str, y_sl, y_nils, y_agg, y_ownp, y_own, z_nil, z_int, z_bool, z_str, z_sl, z_nils, b_nil, b_arr, b_box1, b_box2, b_box3, b_box4, List.map_cons, List.map_nil, Bool.and_self, Bool.and_true, Bool.true_and, Bool.not_true, Bool.not_false, Bool.or_false, Bool.false_or, cond_true, cond_false, okPack, okPut, okPutBlks, okPutCells, q_isP, q_isAg, q_isBox, q_isArr, q_int, q_bool, q_str, q_sl, q_nils, e_exit, e_ret, e_nrm, e_ret_exit, e_exit_ret, e_nrm_exit, e_nrm_ret, e_exit_nrm, e_ret_nrm, Nat.zero_add, Nat.reduceAdd, noslR, noslP, noslB, noslA, List.all_cons, List.all_nil]
      rw [hle, en, c_great h5 _ hlen hlt]
      simp only [bnd_some, ctl_true, ctl_false, ctl_and, ctl_or', ctl_or2, x_toPV, x_toCs, x_toCs2, x_toEs, x_bEs, x_bCs, x_aPV, x_aCs, x_int, x_bool, x_str, x_es, x_esn, nth_0, nth_1, nth_2, nth_3, nth_4, nth_5, nth_6, nth_7, nth_8, nth_9, y_nil, y_int, y_bool, y_str, y_sl, y_nils, y_agg, y_ownp, y_own, z_nil, z_int, z_bool, z_str, z_sl, z_nils, b_nil, b_arr, b_box1, b_box2, b_box3, b_box4, List.map_cons, List.map_nil, Bool.and_self, Bool.and_true, Bool.true_and, Bool.not_true, Bool.not_false, Bool.or_false, Bool.false_or, cond_true, cond_false, okPack, okPut, okPutBlks, okPutCells, q_isP, q_isAg, q_isBox, q_isArr, q_int, q_bool, q_str, q_sl, q_nils, e_exit, e_ret, e_nrm, e_ret_exit, e_exit_ret, e_nrm_exit, e_nrm_ret, e_exit_nrm, e_ret_nrm, Nat.zero_add, Nat.reduceAdd, noslR, noslP, noslB, noslA, List.all_cons, List.all_nil]
      rw [w64 (n := 1 + great l 0 (V c ++ [c])) (by omega), ctl_dec]
      by_cases hbig : 2147483648 < 1 + great l 0 (V c ++ [c])
      · rw [if_pos hbig, if_pos hbig]
        rfl
      · have h4 := elect_loop4 (l := l) (R := R) (t := t) (c := c) (e := 1 + great l 0 (V c ++ [c])) (X := ns (pre ++ c :: cs)) (y := ((pre ++ c :: cs).length : Int)) (z := (pre.length : Int)) (kv := kv) (V c ++ [c]) [] out (by simpa using hlen) (fun x hx => by rw [ho]; exact hlt x hx)
        rw [List.nil_append, List.length_nil, nc0] at h4
        rw [if_neg hbig, if_neg hbig, ns_length, h4]
        simp only [bnd_some, ctl_true, ctl_false, ctl_and, ctl_or', ctl_or2, x_toPV, x_toCs, x_toCs2, x_toEs, x_bEs, x_bCs, x_aPV, x_aCs, x_int, x_bool, x_str, x_es, x_esn, nth_0, nth_1, nth_2, nth_3, nth_4, nth_5, nth_6, nth_7, nth_8, nth_9, y_nil, y_int, y_bool, y_str, y_sl, y_nils, y_agg, y_ownp, y_own, z_nil, z_int, z_bool, z_str, z_sl, z_nils, b_nil, b_arr, b_box1, b_box2, b_box3, b_box4, List.map_cons, List.map_nil, Bool.and_self, Bool.and_true, Bool.true_and, Bool.not_true, Bool.not_false, Bool.or_false, Bool.false_or, cond_true, cond_false, okPack, okPut, okPutBlks, okPutCells, q_isP, q_isAg, q_isBox, q_isArr, q_int, q_bool, q_str, q_sl, q_nils, e_exit, e_ret, e_nrm, e_ret_exit, e_exit_ret, e_nrm_exit, e_nrm_ret, e_exit_nrm, e_ret_nrm, Nat.zero_add, Nat.reduceAdd, noslR, noslP, noslB, noslA, List.all_cons, List.all_nil, iT_m0, iT_3, k_kvs]
        have ho2 : ((V c ++ [c]).foldl (setEp (1 + great l 0 (V c ++ [c]))) out).length = l.length := by rw [setEp_length]; exact ho
        rw [ctrs_length, ho2, in_len hcl, ctl_true, Int.toNat_natCast, setEs_st (by omega), ctrs_length, List.length_set, ho2, in_len hcl, ctl_true, setEs_hd (by rw [List.length_set, ho2]; exact hcl), w64 (n := (pre.length : Int) + 1) (by omega), e1, e2]
        have ec : ∀ o : List Ct, c < o.length → (o.set c ⟨1, (gt o c).ep, (gt o c).hd⟩).set c ⟨(gt (o.set c ⟨1, (gt o c).ep, (gt o c).hd⟩) c).st, (gt (o.set c ⟨1, (gt o c).ep, (gt o c).hd⟩) c).ep, t⟩ = crown t o c := fun o h => by
          have : gt (o.set c ⟨1, (gt o c).ep, (gt o c).hd⟩) c = ⟨1, (gt o c).ep, (gt o c).hd⟩ := by simp [gt, List.getD, h]
          rw [this, List.set_set]
          rfl
        rw [ec _ (by omega)]
        exact ih (pre ++ [c]) _ (by simp; omega) (fun y hy => hc y (by simp [hy])) (by unfold crown; rw [List.length_set]; exact ho2)

theorem votes_lt {l : List Ct} {R : List (List Bool)} {all : List Nat} {k c i : Nat} (h : i ∈ votesL l R all k c) : i < k := by
  have := (List.mem_filter.1 h).1
  simp at this
  exact this

def electM (l : List Ct) (R : List (List Bool)) (t d : Int) : Option (List Ct) := elect l t (votesL l R (candL l R t d) l.length) (candL l R t d) l
theorem c_elect {l : List Ct} {R : List (List Bool)} (hS : Sq l R) (hB : Bd l) {t d : Int} (ht : 0 ≤ t ∧ t ≤ 2147483648) :
    denC E 25 [pty l R, AV.int .i64 t, AV.int .i64 d] [] = some (match electM l R t d with
      | some o => ([RV.agg [PV.sl 3 (ctrs o), PV.sl 1 (rch R)], RV.p (PV.bool true)], [])
      | none => ([RV.agg [PV.sl 3 [], PV.sl 1 []], RV.p (PV.bool false)], [])) := by
  have h1 := hS.n1
  have h5 := hS.n5
  have hcl := cand_len (l := l) (R := R) (t := t) (d := d)
  obtain ⟨kv, hkv, h0⟩ := elect_loop0 hS (t := t) (all := candL l R t d) (by omega) l.length 0 [] (by omega) (fun c => rfl)
  have h2 := elect_loop2 hS hB (t := t) (V := votesL l R (candL l R t d) l.length) (kv := kv.map fun x => (x.1, MV.pv (x.2.frz 1))) (fun c => kv_frz (hkv c)) (fun c => by have := votes_len (l := l) (R := R) (all := candL l R t d) (k := l.length) (c := c); omega) (fun c i hi => votes_lt hi) (candL l R t d) [] l (by simp; omega) (fun c hc => cand_lt hc) rfl
  rw [nc0] at h0
  rw [List.nil_append, List.length_nil, nc0] at h2
  rw [denC_eq, r25, c_cand hS hB ht]
  simp only [bnd_some, ctl_true, ctl_false, ctl_and, ctl_or', ctl_or2, x_toPV, x_toCs, x_toCs2, x_toEs, x_bEs, x_bCs, x_aPV, x_aCs, x_int, x_bool, x_str, x_es, x_esn, nth_0, nth_1, nth_2, nth_3, nth_4, nth_5, nth_6, nth_7, nth_8, nth_9, y_nil, y_int, y_bool, y_str, y_sl, y_nils, y_agg, y_ownp, y_own, z_nil, z_int, z_bool, z_str, z_sl, z_nils, b_nil, b_arr, b_box1, b_box2, b_box3, b_box4, List.map_cons, List.map_nil, Bool.and_self, Bool.and_true, Bool.true_and, Bool.not_true, Bool.not_false, Bool.or_false, Bool.false_or, cond_true, cond_false, okPack, okPut, okPutBlks, okPutCells, q_isP, q_isAg, q_isBox, q_isArr, q_int, q_bool, q_str, q_sl, q_nils, e_exit, e_ret, e_nrm, e_ret_exit, e_exit_ret, e_nrm_exit, e_nrm_ret, e_exit_nrm, e_ret_nrm, Nat.zero_add, Nat.reduceAdd, noslR, noslP, noslB, noslA, List.all_cons, List.all_nil]
  rw [ctrs_length, h0]
  simp only [bnd_some, ctl_true, ctl_false, ctl_and, ctl_or', ctl_or2, x_toPV, x_toCs, x_toCs2, x_toEs, x_bEs, x_bCs, x_aPV, x_aCs, x_int, x_bool, x_str, x_es, x_esn, nth_0, nth_1, nth_2, nth_3, nth_4, nth_5, nth_6, nth_7, nth_8, nth_9, y_nil, y_int, y_bool, y_str, y_sl, y_nils, y_agg, y_ownp, y_own, z_nil, z_int, z_bool, z_str, z_sl, z_nils, b_nil, b_arr, b_box1, b_box2, b_box3, b_box4, List.map_cons, List.map_nil, Bool.and_self, Bool.and_true, Bool.true_and, Bool.not_true, Bool.not_false, Bool.or_false, Bool.false_or, cond_true, cond_false, okPack, okPut, okPutBlks, okPutCells, q_isP, q_isAg, q_isBox, q_isArr, q_int, q_bool, q_str, q_sl, q_nils, e_exit, e_ret, e_nrm, e_ret_exit, e_exit_ret, e_nrm_exit, e_nrm_ret, e_exit_nrm, e_ret_nrm, Nat.zero_add, Nat.reduceAdd, noslR, noslP, noslB, noslA, List.all_cons, List.all_nil, iT_m1, k_kvs]
  rw [c_clone3 h1 (by omega)]
  simp only [bnd_some, ctl_true, ctl_false, ctl_and, ctl_or', ctl_or2, x_toPV, x_toCs, x_toCs2, x_toEs, x_bEs, x_bCs, x_aPV, x_aCs, x_int, x_bool, x_str, x_es, x_esn, nth_0, nth_1, nth_2, nth_3, nth_4, nth_5, nth_6, nth_7, nth_8, nth_9, y_nil, y_int, y_bool, y_str, y_sl, y_nils, y_agg, y_ownp, y_own, z_nil, z_int, z_bool, z_str, z_sl, z_nils, b_nil, b_arr, b_box1, b_box2, b_box3, b_box4, List.map_cons, List.map_nil, Bool.and_self, Bool.and_true, Bool.true_and, Bool.not_true, Bool.not_false, Bool.or_false, Bool.false_or, cond_true, cond_false, okPack, okPut, okPutBlks, okPutCells, q_isP, q_isAg, q_isBox, q_isArr, q_int, q_bool, q_str, q_sl, q_nils, e_exit, e_ret, e_nrm, e_ret_exit, e_exit_ret, e_nrm_exit, e_nrm_ret, e_exit_nrm, e_ret_nrm, Nat.zero_add, Nat.reduceAdd, noslR, noslP, noslB, noslA, List.all_cons, List.all_nil]
  rw [ns_length, h2]
  unfold electM
  cases elect l t (votesL l R (candL l R t d) l.length) (candL l R t d) l with
  | none => rfl
  | some o => rfl

end Go.Proofs.Ytcgpckiieocdbaa.Vm

/- Chapter 33: contracts: Check, Tick, Heard, Crash, Fence, New. -/
namespace Go.Proofs.Ytcgpckiieocdbaa.Vm
set_option linter.unusedVariables false
set_option linter.unusedSimpArgs false

def okC (t : Int) (c : Ct) : Prop := (0 ≤ c.st ∧ c.st ≤ 2) ∧ (0 ≤ c.ep ∧ c.ep ≤ 2147483648) ∧ (0 ≤ c.hd ∧ c.hd ≤ t)
structure Val (l : List Ct) (t : Int) : Prop where
  n1 : 1 ≤ l.length
  n5 : l.length ≤ 5
  c : ∀ i, i < l.length → okC t (gt l i)

theorem Val.bd {l : List Ct} {t : Int} (h : Val l t) (ht : t ≤ 2147483648) : Bd l :=
  ⟨fun i hi => (h.c i hi).2.1.1, fun i hi => (h.c i hi).2.1.2, fun i hi => (h.c i hi).2.2.1, fun i hi => by have := (h.c i hi).2.2.2; omega⟩
theorem Val.each {l : List Ct} {t : Int} (h : Val l t) {f : Nat → Ct → Ct} (hf : ∀ i c, i < l.length → okC t c → okC t (f i c)) : Val (eachL l f) t := by
  refine ⟨by rw [eachL_length]; exact h.n1, by rw [eachL_length]; exact h.n5, fun i hi => ?_⟩
  rw [eachL_length] at hi
  rw [gt_each hi]
  unfold eachC
  split
  · exact hf i _ hi (h.c i hi)
  · exact h.c i hi
theorem Val.t1 {l : List Ct} {R} {t : Int} (h : Val l t) (ht : t ≤ 2147483648) : Val (t1 l R) t := h.each fun i c hi hc => ⟨hc.1, great_bd (h.bd ht) _ 0 (fun x hx => hears_lt hx) (by omega), hc.2.2⟩
theorem Val.t2 {l : List Ct} {R} {t : Int} (h : Val l t) (ht : t ≤ 2147483648) : Val (t2 l R) t := (h.t1 ht).each fun i c hi hc => by
  unfold yieldC
  split
  · exact ⟨by simp, hc.2⟩
  · exact hc
theorem Val.t3 {l : List Ct} {R} {t : Int} (h : Val l t) (ht : 0 ≤ t ∧ t ≤ 2147483648) : Val (t3 l R t) t := (h.t2 ht.2).each fun i c hi hc => by
  unfold listenC
  split
  · exact ⟨hc.1, hc.2.1, ht.1, Int.le_refl t⟩
  · exact hc

theorem check_loop {l : List Ct} {t : Int} (hV : Val l t) : ∀ (m k : Nat), k + m = l.length →
    lp E (denC E) 28 0 [] 0 { vals := [AV.int .i64 t, AV.sl 3 (ctrs l), AV.int .i64 l.length, AV.int .i64 k], blks := [] } = some (Ex.exit 0, { vals := [], blks := [] }) := by
  have h5 := hV.n5
  intro m
  induction m with
  | zero =>
    intro k hk
    rw [r28_0, ctl_dec, if_neg (by omega)]
  | succ m ih =>
    intro k hk
    have hkl : k < l.length := by omega
    obtain ⟨h1, h2, h3⟩ := hV.c k hkl
    rw [r28_0, ctl_dec, if_pos (by omega), getE_ctrs hkl]
    simp only [bnd_some, ctl_true, ctl_false, ctl_and, ctl_or', ctl_or2, x_toPV, x_toCs, x_toCs2, x_toEs, x_bEs, x_bCs, x_aPV, x_aCs, x_int, x_bool, x_str, x_es, x_esn, nth_0, nth_1, nth_2, nth_3, nth_4, nth_5, nth_6, nth_7, nth_8, nth_9, y_nil, y_int, y_bool, y_str, y_sl, y_nils, y_agg, y_ownp, y_own, z_nil, z_int, z_bool, z_str, z_sl, z_nils, b_nil, b_arr, b_box1, b_box2, b_box3, b_box4, List.map_cons, List.map_nil, Bool.and_self, Bool.and_true, Bool.true_and, Bool.not_true, Bool.not_false, Bool.or_false, Bool.false_or, cond_true, cond_false, okPack, okPut, okPutBlks, okPutCells, q_isP, q_isAg, q_isBox, q_isArr, q_int, q_bool, q_str, q_sl, q_nils, e_exit, e_ret, e_nrm, e_ret_exit, e_exit_ret, e_nrm_exit, e_nrm_ret, e_exit_nrm, e_ret_nrm, Nat.zero_add, Nat.reduceAdd, noslR, noslP, noslB, noslA, List.all_cons, List.all_nil, ctl_or']
    have e1 : ltB (gt l k).st 0 = false := by simp only [decide_eq_false_iff_not]; omega
    have e2 : ltB 2 (gt l k).st = false := by simp only [decide_eq_false_iff_not]; omega
    have e3 : ltB (gt l k).ep 0 = false := by simp only [decide_eq_false_iff_not]; omega
    have e4 : ltB 2147483648 (gt l k).ep = false := by simp only [decide_eq_false_iff_not]; omega
    have e5 : ltB (gt l k).hd 0 = false := by simp only [decide_eq_false_iff_not]; omega
    have e6 : ltB t (gt l k).hd = false := by simp only [decide_eq_false_iff_not]; omega
    rw [e1, e2, e3, e4, e5, e6, w64 (n := (k : Int) + 1) (by omega), succ_cast]
    exact ih (k + 1) (by omega)

theorem c_Check {l : List Ct} {t : Int} (hV : Val l t) : denC E 28 [AV.sl 3 (ctrs l), AV.int .i64 t] [] = some ([RV.p (PV.int .i64 0)], []) := by
  have h := check_loop hV l.length 0 (by omega)
  have h1 := hV.n1
  have h5 := hV.n5
  rw [nc0] at h
  have e1 : ltB (l.length : Int) 1 = false := by simp only [decide_eq_false_iff_not]; omega
  have e2 : ltB 5 (l.length : Int) = false := by simp only [decide_eq_false_iff_not]; omega
  rw [denC_eq, r28, ctrs_length, e1, e2, h]
  simp only [bnd_some, ctl_true, ctl_false, ctl_and, ctl_or', ctl_or2, x_toPV, x_toCs, x_toCs2, x_toEs, x_bEs, x_bCs, x_aPV, x_aCs, x_int, x_bool, x_str, x_es, x_esn, nth_0, nth_1, nth_2, nth_3, nth_4, nth_5, nth_6, nth_7, nth_8, nth_9, y_nil, y_int, y_bool, y_str, y_sl, y_nils, y_agg, y_ownp, y_own, z_nil, z_int, z_bool, z_str, z_sl, z_nils, b_nil, b_arr, b_box1, b_box2, b_box3, b_box4, List.map_cons, List.map_nil, Bool.and_self, Bool.and_true, Bool.true_and, Bool.not_true, Bool.not_false, Bool.or_false, Bool.false_or, cond_true, cond_false, okPack, okPut, okPutBlks, okPutCells, q_isP, q_isAg, q_isBox, q_isArr, q_int, q_bool, q_str, q_sl, q_nils, e_exit, e_ret, e_nrm, e_ret_exit, e_exit_ret, e_nrm_exit, e_nrm_ret, e_exit_nrm, e_ret_nrm, Nat.zero_add, Nat.reduceAdd, noslR, noslP, noslB, noslA, List.all_cons, List.all_nil]

theorem shape_loop {l : List Ct} : ∀ (xs pre : List (List Bool)), pre.length + xs.length ≤ 1000 → (∀ r ∈ xs, r.length = l.length) →
    lp E (denC E) 54 1 [AV.undef, AV.fn 50 [.ptr 0 0]] 0 { vals := [AV.sl 1 (rch (pre ++ xs)), AV.int .i64 (pre ++ xs).length, AV.int .i64 pre.length], blks := [Blk.box [AV.sl 3 (ctrs l)]] } =
      some (Ex.exit 0, { vals := [], blks := [Blk.box [AV.sl 3 (ctrs l)]] }) := by
  intro xs
  induction xs with
  | nil =>
    intro pre hp hx
    rw [r54_0a, ctl_dec, if_neg (by simp)]
  | cons x xs ih =>
    intro pre hp hx
    have hxl := hx x (by simp)
    have hg : (pre ++ x :: xs).getD pre.length [] = x := by simp [List.getD]
    simp only [List.length_cons] at hp
    have hc : denC E 50 [AV.sl 1 (brow x), AV.t (.ptr 0 0)] [Blk.box [AV.sl 3 (ctrs l)]] = some ([RV.p (PV.bool false)], [Blk.box [AV.sl 3 (ctrs l)]]) := by
      rw [denC_eq, r50, ctrs_length, List.length_map, hxl]
      simp
    have e1 : (pre.length : Int) + 1 = ((pre ++ [x]).length : Int) := by simp
    have e2 : pre ++ x :: xs = (pre ++ [x]) ++ xs := by simp
    rw [r54_0a, ctl_dec, if_pos (by simp; omega), getE_rch (by simp), hg]
    simp only [bnd_some, ctl_true, ctl_false, ctl_and, ctl_or', ctl_or2, x_toPV, x_toCs, x_toCs2, x_toEs, x_bEs, x_bCs, x_aPV, x_aCs, x_int, x_bool, x_str, x_es, x_esn, nth_0, nth_1, nth_2, nth_3, nth_4, nth_5, nth_6, nth_7, nth_8, nth_9, y_nil, y_int, y_bool, y_str, y_sl, y_nils, y_agg, y_ownp, y_own, z_nil, z_int, z_bool, z_str, z_sl, z_nils, b_nil, b_arr, b_box1, b_box2, b_box3, b_box4, List.map_cons, List.map_nil, Bool.and_self, Bool.and_true, Bool.true_and, Bool.not_true, Bool.not_false, Bool.or_false, Bool.false_or, cond_true, cond_false, okPack, okPut, okPutBlks, okPutCells, q_isP, q_isAg, q_isBox, q_isArr, q_int, q_bool, q_str, q_sl, q_nils, e_exit, e_ret, e_nrm, e_ret_exit, e_exit_ret, e_nrm_exit, e_nrm_ret, e_exit_nrm, e_ret_nrm, Nat.zero_add, Nat.reduceAdd, noslR, noslP, noslB, noslA, List.all_cons, List.all_nil]
    rw [hc, w64 (n := (pre.length : Int) + 1) (by omega)]
    simp only [bnd_some, ctl_true, ctl_false, ctl_and, ctl_or', ctl_or2, x_toPV, x_toCs, x_toCs2, x_toEs, x_bEs, x_bCs, x_aPV, x_aCs, x_int, x_bool, x_str, x_es, x_esn, nth_0, nth_1, nth_2, nth_3, nth_4, nth_5, nth_6, nth_7, nth_8, nth_9, y_nil, y_int, y_bool, y_str, y_sl, y_nils, y_agg, y_ownp, y_own, z_nil, z_int, z_bool, z_str, z_sl, z_nils, b_nil, b_arr, b_box1, b_box2, b_box3, b_box4, List.map_cons, List.map_nil, Bool.and_self, Bool.and_true, Bool.true_and, Bool.not_true, Bool.not_false, Bool.or_false, Bool.false_or, cond_true, cond_false, okPack, okPut, okPutBlks, okPutCells, q_isP, q_isAg, q_isBox, q_isArr, q_int, q_bool, q_str, q_sl, q_nils, e_exit, e_ret, e_nrm, e_ret_exit, e_exit_ret, e_nrm_exit, e_nrm_ret, e_exit_nrm, e_ret_nrm, Nat.zero_add, Nat.reduceAdd, noslR, noslP, noslB, noslA, List.all_cons, List.all_nil]
    rw [e1, e2]
    exact ih (pre ++ [x]) (by simp; omega) fun y hy => hx y (by simp [hy])

theorem Sq.rows {l : List Ct} {R : List (List Bool)} (h : Sq l R) : ∀ r ∈ R, r.length = l.length := by
  intro r hr
  obtain ⟨i, hi, rfl⟩ := List.getElem_of_mem hr
  have := h.c i (by rw [← h.r]; exact hi)
  simpa [List.getD, hi] using this

theorem c_shaped {l : List Ct} {R : List (List Bool)} (h : Sq l R) : denC E 29 [AV.sl 3 (ctrs l), AV.sl 1 (rch R)] [] = some ([RV.p (PV.bool true)], []) := by
  have h5 := h.n5
  have hl := shape_loop (l := l) R [] (by have := h.r; simp; omega) h.rows
  rw [List.nil_append, List.length_nil, nc0] at hl
  have h1 : denC E 54 [AV.sl 1 (rch R), AV.fn 50 [.ptr 0 0]] [Blk.box [AV.sl 3 (ctrs l)]] = some ([RV.p (PV.int .i64 (-1))], [Blk.box [AV.sl 3 (ctrs l)]]) := by
    rw [denC_eq, r54a, rch_length, hl]
    simp only [bnd_some, ctl_true, ctl_false, ctl_and, ctl_or', ctl_or2, x_toPV, x_toCs, x_toCs2, x_toEs, x_bEs, x_bCs, x_aPV, x_aCs, x_int, x_bool, x_str, x_es, x_esn, nth_0, nth_1, nth_2, nth_3, nth_4, nth_5, nth_6, nth_7, nth_8, nth_9, y_nil, y_int, y_bool, y_str, y_sl, y_nils, y_agg, y_ownp, y_own, z_nil, z_int, z_bool, z_str, z_sl, z_nils, b_nil, b_arr, b_box1, b_box2, b_box3, b_box4, List.map_cons, List.map_nil, Bool.and_self, Bool.and_true, Bool.true_and, Bool.not_true, Bool.not_false, Bool.or_false, Bool.false_or, cond_true, cond_false, okPack, okPut, okPutBlks, okPutCells, q_isP, q_isAg, q_isBox, q_isArr, q_int, q_bool, q_str, q_sl, q_nils, e_exit, e_ret, e_nrm, e_ret_exit, e_exit_ret, e_nrm_exit, e_nrm_ret, e_exit_nrm, e_ret_nrm, Nat.zero_add, Nat.reduceAdd, noslR, noslP, noslB, noslA, List.all_cons, List.all_nil]
  have h2 : denC E 49 [AV.sl 1 (rch R), AV.fn 50 [.ptr 0 0]] [Blk.box [AV.sl 3 (ctrs l)]] = some ([RV.p (PV.bool false)], [Blk.box [AV.sl 3 (ctrs l)]]) := by
    rw [denC_eq, r49a, h1]
    rfl
  rw [denC_eq, r29, rch_length, ctrs_length, h.r, h2]
  simp only [bnd_some, ctl_true, ctl_false, ctl_and, ctl_or', ctl_or2, x_toPV, x_toCs, x_toCs2, x_toEs, x_bEs, x_bCs, x_aPV, x_aCs, x_int, x_bool, x_str, x_es, x_esn, nth_0, nth_1, nth_2, nth_3, nth_4, nth_5, nth_6, nth_7, nth_8, nth_9, y_nil, y_int, y_bool, y_str, y_sl, y_nils, y_agg, y_ownp, y_own, z_nil, z_int, z_bool, z_str, z_sl, z_nils, b_nil, b_arr, b_box1, b_box2, b_box3, b_box4, List.map_cons, List.map_nil, Bool.and_self, Bool.and_true, Bool.true_and, Bool.not_true, Bool.not_false, Bool.or_false, Bool.false_or, cond_true, cond_false, okPack, okPut, okPutBlks, okPutCells, q_isP, q_isAg, q_isBox, q_isArr, q_int, q_bool, q_str, q_sl, q_nils, e_exit, e_ret, e_nrm, e_ret_exit, e_exit_ret, e_nrm_exit, e_nrm_ret, e_exit_nrm, e_ret_nrm, Nat.zero_add, Nat.reduceAdd, noslR, noslP, noslB, noslA, List.all_cons, List.all_nil, beq_self_eq_true]

theorem c_check {l : List Ct} {R : List (List Bool)} {t d : Int} (hV : Val l t) (hS : Sq l R) (ht : 0 ≤ t ∧ t ≤ 2147483648) (hd : 0 ≤ d ∧ d ≤ 600) : denC E 20 [AV.sl 3 (ctrs l), AV.sl 1 (rch R), AV.int .i64 t, AV.int .i64 d] [] = some ([RV.p (PV.int .i64 0)], []) := by
  have e1 : ltB t 0 = false := by simp only [decide_eq_false_iff_not]; omega
  have e2 : ltB 2147483648 t = false := by simp only [decide_eq_false_iff_not]; omega
  have e3 : ltB d 0 = false := by simp only [decide_eq_false_iff_not]; omega
  have e4 : ltB 600 d = false := by simp only [decide_eq_false_iff_not]; omega
  rw [denC_eq, r20, c_Check hV, c_shaped hS, e1, e2, e3, e4]
  rfl

theorem c_Tick {l : List Ct} {R : List (List Bool)} {t d : Int} (hV : Val l t) (hS : Sq l R) (ht : 0 ≤ t ∧ t ≤ 2147483648) (hd : 0 ≤ d ∧ d ≤ 600) :
    denC E 12 [AV.sl 3 (ctrs l), AV.sl 1 (rch R), AV.int .i64 t, AV.int .i64 d] [] = some (match electM (t3 l R t) R t d with
      | some o => ([RV.p (PV.sl 3 (ctrs o)), RV.p (PV.int .i64 0)], [])
      | none => ([RV.p (PV.sl 3 []), RV.p (PV.int .i64 2)], [])) := by
  have s1 : Sq (t1 l R) R := hS.each _
  have s2 : Sq (t2 l R) R := s1.each _
  have s3 : Sq (t3 l R t) R := s2.each _
  have hb : l.length = (t1 l R).length := by unfold t1; rw [eachL_length]
  have hE := c_elect s3 ((hV.t3 (R := R) ht).bd ht.2) (t := t) (d := d) ht
  rw [denC_eq, r12, c_check hV hS ht hd]
  simp only [bnd_some, ctl_true, ctl_false, ctl_and, ctl_or', ctl_or2, x_toPV, x_toCs, x_toCs2, x_toEs, x_bEs, x_bCs, x_aPV, x_aCs, x_int, x_bool, x_str, x_es, x_esn, nth_0, nth_1, nth_2, nth_3, nth_4, nth_5, nth_6, nth_7, nth_8, nth_9, y_nil, y_int, y_bool, y_str, y_sl, y_nils, y_agg, y_ownp, y_own, z_nil, z_int, z_bool, z_str, z_sl, z_nils, b_nil, b_arr, b_box1, b_box2, b_box3, b_box4, List.map_cons, List.map_nil, Bool.and_self, Bool.and_true, Bool.true_and, Bool.not_true, Bool.not_false, Bool.or_false, Bool.false_or, cond_true, cond_false, okPack, okPut, okPutBlks, okPutCells, q_isP, q_isAg, q_isBox, q_isArr, q_int, q_bool, q_str, q_sl, q_nils, e_exit, e_ret, e_nrm, e_ret_exit, e_exit_ret, e_nrm_exit, e_nrm_ret, e_exit_nrm, e_ret_nrm, Nat.zero_add, Nat.reduceAdd, noslR, noslP, noslB, noslA, List.all_cons, List.all_nil]
  rw [show ((0 : Int) != 0) = false from rfl, ctl_false, c_each_l hS]
  simp only [bnd_some, ctl_true, ctl_false, ctl_and, ctl_or', ctl_or2, x_toPV, x_toCs, x_toCs2, x_toEs, x_bEs, x_bCs, x_aPV, x_aCs, x_int, x_bool, x_str, x_es, x_esn, nth_0, nth_1, nth_2, nth_3, nth_4, nth_5, nth_6, nth_7, nth_8, nth_9, y_nil, y_int, y_bool, y_str, y_sl, y_nils, y_agg, y_ownp, y_own, z_nil, z_int, z_bool, z_str, z_sl, z_nils, b_nil, b_arr, b_box1, b_box2, b_box3, b_box4, List.map_cons, List.map_nil, Bool.and_self, Bool.and_true, Bool.true_and, Bool.not_true, Bool.not_false, Bool.or_false, Bool.false_or, cond_true, cond_false, okPack, okPut, okPutBlks, okPutCells, q_isP, q_isAg, q_isBox, q_isArr, q_int, q_bool, q_str, q_sl, q_nils, e_exit, e_ret, e_nrm, e_ret_exit, e_exit_ret, e_nrm_exit, e_nrm_ret, e_exit_nrm, e_ret_nrm, Nat.zero_add, Nat.reduceAdd, noslR, noslP, noslB, noslA, List.all_cons, List.all_nil]
  have hy : denC E 21 [pty (t1 l R) R, AV.fn 34 [.ptr 0 0, .ptr 1 0]] [bpt (t1 l R) R, bpt l R] = some ([RV.agg [PV.sl 3 (ctrs (t2 l R)), PV.sl 1 (rch R)]], [bpt (t1 l R) R, bpt l R]) := c_each_y s1 hb
  have hh : denC E 21 [pty (t2 l R) R, AV.fn 39 [.ptr 0 0, .ptr 1 0]] [bpt (t2 l R) R, Blk.box [AV.int .i64 t]] = some ([RV.agg [PV.sl 3 (ctrs (t3 l R t)), PV.sl 1 (rch R)]], [bpt (t2 l R) R, Blk.box [AV.int .i64 t]]) := c_each_h s2 t
  rw [show eachL l (learnC l R) = t1 l R from rfl, hy]
  simp only [bnd_some, ctl_true, ctl_false, ctl_and, ctl_or', ctl_or2, x_toPV, x_toCs, x_toCs2, x_toEs, x_bEs, x_bCs, x_aPV, x_aCs, x_int, x_bool, x_str, x_es, x_esn, nth_0, nth_1, nth_2, nth_3, nth_4, nth_5, nth_6, nth_7, nth_8, nth_9, y_nil, y_int, y_bool, y_str, y_sl, y_nils, y_agg, y_ownp, y_own, z_nil, z_int, z_bool, z_str, z_sl, z_nils, b_nil, b_arr, b_box1, b_box2, b_box3, b_box4, List.map_cons, List.map_nil, Bool.and_self, Bool.and_true, Bool.true_and, Bool.not_true, Bool.not_false, Bool.or_false, Bool.false_or, cond_true, cond_false, okPack, okPut, okPutBlks, okPutCells, q_isP, q_isAg, q_isBox, q_isArr, q_int, q_bool, q_str, q_sl, q_nils, e_exit, e_ret, e_nrm, e_ret_exit, e_exit_ret, e_nrm_exit, e_nrm_ret, e_exit_nrm, e_ret_nrm, Nat.zero_add, Nat.reduceAdd, noslR, noslP, noslB, noslA, List.all_cons, List.all_nil]
  rw [hh]
  simp only [bnd_some, ctl_true, ctl_false, ctl_and, ctl_or', ctl_or2, x_toPV, x_toCs, x_toCs2, x_toEs, x_bEs, x_bCs, x_aPV, x_aCs, x_int, x_bool, x_str, x_es, x_esn, nth_0, nth_1, nth_2, nth_3, nth_4, nth_5, nth_6, nth_7, nth_8, nth_9, y_nil, y_int, y_bool, y_str, y_sl, y_nils, y_agg, y_ownp, y_own, z_nil, z_int, z_bool, z_str, z_sl, z_nils, b_nil, b_arr, b_box1, b_box2, b_box3, b_box4, List.map_cons, List.map_nil, Bool.and_self, Bool.and_true, Bool.true_and, Bool.not_true, Bool.not_false, Bool.or_false, Bool.false_or, cond_true, cond_false, okPack, okPut, okPutBlks, okPutCells, q_isP, q_isAg, q_isBox, q_isArr, q_int, q_bool, q_str, q_sl, q_nils, e_exit, e_ret, e_nrm, e_ret_exit, e_exit_ret, e_nrm_exit, e_nrm_ret, e_exit_nrm, e_ret_nrm, Nat.zero_add, Nat.reduceAdd, noslR, noslP, noslB, noslA, List.all_cons, List.all_nil]
  rw [hE]
  cases electM (t3 l R t) R t d <;> rfl

theorem c_Fence {e c : Int} (he : 0 ≤ e ∧ e ≤ 2147483648) (hc : 0 ≤ c ∧ c ≤ 2147483648) : denC E 13 [AV.int .i64 e, AV.int .i64 c] [] = some (if c < e then ([RV.p (PV.int .i64 0), RV.p (PV.int .i64 69)], []) else ([RV.p (PV.int .i64 c), RV.p (PV.int .i64 0)], [])) := by
  have e1 : ltB e 0 = false := by simp only [decide_eq_false_iff_not]; omega
  have e2 : ltB 2147483648 e = false := by simp only [decide_eq_false_iff_not]; omega
  have e3 : ltB c 0 = false := by simp only [decide_eq_false_iff_not]; omega
  have e4 : ltB 2147483648 c = false := by simp only [decide_eq_false_iff_not]; omega
  rw [denC_eq, r13, e1, e2, e3, e4]
  simp only [bnd_some, ctl_true, ctl_false, ctl_and, ctl_or', ctl_or2, x_toPV, x_toCs, x_toCs2, x_toEs, x_bEs, x_bCs, x_aPV, x_aCs, x_int, x_bool, x_str, x_es, x_esn, nth_0, nth_1, nth_2, nth_3, nth_4, nth_5, nth_6, nth_7, nth_8, nth_9, y_nil, y_int, y_bool, y_str, y_sl, y_nils, y_agg, y_ownp, y_own, z_nil, z_int, z_bool, z_str, z_sl, z_nils, b_nil, b_arr, b_box1, b_box2, b_box3, b_box4, List.map_cons, List.map_nil, Bool.and_self, Bool.and_true, Bool.true_and, Bool.not_true, Bool.not_false, Bool.or_false, Bool.false_or, cond_true, cond_false, okPack, okPut, okPutBlks, okPutCells, q_isP, q_isAg, q_isBox, q_isArr, q_int, q_bool, q_str, q_sl, q_nils, e_exit, e_ret, e_nrm, e_ret_exit, e_exit_ret, e_nrm_exit, e_nrm_ret, e_exit_nrm, e_ret_nrm, Nat.zero_add, Nat.reduceAdd, noslR, noslP, noslB, noslA, List.all_cons, List.all_nil]
  rw [ctl_dec]
  split <;> rfl

def crashL (l : List Ct) (i : Nat) : List Ct := l.set i ⟨2, (gt l i).ep, (gt l i).hd⟩

def new (n : Nat) : List Ct := List.replicate n ⟨0, 0, 0⟩
theorem c_FNew {n : Nat} (h : 1 ≤ n ∧ n ≤ 5) : denC E 7 [AV.int .i64 (n : Int)] [] = some ([RV.p (PV.sl 3 (ctrs (new n))), RV.p (PV.int .i64 0)], []) := by
  have e1 : ltB (n : Int) 1 = false := by simp only [decide_eq_false_iff_not]; omega
  have e2 : ltB 5 (n : Int) = false := by simp only [decide_eq_false_iff_not]; omega
  have er : reps [PV.int .i64 0, PV.int .i64 0, PV.int .i64 0] n = ctrs (new n) := by rw [reps_eq]; simp [new, ctrs]
  rw [denC_eq, r7, e1, e2]
  simp only [bnd_some, ctl_true, ctl_false, ctl_and, ctl_or', ctl_or2, x_toPV, x_toCs, x_toCs2, x_toEs, x_bEs, x_bCs, x_aPV, x_aCs, x_int, x_bool, x_str, x_es, x_esn, nth_0, nth_1, nth_2, nth_3, nth_4, nth_5, nth_6, nth_7, nth_8, nth_9, y_nil, y_int, y_bool, y_str, y_sl, y_nils, y_agg, y_ownp, y_own, z_nil, z_int, z_bool, z_str, z_sl, z_nils, b_nil, b_arr, b_box1, b_box2, b_box3, b_box4, List.map_cons, List.map_nil, Bool.and_self, Bool.and_true, Bool.true_and, Bool.not_true, Bool.not_false, Bool.or_false, Bool.false_or, cond_true, cond_false, okPack, okPut, okPutBlks, okPutCells, q_isP, q_isAg, q_isBox, q_isArr, q_int, q_bool, q_str, q_sl, q_nils, e_exit, e_ret, e_nrm, e_ret_exit, e_exit_ret, e_nrm_exit, e_nrm_ret, e_exit_nrm, e_ret_nrm, Nat.zero_add, Nat.reduceAdd, noslR, noslP, noslB, noslA, List.all_cons, List.all_nil]
  have h1 : (leB 0 (n : Int) && (leB (n : Int) n && (leB (n : Int) 9223372036854775807 && leB ((n : Int) * 24) 140737488355328))) = true := by
    simp only [Bool.and_eq_true, decide_eq_true_eq]; omega
  rw [h1, ctl_true, Int.toNat_natCast, er]

end Go.Proofs.Ytcgpckiieocdbaa.Vm

/- Chapter 33: contracts: full, Reach, Controllers, sane. -/
namespace Go.Proofs.Ytcgpckiieocdbaa.Vm
set_option linter.unusedVariables false
set_option linter.unusedSimpArgs false

def tabR (X : List (List Bool)) : List (Int × MV) := X.map fun r => ((0 : Int), MV.row (brow r))
theorem tabR_length (X) : (tabR X).length = X.length := by simp [tabR]
theorem tabR_get {X : List (List Bool)} {i : Nat} (h : i < X.length) : nth (0, MV.gone) (tabR X) i = ((0 : Int), MV.row (brow (X.getD i []))) := by
  rw [nth_eq]; simp [tabR, List.getD, h]
theorem tabR_set {X : List (List Bool)} {i : Nat} (r : List Bool) : upd (0, MV.row (brow r)) (upd (0, MV.gone) (tabR X) i) i = tabR (X.set i r) := by
  rw [upd_eq, upd_eq, List.set_set]; simp [tabR, List.map_set]
theorem tabR_rch (X : List (List Bool)) : List.map (fun (x : Int × MV) => [MV.frz 1 x.snd]) (tabR X) = rch X := by simp [tabR, rch, MV.frz]
theorem tabR_new (n : Nat) : reps ((0 : Int), MV.row []) n = tabR (List.replicate n []) := by rw [reps_eq]; simp [tabR]
theorem m_es (r) : (MV.row r).toEs = r := rfl
theorem m_row (r) : (MV.row r).isRow = true := rfl
theorem setD_eq {X : List (List Bool)} {i : Nat} {r : List Bool} (h : i < X.length) : (X.set i r).getD i [] = r := by simp [List.getD, h]
theorem setD_ne {X : List (List Bool)} {i j : Nat} {r : List Bool} (h : i ≠ j) : (X.set i r).getD j [] = X.getD j [] := by simp [List.getD, List.getElem?_set, h]

theorem full_sq {l : List Ct} {R : List (List Bool)} (h1 : 1 ≤ l.length) (h5 : l.length ≤ 5) (hR : R.length = l.length) (h : ∀ j, j < l.length → R.getD j [] = List.replicate l.length true) : Sq l R :=
  ⟨h1, h5, hR, fun i hi => by rw [h i hi]; simp⟩

end Go.Proofs.Ytcgpckiieocdbaa.Vm
