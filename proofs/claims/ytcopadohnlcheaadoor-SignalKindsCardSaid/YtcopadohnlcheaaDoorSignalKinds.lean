/- The law SignalKinds. -/
import Derived.Test.YtcopadohnlcheaaDoorSigG
import Derived.Test.YtcopadohnlcheaaDoorRawKinds
namespace Go.Proofs.YtcopadohnlcheaaDoor.Vm
set_option linter.unusedVariables false
set_option linter.unusedSimpArgs false

theorem words_eq {k j : Int} (hk : 1 ≤ k ∧ k ≤ 6) (hj : 1 ≤ j ∧ j ≤ 6) : ((formAt k).1 == (formAt j).1) = (k == j) := by
  rw [Bool.eq_iff_iff, beq_iff_eq, beq_iff_eq]
  exact ⟨fun h => by rw [← kind_at k hk, ← kind_at j hj, h], fun h => by rw [h]⟩

theorem s_Kinds (x : Sig) (hx : 1 ≤ x.k ∧ x.k ≤ 6) (k : Int) (hk : 1 ≤ k ∧ k ≤ 6) :
    lp E (denC E) 3 0 [] 0 { vals := [AV.int .i64 k], blks := [Blk.box [AV.int .i64 x.k, AV.int .i64 x.s, AV.int .i64 x.t, AV.int .i64 x.a, AV.int .i64 x.b, AV.int .i64 x.c], Blk.box [AV.sl 1 (strsK (wr x))]] } =
    lp E (denC E) 3 0 [] 0 { vals := [AV.int .i64 (k + 1)], blks := [Blk.box [AV.int .i64 x.k, AV.int .i64 x.s, AV.int .i64 x.t, AV.int .i64 x.a, AV.int .i64 x.b, AV.int .i64 x.c], Blk.box [AV.sl 1 (strsK (wr x))]] } := by
  have hW := c_Write ⟨k, x.s, x.t, x.a, x.b, x.c⟩
  simp only [sgC] at hW
  rw [r3_0, show leB k 6 = true from decide_eq_true hk.2, hW, w64 (by omega)]
  unfold wrP
  cases hv : valS ⟨k, x.s, x.t, x.a, x.b, x.c⟩ with
  | false => rfl
  | true =>
    simp only [if_true, bnd_some, ctl_true, ctl_false, ctl_and, ctl_or', ctl_or2, x_toPV, x_toCs, x_toCs2, x_toEs, x_bEs, x_bCs, x_aPV, x_aCs, x_int, x_bool, x_str, x_es, x_esn, nth_0, nth_1, nth_2, nth_3, nth_4, nth_5, nth_6, nth_7, nth_8, nth_9, y_nil, y_int, y_bool, y_str, y_sl, y_nils, y_agg, y_ownp, y_own, z_nil, z_int, z_bool, z_str, z_sl, z_nils, b_nil, b_arr, b_box1, b_box2, b_box3, b_box4, List.map_cons, List.map_nil, Bool.and_self, Bool.and_true, Bool.true_and, Bool.not_true, Bool.not_false, Bool.or_false, Bool.false_or, cond_true, cond_false, okPack, okPut, okPutBlks, okPutCells, q_isP, q_isAg, q_isBox, q_isArr, q_int, q_bool, q_str, q_sl, q_nils, e_exit, e_ret, e_nrm, e_ret_exit, e_exit_ret, e_nrm_exit, e_nrm_ret, e_exit_nrm, e_ret_nrm, Nat.zero_add, Nat.reduceAdd, noslR, noslP, noslB, noslA, List.all_cons, List.all_nil]
    have e1 : ltB 0 ((strsK (wr ⟨k, x.s, x.t, x.a, x.b, x.c⟩)).length : Int) = true := decide_eq_true (by rw [strsK_length]; unfold wr; simp only [List.length_cons]; omega)
    rw [e1, getE_strs (by unfold wr; simp only [List.length_cons]; omega), getE_strs (by unfold wr; simp only [List.length_cons]; omega)]
    have w1 : (wr ⟨k, x.s, x.t, x.a, x.b, x.c⟩).getD (Int.toNat 0) [] = (formAt k).1 := rfl
    have w2 : (wr x).getD (Int.toNat 0) [] = (formAt x.k).1 := rfl
    rw [w1, w2]
    simp only [beq_self_eq_true, bnd_some, ctl_true, ctl_false, ctl_and, ctl_or', ctl_or2, x_toPV, x_toCs, x_toCs2, x_toEs, x_bEs, x_bCs, x_aPV, x_aCs, x_int, x_bool, x_str, x_es, x_esn, nth_0, nth_1, nth_2, nth_3, nth_4, nth_5, nth_6, nth_7, nth_8, nth_9, y_nil, y_int, y_bool, y_str, y_sl, y_nils, y_agg, y_ownp, y_own, z_nil, z_int, z_bool, z_str, z_sl, z_nils, b_nil, b_arr, b_box1, b_box2, b_box3, b_box4, List.map_cons, List.map_nil, Bool.and_self, Bool.and_true, Bool.true_and, Bool.not_true, Bool.not_false, Bool.or_false, Bool.false_or, cond_true, cond_false, okPack, okPut, okPutBlks, okPutCells, q_isP, q_isAg, q_isBox, q_isArr, q_int, q_bool, q_str, q_sl, q_nils, e_exit, e_ret, e_nrm, e_ret_exit, e_exit_ret, e_nrm_exit, e_nrm_ret, e_exit_nrm, e_ret_nrm, Nat.zero_add, Nat.reduceAdd, noslR, noslP, noslB, noslA, List.all_cons, List.all_nil]
    rw [words_eq hk hx, beq_self_eq_true]
    rfl

theorem three {x : Sig} (hv : valS x = true) : valS ⟨x.k, x.s, x.t, x.a, x.b, 1⟩ = (x.k == 1 || x.k == 6) := by
  obtain ⟨k, s, t, a, b, c⟩ := x
  obtain ⟨hk, _⟩ := val_bounds hv
  unfold valS at hv
  simp only [Bool.and_eq_true] at hv hk
  obtain ⟨⟨⟨⟨⟨h1, h2⟩, h3⟩, h4⟩, h5⟩, h6⟩ := hv
  unfold valS
  simp only [h1, h2, h3, h4, h5, Bool.true_and]
  rcases k6 hk with rfl | rfl | rfl | rfl | rfl | rfl <;> rfl

theorem d_SignalKinds (t : List Int) (_ : t.length ≤ maxLen) (_ : ∀ n ∈ t, -9223372036854775808 ≤ n ∧ n ≤ 9223372036854775807) :
    denC E 3 [AV.sl 1 (intsK .i64 t)] [] = some ([RV.p (PV.bool true)], []) := by
  obtain ⟨x, k', hv, hk', hS⟩ := c_Signal (L := t.take 600) (k := 0) Lle (by omega)
  obtain ⟨h1, h2, h3, h4, h5⟩ := rd_wr hv
  obtain ⟨hk, hs, _⟩ := val_bounds hv
  rw [denC_eq, r3, c_New]
  simp only [bnd_some, ctl_true, ctl_false, ctl_and, ctl_or', ctl_or2, x_toPV, x_toCs, x_toCs2, x_toEs, x_bEs, x_bCs, x_aPV, x_aCs, x_int, x_bool, x_str, x_es, x_esn, nth_0, nth_1, nth_2, nth_3, nth_4, nth_5, nth_6, nth_7, nth_8, nth_9, y_nil, y_int, y_bool, y_str, y_sl, y_nils, y_agg, y_ownp, y_own, z_nil, z_int, z_bool, z_str, z_sl, z_nils, b_nil, b_arr, b_box1, b_box2, b_box3, b_box4, List.map_cons, List.map_nil, Bool.and_self, Bool.and_true, Bool.true_and, Bool.not_true, Bool.not_false, Bool.or_false, Bool.false_or, cond_true, cond_false, okPack, okPut, okPutBlks, okPutCells, q_isP, q_isAg, q_isBox, q_isArr, q_int, q_bool, q_str, q_sl, q_nils, e_exit, e_ret, e_nrm, e_ret_exit, e_exit_ret, e_nrm_exit, e_nrm_ret, e_exit_nrm, e_ret_nrm, Nat.zero_add, Nat.reduceAdd, noslR, noslP, noslB, noslA, List.all_cons, List.all_nil]
  rw [src_zero, hS]
  simp only [sgC, bnd_some, ctl_true, ctl_false, ctl_and, ctl_or', ctl_or2, x_toPV, x_toCs, x_toCs2, x_toEs, x_bEs, x_bCs, x_aPV, x_aCs, x_int, x_bool, x_str, x_es, x_esn, nth_0, nth_1, nth_2, nth_3, nth_4, nth_5, nth_6, nth_7, nth_8, nth_9, y_nil, y_int, y_bool, y_str, y_sl, y_nils, y_agg, y_ownp, y_own, z_nil, z_int, z_bool, z_str, z_sl, z_nils, b_nil, b_arr, b_box1, b_box2, b_box3, b_box4, List.map_cons, List.map_nil, Bool.and_self, Bool.and_true, Bool.true_and, Bool.not_true, Bool.not_false, Bool.or_false, Bool.false_or, cond_true, cond_false, okPack, okPut, okPutBlks, okPutCells, q_isP, q_isAg, q_isBox, q_isArr, q_int, q_bool, q_str, q_sl, q_nils, e_exit, e_ret, e_nrm, e_ret_exit, e_exit_ret, e_nrm_exit, e_nrm_ret, e_exit_nrm, e_ret_nrm, Nat.zero_add, Nat.reduceAdd, noslR, noslP, noslB, noslA, List.all_cons, List.all_nil]
  have hW := c_Write x
  simp only [sgC] at hW
  rw [hW, wrP_ok hv]
  simp only [bnd_some, ctl_true, ctl_false, ctl_and, ctl_or', ctl_or2, x_toPV, x_toCs, x_toCs2, x_toEs, x_bEs, x_bCs, x_aPV, x_aCs, x_int, x_bool, x_str, x_es, x_esn, nth_0, nth_1, nth_2, nth_3, nth_4, nth_5, nth_6, nth_7, nth_8, nth_9, y_nil, y_int, y_bool, y_str, y_sl, y_nils, y_agg, y_ownp, y_own, z_nil, z_int, z_bool, z_str, z_sl, z_nils, b_nil, b_arr, b_box1, b_box2, b_box3, b_box4, List.map_cons, List.map_nil, Bool.and_self, Bool.and_true, Bool.true_and, Bool.not_true, Bool.not_false, Bool.or_false, Bool.false_or, cond_true, cond_false, okPack, okPut, okPutBlks, okPutCells, q_isP, q_isAg, q_isBox, q_isArr, q_int, q_bool, q_str, q_sl, q_nils, e_exit, e_ret, e_nrm, e_ret_exit, e_exit_ret, e_nrm_exit, e_nrm_ret, e_exit_nrm, e_ret_nrm, Nat.zero_add, Nat.reduceAdd, noslR, noslP, noslB, noslA, List.all_cons, List.all_nil]
  have e1 : ltB ((wr x).length : Int) 4 = false := decide_eq_false (by omega)
  rw [strsK_length, e1]
  have hl : lp E (denC E) 3 0 [] 0 { vals := [AV.int .i64 1], blks := [Blk.box [AV.int .i64 x.k, AV.int .i64 x.s, AV.int .i64 x.t, AV.int .i64 x.a, AV.int .i64 x.b, AV.int .i64 x.c], Blk.box [AV.sl 1 (strsK (wr x))]] } =
      some (Ex.exit 0, { vals := [], blks := [Blk.box [AV.int .i64 x.k, AV.int .i64 x.s, AV.int .i64 x.t, AV.int .i64 x.a, AV.int .i64 x.b, AV.int .i64 x.c]] }) := by
    rw [s_Kinds x hk 1 (by omega), s_Kinds x hk (1 + 1) (by omega), s_Kinds x hk (1 + 1 + 1) (by omega), s_Kinds x hk (1 + 1 + 1 + 1) (by omega), s_Kinds x hk (1 + 1 + 1 + 1 + 1) (by omega), s_Kinds x hk (1 + 1 + 1 + 1 + 1 + 1) (by omega), r3_0]
    rfl
  simp only [bne_self_eq_false, bnd_some, ctl_true, ctl_false, ctl_and, ctl_or', ctl_or2, x_toPV, x_toCs, x_toCs2, x_toEs, x_bEs, x_bCs, x_aPV, x_aCs, x_int, x_bool, x_str, x_es, x_esn, nth_0, nth_1, nth_2, nth_3, nth_4, nth_5, nth_6, nth_7, nth_8, nth_9, y_nil, y_int, y_bool, y_str, y_sl, y_nils, y_agg, y_ownp, y_own, z_nil, z_int, z_bool, z_str, z_sl, z_nils, b_nil, b_arr, b_box1, b_box2, b_box3, b_box4, List.map_cons, List.map_nil, Bool.and_self, Bool.and_true, Bool.true_and, Bool.not_true, Bool.not_false, Bool.or_false, Bool.false_or, cond_true, cond_false, okPack, okPut, okPutBlks, okPutCells, q_isP, q_isAg, q_isBox, q_isArr, q_int, q_bool, q_str, q_sl, q_nils, e_exit, e_ret, e_nrm, e_ret_exit, e_exit_ret, e_nrm_exit, e_nrm_ret, e_exit_nrm, e_ret_nrm, Nat.zero_add, Nat.reduceAdd, noslR, noslP, noslB, noslA, List.all_cons, List.all_nil]
  rw [hl]
  simp only [bnd_some, ctl_true, ctl_false, ctl_and, ctl_or', ctl_or2, x_toPV, x_toCs, x_toCs2, x_toEs, x_bEs, x_bCs, x_aPV, x_aCs, x_int, x_bool, x_str, x_es, x_esn, nth_0, nth_1, nth_2, nth_3, nth_4, nth_5, nth_6, nth_7, nth_8, nth_9, y_nil, y_int, y_bool, y_str, y_sl, y_nils, y_agg, y_ownp, y_own, z_nil, z_int, z_bool, z_str, z_sl, z_nils, b_nil, b_arr, b_box1, b_box2, b_box3, b_box4, List.map_cons, List.map_nil, Bool.and_self, Bool.and_true, Bool.true_and, Bool.not_true, Bool.not_false, Bool.or_false, Bool.false_or, cond_true, cond_false, okPack, okPut, okPutBlks, okPutCells, q_isP, q_isAg, q_isBox, q_isArr, q_int, q_bool, q_str, q_sl, q_nils, e_exit, e_ret, e_nrm, e_ret_exit, e_exit_ret, e_nrm_exit, e_nrm_ret, e_exit_nrm, e_ret_nrm, Nat.zero_add, Nat.reduceAdd, noslR, noslP, noslB, noslA, List.all_cons, List.all_nil]
  have hW2 := c_Write ⟨x.k, x.s, x.t, x.a, x.b, 1⟩
  simp only [sgC] at hW2
  rw [hW2]
  have h3 := three hv
  unfold wrP
  rw [h3]
  cases hb : (x.k == 1 || x.k == 6) with
  | false =>
    simp only [Bool.false_eq_true, if_false, bnd_some, ctl_true, ctl_false, ctl_and, ctl_or', ctl_or2, x_toPV, x_toCs, x_toCs2, x_toEs, x_bEs, x_bCs, x_aPV, x_aCs, x_int, x_bool, x_str, x_es, x_esn, nth_0, nth_1, nth_2, nth_3, nth_4, nth_5, nth_6, nth_7, nth_8, nth_9, y_nil, y_int, y_bool, y_str, y_sl, y_nils, y_agg, y_ownp, y_own, z_nil, z_int, z_bool, z_str, z_sl, z_nils, b_nil, b_arr, b_box1, b_box2, b_box3, b_box4, List.map_cons, List.map_nil, Bool.and_self, Bool.and_true, Bool.true_and, Bool.not_true, Bool.not_false, Bool.or_false, Bool.false_or, cond_true, cond_false, okPack, okPut, okPutBlks, okPutCells, q_isP, q_isAg, q_isBox, q_isArr, q_int, q_bool, q_str, q_sl, q_nils, e_exit, e_ret, e_nrm, e_ret_exit, e_exit_ret, e_nrm_exit, e_nrm_ret, e_exit_nrm, e_ret_nrm, Nat.zero_add, Nat.reduceAdd, noslR, noslP, noslB, noslA, List.all_cons, List.all_nil]
    rw [c_sane6]; rfl
  | true =>
    simp only [if_true, bnd_some, ctl_true, ctl_false, ctl_and, ctl_or', ctl_or2, x_toPV, x_toCs, x_toCs2, x_toEs, x_bEs, x_bCs, x_aPV, x_aCs, x_int, x_bool, x_str, x_es, x_esn, nth_0, nth_1, nth_2, nth_3, nth_4, nth_5, nth_6, nth_7, nth_8, nth_9, y_nil, y_int, y_bool, y_str, y_sl, y_nils, y_agg, y_ownp, y_own, z_nil, z_int, z_bool, z_str, z_sl, z_nils, b_nil, b_arr, b_box1, b_box2, b_box3, b_box4, List.map_cons, List.map_nil, Bool.and_self, Bool.and_true, Bool.true_and, Bool.not_true, Bool.not_false, Bool.or_false, Bool.false_or, cond_true, cond_false, okPack, okPut, okPutBlks, okPutCells, q_isP, q_isAg, q_isBox, q_isArr, q_int, q_bool, q_str, q_sl, q_nils, e_exit, e_ret, e_nrm, e_ret_exit, e_exit_ret, e_nrm_exit, e_nrm_ret, e_exit_nrm, e_ret_nrm, Nat.zero_add, Nat.reduceAdd, noslR, noslP, noslB, noslA, List.all_cons, List.all_nil]
    rw [c_sane6]; rfl

end Go.Proofs.YtcopadohnlcheaaDoor.Vm
