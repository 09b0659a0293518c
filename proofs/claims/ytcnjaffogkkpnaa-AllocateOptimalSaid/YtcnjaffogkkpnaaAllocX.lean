import Derived.Test.YtcnjaffogkkpnaaAllocC
/- Allocation: the source, the stations, the example. -/
namespace Go.Proofs.Ytcnjaffogkkpnaa.Vm
set_option linter.unusedVariables false
set_option linter.unusedSimpArgs false

/-! ### The source -/
theorem most_loop {L : List Int} (hL : L.length ≤ 600) (N : Nat) (hN : N ≤ 1000) : ∀ (n : Nat) (i : Nat) (k : Nat) (acc : List Int), k ≤ 600 → i + n = N → acc.length = i →
    ∃ (l : List Int) (k' : Nat), lp E (denC E) 27 1 [] 0 { vals := [AV.int .i64 N, AV.int .i64 i], blks := [src L k, Blk.arr 1 (intsK .i64 acc)] } =
      some (Ex.exit 0, { vals := [], blks := [src L k', Blk.arr 1 (intsK .i64 (acc ++ l))] }) ∧ l.length = n ∧ (∀ m ∈ l, 0 ≤ m ∧ m ≤ 5000) ∧ k' ≤ 600
  | 0, i, k, acc, hk, hi, ha => by
    refine ⟨[], k, ?_, rfl, fun t ht => (by cases ht), hk⟩
    rw [r27_0, ctl_dec, if_neg (by omega), List.append_nil]
  | n + 1, i, k, acc, hk, hi, ha => by
    have hk1 := at'_le hL hk
    have e1 : denC E 49 [AV.t (.ptr 0 0), AV.sl 1 [[PV.int .i64 0], [PV.int .i64 3], [PV.int .i64 10], [PV.int .i64 50], [PV.int .i64 5000]]] _ = _ := c_Pick hL hk (l := [0, 3, 10, 50, 5000]) (by decide)
    have b1 := vPick_mem L k (l := [0, 3, 10, 50, 5000]) (by decide)
    generalize vPick L k [0, 3, 10, 50, 5000] = x at *
    obtain ⟨l, k', h2, h3, h4, h5⟩ := most_loop hL N hN n (i + 1) (at' L k) (acc ++ [x]) hk1 (by omega) (by simp [ha])
    refine ⟨x :: l, k', ?_, by simp [h3], fun v hv => ?_, h5⟩
    · rw [r27_0, ctl_dec, if_pos (by omega), e1]
      simp only [bnd_some, ctl_true, ctl_false, ctl_and, ctl_or', ctl_or2, x_toPV, x_toCs, x_toCs2, x_toEs, x_bEs, x_bCs, x_aPV, x_aCs, x_int, x_bool, x_str, x_es, x_esn, nth_0, nth_1, nth_2, nth_3, nth_4, nth_5, nth_6, nth_7, nth_8, nth_9, y_nil, y_int, y_bool, y_str, y_sl, y_nils, y_agg, y_ownp, y_own, z_nil, z_int, z_bool, z_str, z_sl, z_nils, b_nil, b_arr, b_box1, b_box2, b_box3, b_box4, List.map_cons, List.map_nil, Bool.and_self, Bool.and_true, Bool.true_and, Bool.not_true, Bool.not_false, Bool.or_false, Bool.false_or, cond_true, cond_false, okPack, okPut, okPutBlks, okPutCells, q_isP, q_isAg, q_isBox, q_isArr, q_int, q_bool, q_str, q_sl, q_nils, e_exit, e_ret, e_nrm, e_ret_exit, e_exit_ret, e_nrm_exit, e_nrm_ret, e_exit_nrm, e_ret_nrm, Nat.zero_add, Nat.reduceAdd, noslR, noslP, noslB, noslA, List.all_cons, List.all_nil]
      have e2 : leN (((intsK .i64 acc).length + 1) * 8) 140737488355328 = true := by rw [intsK_length]; simp only [decide_eq_true_eq]; omega
      rw [e2, w64 (by omega)]
      have e3 : (i : Int) + 1 = ((i + 1 : Nat) : Int) := by omega
      have e4 : intsK .i64 (acc ++ [x]) = intsK .i64 acc ++ [[PV.int .i64 x]] := by simp [intsK]
      rw [e3]
      rw [e4] at h2
      simp only [ctl_true]
      refine Eq.trans h2 ?_
      simp only [List.append_assoc, List.cons_append, List.nil_append]
    · rcases List.mem_cons.1 hv with rfl | hv
      · simp only [List.mem_cons, List.not_mem_nil, or_false] at b1; omega
      · exact h4 v hv

theorem c_MostL {L : List Int} {k : Nat} (hL : L.length ≤ 600) (hk : k ≤ 600) (s : Shp) (hs : s.ts.length ≤ 1000) :
    ∃ (l : List Int) (k' : Nat), denC E 27 [AV.t (.ptr 0 0), AV.agg (shpC s)] [src L k] = some ([RV.p (PV.sl 1 (intsK .i64 l))], [src L k']) ∧ l.length = s.ts.length ∧ (∀ m ∈ l, 0 ≤ m ∧ m ≤ 5000) ∧ k' ≤ 600 := by
  obtain ⟨l, k', h1, h2, h3, h4⟩ := most_loop hL s.ts.length hs s.ts.length 0 k [] hk (by omega) rfl
  refine ⟨l, k', ?_, h2, h3, h4⟩
  unfold shpC
  rw [denC_eq, r27, thK_length]
  have ea : intsK .i64 [] = [] := rfl
  have e0 : (((0 : Nat)) : Int) = 0 := rfl
  rw [ea, e0] at h1
  rw [h1]
  simp only [bnd_some, ctl_true, ctl_false, ctl_and, ctl_or', ctl_or2, x_toPV, x_toCs, x_toCs2, x_toEs, x_bEs, x_bCs, x_aPV, x_aCs, x_int, x_bool, x_str, x_es, x_esn, nth_0, nth_1, nth_2, nth_3, nth_4, nth_5, nth_6, nth_7, nth_8, nth_9, y_nil, y_int, y_bool, y_str, y_sl, y_nils, y_agg, y_ownp, y_own, z_nil, z_int, z_bool, z_str, z_sl, z_nils, b_nil, b_arr, b_box1, b_box2, b_box3, b_box4, List.map_cons, List.map_nil, Bool.and_self, Bool.and_true, Bool.true_and, Bool.not_true, Bool.not_false, Bool.or_false, Bool.false_or, cond_true, cond_false, okPack, okPut, okPutBlks, okPutCells, q_isP, q_isAg, q_isBox, q_isArr, q_int, q_bool, q_str, q_sl, q_nils, e_exit, e_ret, e_nrm, e_ret_exit, e_exit_ret, e_nrm_exit, e_nrm_ret, e_exit_nrm, e_ret_nrm, Nat.zero_add, Nat.reduceAdd, noslR, noslP, noslB, noslA, List.all_cons, List.all_nil, List.nil_append]

theorem c_Demand {L : List Int} {k : Nat} (hL : L.length ≤ 600) (hk : k ≤ 600) :
    ∃ (d0 d1 d2 : Int) (k' : Nat), denC E 28 [AV.t (.ptr 0 0)] [src L k] = some ([RV.agg [PV.int .i64 d0, PV.int .i64 d1, PV.int .i64 d2]], [src L k']) ∧ (-60 ≤ d0 ∧ d0 ≤ 60) ∧ (-50 ≤ d1 ∧ d1 ≤ 50) ∧ (-50 ≤ d2 ∧ d2 ≤ 50) ∧ k' ≤ 600 := by
  have hk1 := at'_le hL hk
  have hk2 := at'_le hL hk1
  have b0 := vRange_bounds (L := L) (k := k) (lo := -60) (hi := 60) (by omega)
  have b1 := vRange_bounds (L := L) (k := at' L k) (lo := -50) (hi := 50) (by omega)
  have b2 := vRange_bounds (L := L) (k := at' L (at' L k)) (lo := -50) (hi := 50) (by omega)
  refine ⟨_, _, _, _, ?_, b0, b1, b2, at'_le hL hk2⟩
  rw [denC_eq, r28, c_Range hL hk (by omega)]
  simp only [bnd_some, ctl_true, ctl_false, ctl_and, ctl_or', ctl_or2, x_toPV, x_toCs, x_toCs2, x_toEs, x_bEs, x_bCs, x_aPV, x_aCs, x_int, x_bool, x_str, x_es, x_esn, nth_0, nth_1, nth_2, nth_3, nth_4, nth_5, nth_6, nth_7, nth_8, nth_9, y_nil, y_int, y_bool, y_str, y_sl, y_nils, y_agg, y_ownp, y_own, z_nil, z_int, z_bool, z_str, z_sl, z_nils, b_nil, b_arr, b_box1, b_box2, b_box3, b_box4, List.map_cons, List.map_nil, Bool.and_self, Bool.and_true, Bool.true_and, Bool.not_true, Bool.not_false, Bool.or_false, Bool.false_or, cond_true, cond_false, okPack, okPut, okPutBlks, okPutCells, q_isP, q_isAg, q_isBox, q_isArr, q_int, q_bool, q_str, q_sl, q_nils, e_exit, e_ret, e_nrm, e_ret_exit, e_exit_ret, e_nrm_exit, e_nrm_ret, e_exit_nrm, e_ret_nrm, Nat.zero_add, Nat.reduceAdd, noslR, noslP, noslB, noslA, List.all_cons, List.all_nil]
  rw [c_Range hL hk1 (by omega)]
  simp only [bnd_some, ctl_true, ctl_false, ctl_and, ctl_or', ctl_or2, x_toPV, x_toCs, x_toCs2, x_toEs, x_bEs, x_bCs, x_aPV, x_aCs, x_int, x_bool, x_str, x_es, x_esn, nth_0, nth_1, nth_2, nth_3, nth_4, nth_5, nth_6, nth_7, nth_8, nth_9, y_nil, y_int, y_bool, y_str, y_sl, y_nils, y_agg, y_ownp, y_own, z_nil, z_int, z_bool, z_str, z_sl, z_nils, b_nil, b_arr, b_box1, b_box2, b_box3, b_box4, List.map_cons, List.map_nil, Bool.and_self, Bool.and_true, Bool.true_and, Bool.not_true, Bool.not_false, Bool.or_false, Bool.false_or, cond_true, cond_false, okPack, okPut, okPutBlks, okPutCells, q_isP, q_isAg, q_isBox, q_isArr, q_int, q_bool, q_str, q_sl, q_nils, e_exit, e_ret, e_nrm, e_ret_exit, e_exit_ret, e_nrm_exit, e_nrm_ret, e_exit_nrm, e_ret_nrm, Nat.zero_add, Nat.reduceAdd, noslR, noslP, noslB, noslA, List.all_cons, List.all_nil]
  rw [c_Range hL hk2 (by omega)]
  simp only [bnd_some, ctl_true, ctl_false, ctl_and, ctl_or', ctl_or2, x_toPV, x_toCs, x_toCs2, x_toEs, x_bEs, x_bCs, x_aPV, x_aCs, x_int, x_bool, x_str, x_es, x_esn, nth_0, nth_1, nth_2, nth_3, nth_4, nth_5, nth_6, nth_7, nth_8, nth_9, y_nil, y_int, y_bool, y_str, y_sl, y_nils, y_agg, y_ownp, y_own, z_nil, z_int, z_bool, z_str, z_sl, z_nils, b_nil, b_arr, b_box1, b_box2, b_box3, b_box4, List.map_cons, List.map_nil, Bool.and_self, Bool.and_true, Bool.true_and, Bool.not_true, Bool.not_false, Bool.or_false, Bool.false_or, cond_true, cond_false, okPack, okPut, okPutBlks, okPutCells, q_isP, q_isAg, q_isBox, q_isArr, q_int, q_bool, q_str, q_sl, q_nils, e_exit, e_ret, e_nrm, e_ret_exit, e_exit_ret, e_nrm_exit, e_nrm_ret, e_exit_nrm, e_ret_nrm, Nat.zero_add, Nat.reduceAdd, noslR, noslP, noslB, noslA, List.all_cons, List.all_nil]

theorem c_world {L : List Int} {k : Nat} (hL : L.length ≤ 600) (hk : k ≤ 600) :
    ∃ (s : Shp) (ms : List Int) (ls : List (Int × Int)) (d0 d1 d2 : Int) (k' : Nat), denC E 9 [AV.t (.ptr 0 0)] [src L k] = some ([RV.agg (shpC s), RV.p (PV.sl 1 (intsK .i64 ms)), RV.p (PV.sl 2 (arcK ls)), RV.agg [PV.int .i64 d0, PV.int .i64 d1, PV.int .i64 d2]], [src L k']) ∧
      SrcS s 5 ∧ AOk s ms ls ∧ SmL ls 20 ∧ (-60 ≤ d0 ∧ d0 ≤ 60) ∧ (-50 ≤ d1 ∧ d1 ≤ 50) ∧ (-50 ≤ d2 ∧ d2 ≤ 50) ∧ k' ≤ 600 := by
  obtain ⟨s, k1, hS, hs, hk1⟩ := c_Ship hL hk (most := 5) (by omega)
  have hok := SrcS_ok hs (by omega)
  have hl5 := hs.2.2.2.2.1
  obtain ⟨ms, k2, hM, m1, m2, hk2⟩ := c_MostL hL hk1 s (by omega)
  have hN := c_N hL hk2 2 (by omega)
  have hk3 := at'_le hL hk2
  have e5 : ((5 : Nat) : Int) = 5 := rfl
  rw [e5] at hS
  by_cases hb : vN L k2 2 = 1
  · obtain ⟨ls, k4, hT, t1, t2, hk4⟩ := c_Thrusts hL hk3 s (by omega)
    obtain ⟨d0, d1, d2, k5, hD, x0, x1, x2, hk5⟩ := c_Demand hL hk4
    refine ⟨s, ms, ls, d0, d1, d2, k5, ?_, hs, ⟨hok, m1, m2, .inr t1, fun v hv => by have := t2 v hv; omega⟩, t2, x0, x1, x2, hk5⟩
    unfold shpC at *
    rw [denC_eq, r9, hS]
    simp only [bnd_some, ctl_true, ctl_false, ctl_and, ctl_or', ctl_or2, x_toPV, x_toCs, x_toCs2, x_toEs, x_bEs, x_bCs, x_aPV, x_aCs, x_int, x_bool, x_str, x_es, x_esn, nth_0, nth_1, nth_2, nth_3, nth_4, nth_5, nth_6, nth_7, nth_8, nth_9, y_nil, y_int, y_bool, y_str, y_sl, y_nils, y_agg, y_ownp, y_own, z_nil, z_int, z_bool, z_str, z_sl, z_nils, b_nil, b_arr, b_box1, b_box2, b_box3, b_box4, List.map_cons, List.map_nil, Bool.and_self, Bool.and_true, Bool.true_and, Bool.not_true, Bool.not_false, Bool.or_false, Bool.false_or, cond_true, cond_false, okPack, okPut, okPutBlks, okPutCells, q_isP, q_isAg, q_isBox, q_isArr, q_int, q_bool, q_str, q_sl, q_nils, e_exit, e_ret, e_nrm, e_ret_exit, e_exit_ret, e_nrm_exit, e_nrm_ret, e_exit_nrm, e_ret_nrm, Nat.zero_add, Nat.reduceAdd, noslR, noslP, noslB, noslA, List.all_cons, List.all_nil]
    rw [hM]
    simp only [bnd_some, ctl_true, ctl_false, ctl_and, ctl_or', ctl_or2, x_toPV, x_toCs, x_toCs2, x_toEs, x_bEs, x_bCs, x_aPV, x_aCs, x_int, x_bool, x_str, x_es, x_esn, nth_0, nth_1, nth_2, nth_3, nth_4, nth_5, nth_6, nth_7, nth_8, nth_9, y_nil, y_int, y_bool, y_str, y_sl, y_nils, y_agg, y_ownp, y_own, z_nil, z_int, z_bool, z_str, z_sl, z_nils, b_nil, b_arr, b_box1, b_box2, b_box3, b_box4, List.map_cons, List.map_nil, Bool.and_self, Bool.and_true, Bool.true_and, Bool.not_true, Bool.not_false, Bool.or_false, Bool.false_or, cond_true, cond_false, okPack, okPut, okPutBlks, okPutCells, q_isP, q_isAg, q_isBox, q_isArr, q_int, q_bool, q_str, q_sl, q_nils, e_exit, e_ret, e_nrm, e_ret_exit, e_exit_ret, e_nrm_exit, e_nrm_ret, e_exit_nrm, e_ret_nrm, Nat.zero_add, Nat.reduceAdd, noslR, noslP, noslB, noslA, List.all_cons, List.all_nil]
    rw [hN]
    have f : (vN L k2 2 == 1) = true := by simpa using hb
    simp only [bnd_some, ctl_true, ctl_false, ctl_and, ctl_or', ctl_or2, x_toPV, x_toCs, x_toCs2, x_toEs, x_bEs, x_bCs, x_aPV, x_aCs, x_int, x_bool, x_str, x_es, x_esn, nth_0, nth_1, nth_2, nth_3, nth_4, nth_5, nth_6, nth_7, nth_8, nth_9, y_nil, y_int, y_bool, y_str, y_sl, y_nils, y_agg, y_ownp, y_own, z_nil, z_int, z_bool, z_str, z_sl, z_nils, b_nil, b_arr, b_box1, b_box2, b_box3, b_box4, List.map_cons, List.map_nil, Bool.and_self, Bool.and_true, Bool.true_and, Bool.not_true, Bool.not_false, Bool.or_false, Bool.false_or, cond_true, cond_false, okPack, okPut, okPutBlks, okPutCells, q_isP, q_isAg, q_isBox, q_isArr, q_int, q_bool, q_str, q_sl, q_nils, e_exit, e_ret, e_nrm, e_ret_exit, e_exit_ret, e_nrm_exit, e_nrm_ret, e_exit_nrm, e_ret_nrm, Nat.zero_add, Nat.reduceAdd, noslR, noslP, noslB, noslA, List.all_cons, List.all_nil, f]
    rw [hT]
    simp only [bnd_some, ctl_true, ctl_false, ctl_and, ctl_or', ctl_or2, x_toPV, x_toCs, x_toCs2, x_toEs, x_bEs, x_bCs, x_aPV, x_aCs, x_int, x_bool, x_str, x_es, x_esn, nth_0, nth_1, nth_2, nth_3, nth_4, nth_5, nth_6, nth_7, nth_8, nth_9, y_nil, y_int, y_bool, y_str, y_sl, y_nils, y_agg, y_ownp, y_own, z_nil, z_int, z_bool, z_str, z_sl, z_nils, b_nil, b_arr, b_box1, b_box2, b_box3, b_box4, List.map_cons, List.map_nil, Bool.and_self, Bool.and_true, Bool.true_and, Bool.not_true, Bool.not_false, Bool.or_false, Bool.false_or, cond_true, cond_false, okPack, okPut, okPutBlks, okPutCells, q_isP, q_isAg, q_isBox, q_isArr, q_int, q_bool, q_str, q_sl, q_nils, e_exit, e_ret, e_nrm, e_ret_exit, e_exit_ret, e_nrm_exit, e_nrm_ret, e_exit_nrm, e_ret_nrm, Nat.zero_add, Nat.reduceAdd, noslR, noslP, noslB, noslA, List.all_cons, List.all_nil]
    rw [hD]
    simp only [bnd_some, ctl_true, ctl_false, ctl_and, ctl_or', ctl_or2, x_toPV, x_toCs, x_toCs2, x_toEs, x_bEs, x_bCs, x_aPV, x_aCs, x_int, x_bool, x_str, x_es, x_esn, nth_0, nth_1, nth_2, nth_3, nth_4, nth_5, nth_6, nth_7, nth_8, nth_9, y_nil, y_int, y_bool, y_str, y_sl, y_nils, y_agg, y_ownp, y_own, z_nil, z_int, z_bool, z_str, z_sl, z_nils, b_nil, b_arr, b_box1, b_box2, b_box3, b_box4, List.map_cons, List.map_nil, Bool.and_self, Bool.and_true, Bool.true_and, Bool.not_true, Bool.not_false, Bool.or_false, Bool.false_or, cond_true, cond_false, okPack, okPut, okPutBlks, okPutCells, q_isP, q_isAg, q_isBox, q_isArr, q_int, q_bool, q_str, q_sl, q_nils, e_exit, e_ret, e_nrm, e_ret_exit, e_exit_ret, e_nrm_exit, e_nrm_ret, e_exit_nrm, e_ret_nrm, Nat.zero_add, Nat.reduceAdd, noslR, noslP, noslB, noslA, List.all_cons, List.all_nil]
  · obtain ⟨d0, d1, d2, k5, hD, x0, x1, x2, hk5⟩ := c_Demand hL hk3
    refine ⟨s, ms, [], d0, d1, d2, k5, ?_, hs, ⟨hok, m1, m2, .inl rfl, fun v hv => (by cases hv)⟩, fun v hv => (by cases hv), x0, x1, x2, hk5⟩
    unfold shpC at *
    rw [denC_eq, r9, hS]
    simp only [bnd_some, ctl_true, ctl_false, ctl_and, ctl_or', ctl_or2, x_toPV, x_toCs, x_toCs2, x_toEs, x_bEs, x_bCs, x_aPV, x_aCs, x_int, x_bool, x_str, x_es, x_esn, nth_0, nth_1, nth_2, nth_3, nth_4, nth_5, nth_6, nth_7, nth_8, nth_9, y_nil, y_int, y_bool, y_str, y_sl, y_nils, y_agg, y_ownp, y_own, z_nil, z_int, z_bool, z_str, z_sl, z_nils, b_nil, b_arr, b_box1, b_box2, b_box3, b_box4, List.map_cons, List.map_nil, Bool.and_self, Bool.and_true, Bool.true_and, Bool.not_true, Bool.not_false, Bool.or_false, Bool.false_or, cond_true, cond_false, okPack, okPut, okPutBlks, okPutCells, q_isP, q_isAg, q_isBox, q_isArr, q_int, q_bool, q_str, q_sl, q_nils, e_exit, e_ret, e_nrm, e_ret_exit, e_exit_ret, e_nrm_exit, e_nrm_ret, e_exit_nrm, e_ret_nrm, Nat.zero_add, Nat.reduceAdd, noslR, noslP, noslB, noslA, List.all_cons, List.all_nil]
    rw [hM]
    simp only [bnd_some, ctl_true, ctl_false, ctl_and, ctl_or', ctl_or2, x_toPV, x_toCs, x_toCs2, x_toEs, x_bEs, x_bCs, x_aPV, x_aCs, x_int, x_bool, x_str, x_es, x_esn, nth_0, nth_1, nth_2, nth_3, nth_4, nth_5, nth_6, nth_7, nth_8, nth_9, y_nil, y_int, y_bool, y_str, y_sl, y_nils, y_agg, y_ownp, y_own, z_nil, z_int, z_bool, z_str, z_sl, z_nils, b_nil, b_arr, b_box1, b_box2, b_box3, b_box4, List.map_cons, List.map_nil, Bool.and_self, Bool.and_true, Bool.true_and, Bool.not_true, Bool.not_false, Bool.or_false, Bool.false_or, cond_true, cond_false, okPack, okPut, okPutBlks, okPutCells, q_isP, q_isAg, q_isBox, q_isArr, q_int, q_bool, q_str, q_sl, q_nils, e_exit, e_ret, e_nrm, e_ret_exit, e_exit_ret, e_nrm_exit, e_nrm_ret, e_exit_nrm, e_ret_nrm, Nat.zero_add, Nat.reduceAdd, noslR, noslP, noslB, noslA, List.all_cons, List.all_nil]
    rw [hN]
    have f : (vN L k2 2 == 1) = false := by simpa using hb
    simp only [bnd_some, ctl_true, ctl_false, ctl_and, ctl_or', ctl_or2, x_toPV, x_toCs, x_toCs2, x_toEs, x_bEs, x_bCs, x_aPV, x_aCs, x_int, x_bool, x_str, x_es, x_esn, nth_0, nth_1, nth_2, nth_3, nth_4, nth_5, nth_6, nth_7, nth_8, nth_9, y_nil, y_int, y_bool, y_str, y_sl, y_nils, y_agg, y_ownp, y_own, z_nil, z_int, z_bool, z_str, z_sl, z_nils, b_nil, b_arr, b_box1, b_box2, b_box3, b_box4, List.map_cons, List.map_nil, Bool.and_self, Bool.and_true, Bool.true_and, Bool.not_true, Bool.not_false, Bool.or_false, Bool.false_or, cond_true, cond_false, okPack, okPut, okPutBlks, okPutCells, q_isP, q_isAg, q_isBox, q_isArr, q_int, q_bool, q_str, q_sl, q_nils, e_exit, e_ret, e_nrm, e_ret_exit, e_exit_ret, e_nrm_exit, e_nrm_ret, e_exit_nrm, e_ret_nrm, Nat.zero_add, Nat.reduceAdd, noslR, noslP, noslB, noslA, List.all_cons, List.all_nil, f]
    rw [hD]
    simp only [bnd_some, ctl_true, ctl_false, ctl_and, ctl_or', ctl_or2, x_toPV, x_toCs, x_toCs2, x_toEs, x_bEs, x_bCs, x_aPV, x_aCs, x_int, x_bool, x_str, x_es, x_esn, nth_0, nth_1, nth_2, nth_3, nth_4, nth_5, nth_6, nth_7, nth_8, nth_9, y_nil, y_int, y_bool, y_str, y_sl, y_nils, y_agg, y_ownp, y_own, z_nil, z_int, z_bool, z_str, z_sl, z_nils, b_nil, b_arr, b_box1, b_box2, b_box3, b_box4, List.map_cons, List.map_nil, Bool.and_self, Bool.and_true, Bool.true_and, Bool.not_true, Bool.not_false, Bool.or_false, Bool.false_or, cond_true, cond_false, okPack, okPut, okPutBlks, okPutCells, q_isP, q_isAg, q_isBox, q_isArr, q_int, q_bool, q_str, q_sl, q_nils, e_exit, e_ret, e_nrm, e_ret_exit, e_exit_ret, e_nrm_exit, e_nrm_ret, e_exit_nrm, e_ret_nrm, Nat.zero_add, Nat.reduceAdd, noslR, noslP, noslB, noslA, List.all_cons, List.all_nil]
    rfl

/-! ### The demand at the stations -/
theorem half_spec {n d : Int} (hd : 0 < d) : -d ≤ 2 * (d * Half n d - n) ∧ 2 * (d * Half n d - n) ≤ d := by
  unfold Half
  have h1 := Int.mul_ediv_add_emod (2 * n + d) (2 * d)
  have h2 := Int.emod_nonneg (2 * n + d) (b := 2 * d) (by omega)
  have h3 := Int.emod_lt_of_pos (2 * n + d) (b := 2 * d) (by omega)
  generalize (2 * n + d) / (2 * d) = q at *
  generalize (2 * n + d) % (2 * d) = r at *
  rw [Int.mul_assoc] at h1
  generalize d * q = z at *
  omega

theorem c_Stations {s : Shp} (h : OkShp s) {f0 f1 f2 : Int} (h0 : -5000 ≤ f0 ∧ f0 ≤ 5000) (h1 : -5000 ≤ f1 ∧ f1 ≤ 5000) (h2 : -400000 ≤ f2 ∧ f2 ≤ 400000) (hb : -494000 ≤ Half (f2 + f1 * s.sn) (s.bw + s.sn) ∧ Half (f2 + f1 * s.sn) (s.bw + s.sn) ≤ 494000) :
    denC E 19 [AV.agg (shpC s), AV.agg [PV.int .i64 f0, PV.int .i64 f1, PV.int .i64 f2]] [] =
      some ([RV.agg [PV.int .i64 f0, PV.int .i64 (Half (f2 + f1 * s.sn) (s.bw + s.sn)), PV.int .i64 (f1 - Half (f2 + f1 * s.sn) (s.bw + s.sn))], RV.p (PV.int .i64 0)], []) := by
  have hC := c_Check h
  obtain ⟨g1, g2, g3, g4, g5, g6, g7⟩ := h
  have m1 := mul_le (a := f1) (b := s.sn) (m := 5000) (n := 200) h1 (by omega)
  have w1 : denC E 38 [AV.sl 1 [[PV.int .i64 f0], [PV.int .i64 f1]], AV.int .i64 (-5000), AV.int .i64 5000] [] = some ([RV.p (PV.bool true)], []) := c_within (l := [f0, f1]) (fun n hn => by
    simp only [List.mem_cons, List.not_mem_nil, or_false] at hn
    rcases hn with rfl | rfl <;> omega) (by simp)
  have w2 : denC E 38 [AV.sl 1 [[PV.int .i64 f2]], AV.int .i64 (-500000), AV.int .i64 500000] [] = some ([RV.p (PV.bool true)], []) := c_within (l := [f2]) (fun n hn => by
    simp only [List.mem_cons, List.not_mem_nil, or_false] at hn
    rcases hn with rfl; omega) (by simp)
  have hH := c_Half (n := f2 + f1 * s.sn) (d := s.bw + s.sn) (by omega) (by omega)
  generalize Half (f2 + f1 * s.sn) (s.bw + s.sn) = b at *
  have w3 : denC E 38 [AV.sl 1 [[PV.int .i64 b], [PV.int .i64 (f1 - b)]], AV.int .i64 (-500000), AV.int .i64 500000] [] = some ([RV.p (PV.bool true)], []) := c_within (l := [b, f1 - b]) (fun n hn => by
    simp only [List.mem_cons, List.not_mem_nil, or_false] at hn
    rcases hn with rfl | rfl <;> omega) (by simp)
  have e0 : ((0 : Int) != 0) = false := rfl
  unfold shpC at *
  rw [denC_eq, r19, hC]
  simp only [bnd_some, ctl_true, ctl_false, ctl_and, ctl_or', ctl_or2, x_toPV, x_toCs, x_toCs2, x_toEs, x_bEs, x_bCs, x_aPV, x_aCs, x_int, x_bool, x_str, x_es, x_esn, nth_0, nth_1, nth_2, nth_3, nth_4, nth_5, nth_6, nth_7, nth_8, nth_9, y_nil, y_int, y_bool, y_str, y_sl, y_nils, y_agg, y_ownp, y_own, z_nil, z_int, z_bool, z_str, z_sl, z_nils, b_nil, b_arr, b_box1, b_box2, b_box3, b_box4, List.map_cons, List.map_nil, Bool.and_self, Bool.and_true, Bool.true_and, Bool.not_true, Bool.not_false, Bool.or_false, Bool.false_or, cond_true, cond_false, okPack, okPut, okPutBlks, okPutCells, q_isP, q_isAg, q_isBox, q_isArr, q_int, q_bool, q_str, q_sl, q_nils, e_exit, e_ret, e_nrm, e_ret_exit, e_exit_ret, e_nrm_exit, e_nrm_ret, e_exit_nrm, e_ret_nrm, Nat.zero_add, Nat.reduceAdd, noslR, noslP, noslB, noslA, List.all_cons, List.all_nil, e0]
  rw [w1]
  simp only [bnd_some, ctl_true, ctl_false, ctl_and, ctl_or', ctl_or2, x_toPV, x_toCs, x_toCs2, x_toEs, x_bEs, x_bCs, x_aPV, x_aCs, x_int, x_bool, x_str, x_es, x_esn, nth_0, nth_1, nth_2, nth_3, nth_4, nth_5, nth_6, nth_7, nth_8, nth_9, y_nil, y_int, y_bool, y_str, y_sl, y_nils, y_agg, y_ownp, y_own, z_nil, z_int, z_bool, z_str, z_sl, z_nils, b_nil, b_arr, b_box1, b_box2, b_box3, b_box4, List.map_cons, List.map_nil, Bool.and_self, Bool.and_true, Bool.true_and, Bool.not_true, Bool.not_false, Bool.or_false, Bool.false_or, cond_true, cond_false, okPack, okPut, okPutBlks, okPutCells, q_isP, q_isAg, q_isBox, q_isArr, q_int, q_bool, q_str, q_sl, q_nils, e_exit, e_ret, e_nrm, e_ret_exit, e_exit_ret, e_nrm_exit, e_nrm_ret, e_exit_nrm, e_ret_nrm, Nat.zero_add, Nat.reduceAdd, noslR, noslP, noslB, noslA, List.all_cons, List.all_nil]
  rw [w2]
  simp only [bnd_some, ctl_true, ctl_false, ctl_and, ctl_or', ctl_or2, x_toPV, x_toCs, x_toCs2, x_toEs, x_bEs, x_bCs, x_aPV, x_aCs, x_int, x_bool, x_str, x_es, x_esn, nth_0, nth_1, nth_2, nth_3, nth_4, nth_5, nth_6, nth_7, nth_8, nth_9, y_nil, y_int, y_bool, y_str, y_sl, y_nils, y_agg, y_ownp, y_own, z_nil, z_int, z_bool, z_str, z_sl, z_nils, b_nil, b_arr, b_box1, b_box2, b_box3, b_box4, List.map_cons, List.map_nil, Bool.and_self, Bool.and_true, Bool.true_and, Bool.not_true, Bool.not_false, Bool.or_false, Bool.false_or, cond_true, cond_false, okPack, okPut, okPutBlks, okPutCells, q_isP, q_isAg, q_isBox, q_isArr, q_int, q_bool, q_str, q_sl, q_nils, e_exit, e_ret, e_nrm, e_ret_exit, e_exit_ret, e_nrm_exit, e_nrm_ret, e_exit_nrm, e_ret_nrm, Nat.zero_add, Nat.reduceAdd, noslR, noslP, noslB, noslA, List.all_cons, List.all_nil]
  rw [w64 (n := f1 * s.sn) (by omega), w64 (n := f2 + f1 * s.sn) (by omega), w64 (n := s.bw + s.sn) (by omega), hH]
  simp only [bnd_some, ctl_true, ctl_false, ctl_and, ctl_or', ctl_or2, x_toPV, x_toCs, x_toCs2, x_toEs, x_bEs, x_bCs, x_aPV, x_aCs, x_int, x_bool, x_str, x_es, x_esn, nth_0, nth_1, nth_2, nth_3, nth_4, nth_5, nth_6, nth_7, nth_8, nth_9, y_nil, y_int, y_bool, y_str, y_sl, y_nils, y_agg, y_ownp, y_own, z_nil, z_int, z_bool, z_str, z_sl, z_nils, b_nil, b_arr, b_box1, b_box2, b_box3, b_box4, List.map_cons, List.map_nil, Bool.and_self, Bool.and_true, Bool.true_and, Bool.not_true, Bool.not_false, Bool.or_false, Bool.false_or, cond_true, cond_false, okPack, okPut, okPutBlks, okPutCells, q_isP, q_isAg, q_isBox, q_isArr, q_int, q_bool, q_str, q_sl, q_nils, e_exit, e_ret, e_nrm, e_ret_exit, e_exit_ret, e_nrm_exit, e_nrm_ret, e_exit_nrm, e_ret_nrm, Nat.zero_add, Nat.reduceAdd, noslR, noslP, noslB, noslA, List.all_cons, List.all_nil]
  rw [w64 (n := f1 - b) (by omega), w3]
  simp only [bnd_some, ctl_true, ctl_false, ctl_and, ctl_or', ctl_or2, x_toPV, x_toCs, x_toCs2, x_toEs, x_bEs, x_bCs, x_aPV, x_aCs, x_int, x_bool, x_str, x_es, x_esn, nth_0, nth_1, nth_2, nth_3, nth_4, nth_5, nth_6, nth_7, nth_8, nth_9, y_nil, y_int, y_bool, y_str, y_sl, y_nils, y_agg, y_ownp, y_own, z_nil, z_int, z_bool, z_str, z_sl, z_nils, b_nil, b_arr, b_box1, b_box2, b_box3, b_box4, List.map_cons, List.map_nil, Bool.and_self, Bool.and_true, Bool.true_and, Bool.not_true, Bool.not_false, Bool.or_false, Bool.false_or, cond_true, cond_false, okPack, okPut, okPutBlks, okPutCells, q_isP, q_isAg, q_isBox, q_isArr, q_int, q_bool, q_str, q_sl, q_nils, e_exit, e_ret, e_nrm, e_ret_exit, e_exit_ret, e_nrm_exit, e_nrm_ret, e_exit_nrm, e_ret_nrm, Nat.zero_add, Nat.reduceAdd, noslR, noslP, noslB, noslA, List.all_cons, List.all_nil]

/-! ### Holds -/
noncomputable def holdsB (s : Shp) (ms : List Int) (d0 d1 d2 : Int) : Bool := (d0 - (gvA s ms [] d0 d1 d2).1 == 0) && ((d1 - (gvA s ms [] d0 d1 d2).2.1 == 0) && (d2 - (gvA s ms [] d0 d1 d2).2.2 == 0))
theorem c_Holds {s : Shp} {ms : List Int} (h : AOk s ms []) {d0 d1 d2 : Int} (hd : Mod3 d0 d1 d2) : denC E 20 [AV.agg (shpC s), AV.sl 1 (intsK .i64 ms), AV.agg [PV.int .i64 d0, PV.int .i64 d1, PV.int .i64 d2]] [] = some ([RV.p (PV.bool (holdsB s ms d0 d1 d2))], []) := by
  have hD := c_ADivide h hd
  have ea : arcK [] = [] := rfl
  rw [ea] at hD
  unfold shpC at *
  rw [denC_eq, r20, hD]
  simp only [bnd_some, ctl_true, ctl_false, ctl_and, ctl_or', ctl_or2, x_toPV, x_toCs, x_toCs2, x_toEs, x_bEs, x_bCs, x_aPV, x_aCs, x_int, x_bool, x_str, x_es, x_esn, nth_0, nth_1, nth_2, nth_3, nth_4, nth_5, nth_6, nth_7, nth_8, nth_9, y_nil, y_int, y_bool, y_str, y_sl, y_nils, y_agg, y_ownp, y_own, z_nil, z_int, z_bool, z_str, z_sl, z_nils, b_nil, b_arr, b_box1, b_box2, b_box3, b_box4, List.map_cons, List.map_nil, Bool.and_self, Bool.and_true, Bool.true_and, Bool.not_true, Bool.not_false, Bool.or_false, Bool.false_or, cond_true, cond_false, okPack, okPut, okPutBlks, okPutCells, q_isP, q_isAg, q_isBox, q_isArr, q_int, q_bool, q_str, q_sl, q_nils, e_exit, e_ret, e_nrm, e_ret_exit, e_exit_ret, e_nrm_exit, e_nrm_ret, e_exit_nrm, e_ret_nrm, Nat.zero_add, Nat.reduceAdd, noslR, noslP, noslB, noslA, List.all_cons, List.all_nil, beq_self_eq_true]
  rfl

/-! ### What is given, station by station -/
/-- The sum of the numbers at thrusters of one station. -/
def sumAt (k : Int) : List Thr → List Int → Int
  | t :: ts, x :: xs => (if t.st = k then x else 0) + sumAt k ts xs
  | _, _ => 0

theorem tot_eq : ∀ (ts : List Thr) (xs ys : List Int) (a b c : Int), (∀ t ∈ ts, t.st = 0 ∨ t.st = 1) → xs.length = ts.length → ys.length = ts.length →
    tot ts (pairL xs ys) a b c = (a + Div.sumI xs, b + sumAt 0 ts ys, c + sumAt 1 ts ys)
  | [], xs, ys, a, b, c, hs, hx, hy => by
    have e1 : xs = [] := by cases xs with | nil => rfl | cons => cases hx
    have e2 : ys = [] := by cases ys with | nil => rfl | cons => cases hy
    subst e1; subst e2
    simp [tot, pairL, Div.sumI, sumAt]
  | t :: ts, [], ys, a, b, c, hs, hx, hy => by cases hx
  | t :: ts, _ :: _, [], a, b, c, hs, hx, hy => by cases hy
  | t :: ts, x :: xs, y :: ys, a, b, c, hs, hx, hy => by
    have ih := fun a b c => tot_eq ts xs ys a b c (fun z hz => hs z (List.mem_cons_of_mem _ hz)) (by simpa using hx) (by simpa using hy)
    have ht := hs t (List.mem_cons_self ..)
    simp only [pairL, tot, Div.sumI, sumAt]
    by_cases h0 : t.st = 0
    · rw [if_pos h0, ih, if_pos h0, if_neg (by omega)]
      simp only [Int.add_assoc, Int.zero_add]
    · rw [if_neg h0, ih, if_neg h0, if_pos (by omega)]
      simp only [Int.add_assoc, Int.zero_add]

theorem sumAt_add (k : Int) : ∀ (ts : List Thr) (ls : List (Int × Int)) (a b : List Int), (∀ t ∈ ts, okT t = true) → InR (lats 1 ts ls) a → InR (lats 0 ts ls) b → (k = 0 ∨ k = 1) →
    sumAt k ts (addL a b) = if k = 0 then Div.sumI b else Div.sumI a
  | [], _, [], [], hv, ha, hb, hk => by simp [sumAt, addL, Div.sumI]
  | [], _, _ :: _, _, _, h, _, _ => h.elim
  | [], _, [], _ :: _, _, _, h, _ => h.elim
  | t :: ts, _, [], _, _, h, _, _ => h.elim
  | t :: ts, _, _ :: _, [], _, _, h, _ => h.elim
  | t :: ts, ls, x :: a, z :: b, hv, ha, hb, hk => by
    have ih := sumAt_add k ts ls.tail a b (fun x hx => hv x (List.mem_cons_of_mem _ hx)) ha.2 hb.2 hk
    have hv1 := okT0_iff.1 (okT_iff.1 (hv t (List.mem_cons_self ..))).1
    have ha1 := ha.1
    have hb1 := hb.1
    unfold latS at ha1 hb1
    simp only [addL, sumAt, Div.sumI]
    rw [ih]
    by_cases h0 : t.st = 0
    · rw [if_neg (by omega)] at ha1
      simp only at ha1
      rcases hk with rfl | rfl
      · rw [if_pos h0, if_pos rfl, if_pos rfl]; omega
      · rw [if_neg (by omega), if_neg (by omega), if_neg (by omega)]; omega
    · rw [if_neg h0] at hb1
      simp only at hb1
      rcases hk with rfl | rfl
      · rw [if_neg h0, if_pos rfl, if_pos rfl]; omega
      · rw [if_pos (by omega), if_neg (by omega), if_neg (by omega)]; omega

theorem Ws_st : ∀ {ts : List Thr} {ms : List Int} (k : Int) (xs : List Int), ms.length = ts.length → sumAt k (Ws ts ms) xs = sumAt k ts xs
  | [], _, k, xs, _ => by simp [Ws]
  | t :: ts, [], k, xs, h => by cases h
  | t :: ts, m :: ms, k, [], h => by simp [Ws, sumAt]
  | t :: ts, m :: ms, k, x :: xs, h => by
    have e : (withT t m).st = t.st := rfl
    simp only [Ws, sumAt, e]
    rw [Ws_st k xs (by simpa using h)]

theorem gvA_eq {s : Shp} {ms : List Int} {ls : List (Int × Int)} (h : AOk s ms ls) {d0 d1 d2 : Int} (hd : Mod3 d0 d1 d2) :
    gvA s ms ls d0 d1 d2 = (totC (lons (Ws s.ts ms) (ysA (Ws s.ts ms) ls d1 d2) ls) d0, totC (lats 0 (Ws s.ts ms) ls) d1, totC (lats 1 (Ws s.ts ms) ls) d2) := by
  obtain ⟨w1, w2, w3, w4, w5⟩ := wsa h
  have o0 := OkL_lats w2 w3 0 ls
  have o1 := OkL_lats w2 w3 1 ls
  have hy := ysA_len h hd
  have hx := xsA_len h hd
  have o2 := OkL_lons w2 w3 (ys := ysA (Ws s.ts ms) ls d1 d2) (by rw [hy.1, w1]) ls
  have hst : ∀ t ∈ s.ts, t.st = 0 ∨ t.st = 1 := fun t ht => by
    have := okT0_iff.1 (okT_iff.1 (h.ok.2.2.2.2.2.2 t ht).1).1
    omega
  have e := tot_eq s.ts (xsA (Ws s.ts ms) ls d0 d1 d2) (ysA (Ws s.ts ms) ls d1 d2) 0 0 0 hst hx.1 hy.1
  have e0 := sumAt_add 0 (Ws s.ts ms) ls (dv (lats 1 (Ws s.ts ms) ls) d2) (dv (lats 0 (Ws s.ts ms) ls) d1) w3 (dv_in o1 hd.2.2) (dv_in o0 hd.2.1) (.inl rfl)
  have e1 := sumAt_add 1 (Ws s.ts ms) ls (dv (lats 1 (Ws s.ts ms) ls) d2) (dv (lats 0 (Ws s.ts ms) ls) d1) w3 (dv_in o1 hd.2.2) (dv_in o0 hd.2.1) (.inr rfl)
  have hyy : addL (dv (lats 1 (Ws s.ts ms) ls) d2) (dv (lats 0 (Ws s.ts ms) ls) d1) = ysA (Ws s.ts ms) ls d1 d2 := rfl
  rw [hyy, Ws_st _ _ h.ml] at e0 e1
  rw [if_pos rfl, dv_sum o0 hd.2.1] at e0
  rw [if_neg (by omega), dv_sum o1 hd.2.2] at e1
  have e2 : Div.sumI (xsA (Ws s.ts ms) ls d0 d1 d2) = totC (lons (Ws s.ts ms) (ysA (Ws s.ts ms) ls d1 d2) ls) d0 := dv_sum o2 hd.1
  unfold gvA thA
  rw [e, e0, e1, e2]
  simp only [Int.zero_add]

end Go.Proofs.Ytcnjaffogkkpnaa.Vm

/- Allocation: the example, what is not divided. -/
namespace Go.Proofs.Ytcnjaffogkkpnaa.Vm
set_option linter.unusedVariables false
set_option linter.unusedSimpArgs false

/-! ### Thrusters without arcs -/
theorem noarc_lat {u : Thr} (hu : okT u = true) (hf : u.fb = []) : IsLat u (if u.kd = 2 then 0 else -u.mx) (if u.kd = 2 then 0 else u.mx) := by
  have hv := okT0_iff.1 (okT_iff.1 hu).1
  have hz : alw u 0 0 = true := alw_zero (by omega)
  have mm := sq_le (a := u.mx) (m := u.mx) (by omega)
  have key : ∀ x y, alw u x y = true ↔ (-u.mx ≤ x ∧ x ≤ u.mx ∧ -u.mx ≤ y ∧ y ≤ u.mx ∧ x * x + y * y ≤ u.mx * u.mx ∧ (u.kd = 1 → x = 0) ∧ (u.kd = 2 → y = 0)) := by
    intro x y
    rw [alw_iff, alw0_iff, hf]
    simp only [free, List.all_nil, and_true]
  have nkey : ∀ x y, ¬ (-u.mx ≤ x ∧ x ≤ u.mx ∧ -u.mx ≤ y ∧ y ≤ u.mx ∧ x * x + y * y ≤ u.mx * u.mx ∧ (u.kd = 1 → x = 0) ∧ (u.kd = 2 → y = 0)) → alw u x y = false := by
    intro x y hn
    cases hh : alw u x y with
    | false => rfl
    | true => exact absurd ((key x y).1 hh) hn
  unfold IsLat
  rw [if_pos hu]
  by_cases hk : u.kd = 2
  · rw [if_pos hk, if_pos hk]
    refine ⟨by omega, by omega, fun n h1 h2 => ?_, nkey _ _ (by omega), nkey _ _ (by omega)⟩
    have : n = 0 := by omega
    rw [this]; exact hz
  · rw [if_neg hk, if_neg hk]
    refine ⟨by omega, by omega, fun n h1 h2 => (key _ _).2 ?_, nkey _ _ (by omega), nkey _ _ (by omega)⟩
    have := sq_le (a := n) (m := u.mx) (by omega)
    omega

/-- A tunnel thruster gives no longitudinal force. -/
theorem tunnel_lon {u : Thr} (hu : okT u = true) (hk : u.kd = 1) (y : Int) : lonF u y = (0, 0) := by
  have h := lonF_is u y
  unfold IsLon at h
  split at h
  · rename_i hc
    have hno : ∀ n, n ≠ 0 → alw u n y = false := fun n hn => by
      cases hh : alw u n y with
      | false => rfl
      | true => exact absurd ((alw0_iff.1 (alw_iff.1 hh).1).2.2.2.2.2.1 hk) hn
    have h2 : IsRun (fun x => alw u x y) 0 0 := ⟨by omega, by omega, fun n a b => by
      have : n = 0 := by omega
      rw [this]; exact hc.2, hno _ (by omega), hno _ (by omega)⟩
    obtain ⟨e1, e2⟩ := IsRun_uniq h h2
    exact Prod.ext e1 e2
  · exact Prod.ext h.1 h.2
/-- Without lateral force a thruster without arcs that is no tunnel thruster gives all. -/
theorem noarc_lon {u : Thr} (hu : okT u = true) (hf : u.fb = []) (hk : u.kd ≠ 1) : lonF u 0 = (-u.mx, u.mx) := by
  have hv := okT0_iff.1 (okT_iff.1 hu).1
  have hz : alw u 0 0 = true := alw_zero (by omega)
  have h := lonF_is u 0
  unfold IsLon at h
  rw [if_pos ⟨hu, hz⟩] at h
  have key : ∀ x, alw u x 0 = true ↔ (-u.mx ≤ x ∧ x ≤ u.mx ∧ x * x ≤ u.mx * u.mx) := by
    intro x
    rw [alw_iff, alw0_iff, hf]
    simp only [free, List.all_nil, and_true, Int.mul_zero, Int.add_zero]
    constructor
    · rintro ⟨a, b, _, _, e, _, _⟩; exact ⟨a, b, e⟩
    · rintro ⟨a, b, e⟩; exact ⟨a, b, by omega, by omega, e, fun h => absurd h hk, fun _ => trivial⟩
  have nkey : ∀ x, ¬ (-u.mx ≤ x ∧ x ≤ u.mx ∧ x * x ≤ u.mx * u.mx) → alw u x 0 = false := by
    intro x hn
    cases hh : alw u x 0 with
    | false => rfl
    | true => exact absurd ((key x).1 hh) hn
  have h2 : IsRun (fun x => alw u x 0) (-u.mx) u.mx := ⟨by omega, by omega, fun n a b => (key n).2 (by have := sq_le (a := n) (m := u.mx) (by omega); omega), nkey _ (by omega), nkey _ (by omega)⟩
  obtain ⟨e1, e2⟩ := IsRun_uniq h h2
  exact Prod.ext e1 e2

/-! ### Lists of thrusts that are equal -/
theorem teq_loop : ∀ (l p : List (Int × Int)), (p ++ l).length ≤ 100 →
    lp E (denC E) 35 0 [] 0 { vals := [AV.sl 2 (arcK (p ++ l)), AV.sl 2 (arcK (p ++ l)), AV.int .i64 ((p ++ l).length : Int), AV.int .i64 (p.length : Int)], blks := [] } = some (Ex.exit 0, { vals := [], blks := [] })
  | [], p, h => by
    rw [r35_0, ctl_dec, if_neg (by simp)]
  | s :: l, p, h => by
    have ih := teq_loop l (p ++ [s]) (by simp at h ⊢; omega)
    simp only [List.append_assoc, List.cons_append, List.nil_append, List.length_append, List.length_cons, List.length_nil] at ih h
    rw [r35_0, ctl_dec, if_pos (by simp; omega)]
    simp only [getE_arc, arcC, bnd_some, ctl_true, ctl_false, ctl_and, ctl_or', ctl_or2, x_toPV, x_toCs, x_toCs2, x_toEs, x_bEs, x_bCs, x_aPV, x_aCs, x_int, x_bool, x_str, x_es, x_esn, nth_0, nth_1, nth_2, nth_3, nth_4, nth_5, nth_6, nth_7, nth_8, nth_9, y_nil, y_int, y_bool, y_str, y_sl, y_nils, y_agg, y_ownp, y_own, z_nil, z_int, z_bool, z_str, z_sl, z_nils, b_nil, b_arr, b_box1, b_box2, b_box3, b_box4, List.map_cons, List.map_nil, Bool.and_self, Bool.and_true, Bool.true_and, Bool.not_true, Bool.not_false, Bool.or_false, Bool.false_or, cond_true, cond_false, okPack, okPut, okPutBlks, okPutCells, q_isP, q_isAg, q_isBox, q_isArr, q_int, q_bool, q_str, q_sl, q_nils, e_exit, e_ret, e_nrm, e_ret_exit, e_exit_ret, e_nrm_exit, e_nrm_ret, e_exit_nrm, e_ret_nrm, Nat.zero_add, Nat.reduceAdd, noslR, noslP, noslB, noslA, List.all_cons, List.all_nil, beq_self_eq_true, List.length_append, List.length_cons]
    rw [w64 (n := (p.length : Int) + 1) (by omega)]
    have e1 : ((p.length : Int) + 1) = ((p.length + (0 + 1) : Nat) : Int) := by omega
    rw [e1, ih]
theorem c_TEq {l : List (Int × Int)} (h : l.length ≤ 100) : denC E 35 [AV.sl 2 (arcK l), AV.sl 2 (arcK l)] [] = some ([RV.p (PV.bool true)], []) := by
  have hl := teq_loop l [] (by simpa using h)
  simp only [List.nil_append, List.length_nil] at hl
  have e0 : (((0 : Nat)) : Int) = 0 := rfl
  rw [e0] at hl
  rw [denC_eq, r35, arcK_length, hl]
  simp only [bnd_some, ctl_true, ctl_false, ctl_and, ctl_or', ctl_or2, x_toPV, x_toCs, x_toCs2, x_toEs, x_bEs, x_bCs, x_aPV, x_aCs, x_int, x_bool, x_str, x_es, x_esn, nth_0, nth_1, nth_2, nth_3, nth_4, nth_5, nth_6, nth_7, nth_8, nth_9, y_nil, y_int, y_bool, y_str, y_sl, y_nils, y_agg, y_ownp, y_own, z_nil, z_int, z_bool, z_str, z_sl, z_nils, b_nil, b_arr, b_box1, b_box2, b_box3, b_box4, List.map_cons, List.map_nil, Bool.and_self, Bool.and_true, Bool.true_and, Bool.not_true, Bool.not_false, Bool.or_false, Bool.false_or, cond_true, cond_false, okPack, okPut, okPutBlks, okPutCells, q_isP, q_isAg, q_isBox, q_isArr, q_int, q_bool, q_str, q_sl, q_nils, e_exit, e_ret, e_nrm, e_ret_exit, e_exit_ret, e_nrm_exit, e_nrm_ret, e_exit_nrm, e_ret_nrm, Nat.zero_add, Nat.reduceAdd, noslR, noslP, noslB, noslA, List.all_cons, List.all_nil, bne_self_eq_false]

/-! ### The example -/
def ex1 : Thr := ⟨1, 0, 50, 0, 1, []⟩
def ex2 : Thr := ⟨1, 1, 50, 0, 1, []⟩
def ex3 : Thr := ⟨2, 1, 90, 0, 1, []⟩
def exS : Shp := ⟨40, 60, [ex1, ex2, ex3]⟩
theorem ex_ok : ∀ t ∈ [ex1, ex2, ex3], okT t = true := by
  intro t ht
  simp only [List.mem_cons, List.not_mem_nil, or_false] at ht
  rcases ht with rfl | rfl | rfl <;> decide +kernel
theorem exA : AOk exS [50, 50, 90] [] := by
  refine ⟨⟨by decide, by decide, by decide, by decide, by decide, by decide, fun t ht => ⟨ex_ok t ht, ?_⟩⟩, rfl, fun m hm => ?_, .inl rfl, fun v hv => by cases hv⟩
  · have ht' : t ∈ [ex1, ex2, ex3] := ht
    simp only [List.mem_cons, List.not_mem_nil, or_false] at ht'
    rcases ht' with rfl | rfl | rfl <;> decide
  · simp only [List.mem_cons, List.not_mem_nil, or_false] at hm
    rcases hm with rfl | rfl | rfl <;> omega
theorem exW : Ws exS.ts [50, 50, 90] = [ex1, ex2, ex3] := rfl

theorem inr3 {s1 s2 s3 : Div.Shr} {xs : List Int} (h : InR [s1, s2, s3] xs) : ∃ a b c, xs = [a, b, c] ∧ (s1.lo ≤ a ∧ a ≤ s1.hi) ∧ (s2.lo ≤ b ∧ b ≤ s2.hi) ∧ (s3.lo ≤ c ∧ c ≤ s3.hi) := by
  match xs, h with
  | [a, b, c], h => exact ⟨a, b, c, rfl, h.1, h.2.1, h.2.2.1⟩

theorem exTh : thA [ex1, ex2, ex3] [] 5 7 3 = [(0, 7), (0, 3), (5, 0)] := by
  have l1 : latF ex1 = (-50, 50) := by
    obtain ⟨a, b⟩ := IsLat_uniq (latF_is ex1) (noarc_lat (u := ex1) (by decide +kernel) rfl)
    exact Prod.ext a b
  have l2 : latF ex2 = (-50, 50) := by
    obtain ⟨a, b⟩ := IsLat_uniq (latF_is ex2) (noarc_lat (u := ex2) (by decide +kernel) rfl)
    exact Prod.ext a b
  have l3 : latF ex3 = (0, 0) := by
    obtain ⟨a, b⟩ := IsLat_uniq (latF_is ex3) (noarc_lat (u := ex3) (by decide +kernel) rfl)
    exact Prod.ext a b
  have e0 : lats 0 [ex1, ex2, ex3] [] = [⟨-50, 50, 1⟩, ⟨0, 0, 1⟩, ⟨0, 0, 1⟩] := by
    simp only [lats, latS, l1, List.head?_nil, List.tail_nil, Option.map_none, ratS]
    rfl
  have e1 : lats 1 [ex1, ex2, ex3] [] = [⟨0, 0, 1⟩, ⟨-50, 50, 1⟩, ⟨0, 0, 1⟩] := by
    simp only [lats, latS, l2, l3, List.head?_nil, List.tail_nil, Option.map_none, ratS]
    rfl
  have o0 : Div.OkL (lats 0 [ex1, ex2, ex3] []) := OkL_lats (by decide) ex_ok 0 []
  have o1 : Div.OkL (lats 1 [ex1, ex2, ex3] []) := OkL_lats (by decide) ex_ok 1 []
  have d0 := dv_in o0 (a := 7) (by omega)
  have d1 := dv_in o1 (a := 3) (by omega)
  have s0 := dv_sum o0 (total := 7) (by omega)
  have s1 := dv_sum o1 (total := 3) (by omega)
  have t0 : totC (lats 0 [ex1, ex2, ex3] []) 7 = 7 := by rw [e0]; decide
  have t1 : totC (lats 1 [ex1, ex2, ex3] []) 3 = 3 := by rw [e1]; decide
  rw [t0] at s0
  rw [t1] at s1
  have v0 : dv (lats 0 [ex1, ex2, ex3] []) 7 = [7, 0, 0] := by
    generalize dv (lats 0 [ex1, ex2, ex3] []) 7 = z at *
    rw [e0] at d0
    obtain ⟨a, b, c, rfl, h1, h2, h3⟩ := inr3 d0
    simp only [Div.sumI] at s0 h1 h2 h3
    have : a = 7 := by omega
    have : b = 0 := by omega
    have : c = 0 := by omega
    subst_vars; rfl
  have v1 : dv (lats 1 [ex1, ex2, ex3] []) 3 = [0, 3, 0] := by
    generalize dv (lats 1 [ex1, ex2, ex3] []) 3 = z at *
    rw [e1] at d1
    obtain ⟨a, b, c, rfl, h1, h2, h3⟩ := inr3 d1
    simp only [Div.sumI] at s1 h1 h2 h3
    have : a = 0 := by omega
    have : b = 3 := by omega
    have : c = 0 := by omega
    subst_vars; rfl
  have hy : ysA [ex1, ex2, ex3] [] 7 3 = [7, 3, 0] := by unfold ysA; rw [v0, v1]; rfl
  have e2 : lons [ex1, ex2, ex3] [7, 3, 0] [] = [⟨0, 0, 1⟩, ⟨0, 0, 1⟩, ⟨-90, 90, 1⟩] := by
    simp only [lons, lonS, tunnel_lon (u := ex1) (by decide +kernel) rfl, tunnel_lon (u := ex2) (by decide +kernel) rfl, noarc_lon (u := ex3) (by decide +kernel) rfl (by decide), List.head?_nil, List.tail_nil, Option.map_none, ratS]
    rfl
  have o2 : Div.OkL (lons [ex1, ex2, ex3] [7, 3, 0] []) := OkL_lons (by decide) ex_ok rfl []
  have d2 := dv_in o2 (a := 5) (by omega)
  have s2 := dv_sum o2 (total := 5) (by omega)
  have t2 : totC (lons [ex1, ex2, ex3] [7, 3, 0] []) 5 = 5 := by rw [e2]; decide
  rw [t2] at s2
  have v2 : dv (lons [ex1, ex2, ex3] [7, 3, 0] []) 5 = [0, 0, 5] := by
    generalize dv (lons [ex1, ex2, ex3] [7, 3, 0] []) 5 = z at *
    rw [e2] at d2
    obtain ⟨a, b, c, rfl, h1, h2, h3⟩ := inr3 d2
    simp only [Div.sumI] at s2 h1 h2 h3
    have : a = 0 := by omega
    have : b = 0 := by omega
    have : c = 5 := by omega
    subst_vars; rfl
  unfold thA xsA
  rw [hy, v2]
  rfl

theorem c_sane : denC E 11 [] [] = some ([RV.p (PV.bool true)], []) := by
  have hS := c_Stations exA.ok (f0 := 5) (f1 := 10) (f2 := 100) (by omega) (by omega) (by omega) (by decide +kernel)
  have hH : Half (100 + 10 * exS.sn) (exS.bw + exS.sn) = 7 := by decide +kernel
  rw [hH] at hS
  have hd : Mod3 5 7 3 := by unfold Mod3; omega
  have hD := c_ADivide exA hd
  have hO := c_Holds exA hd
  have hg : gvA exS [50, 50, 90] [] 5 7 3 = (5, 7, 3) := by
    unfold gvA
    rw [exW, exTh]
    rfl
  have hh : holdsB exS [50, 50, 90] 5 7 3 = true := by unfold holdsB; rw [hg]; rfl
  have hT := c_TEq (l := [(0, 7), (0, 3), (5, 0)]) (by decide)
  rw [hg, exW, exTh] at hD
  rw [hh] at hO
  have e1 : shpC exS = [PV.int .i64 40, PV.int .i64 60, PV.sl 6 [[PV.int .i64 1, PV.int .i64 0, PV.int .i64 50, PV.int .i64 0, PV.int .i64 1, PV.sl 2 []], [PV.int .i64 1, PV.int .i64 1, PV.int .i64 50, PV.int .i64 0, PV.int .i64 1, PV.sl 2 []], [PV.int .i64 2, PV.int .i64 1, PV.int .i64 90, PV.int .i64 0, PV.int .i64 1, PV.sl 2 []]]] := rfl
  have e2 : intsK .i64 [50, 50, 90] = [[PV.int .i64 50], [PV.int .i64 50], [PV.int .i64 90]] := rfl
  have e3 : arcK [(0, 7), (0, 3), (5, 0)] = [[PV.int .i64 0, PV.int .i64 7], [PV.int .i64 0, PV.int .i64 3], [PV.int .i64 5, PV.int .i64 0]] := rfl
  have e4 : arcK [] = [] := rfl
  have e5 : (10 : Int) - 7 = 3 := rfl
  rw [e1, e5] at hS
  rw [e1, e2, e3, e4] at hD
  rw [e1, e2] at hO
  rw [e3] at hT
  rw [denC_eq, r11, hS]
  simp only [bnd_some, ctl_true, ctl_false, ctl_and, ctl_or', ctl_or2, x_toPV, x_toCs, x_toCs2, x_toEs, x_bEs, x_bCs, x_aPV, x_aCs, x_int, x_bool, x_str, x_es, x_esn, nth_0, nth_1, nth_2, nth_3, nth_4, nth_5, nth_6, nth_7, nth_8, nth_9, y_nil, y_int, y_bool, y_str, y_sl, y_nils, y_agg, y_ownp, y_own, z_nil, z_int, z_bool, z_str, z_sl, z_nils, b_nil, b_arr, b_box1, b_box2, b_box3, b_box4, List.map_cons, List.map_nil, Bool.and_self, Bool.and_true, Bool.true_and, Bool.not_true, Bool.not_false, Bool.or_false, Bool.false_or, cond_true, cond_false, okPack, okPut, okPutBlks, okPutCells, q_isP, q_isAg, q_isBox, q_isArr, q_int, q_bool, q_str, q_sl, q_nils, e_exit, e_ret, e_nrm, e_ret_exit, e_exit_ret, e_nrm_exit, e_nrm_ret, e_exit_nrm, e_ret_nrm, Nat.zero_add, Nat.reduceAdd, noslR, noslP, noslB, noslA, List.all_cons, List.all_nil]
  rw [hD]
  simp only [bnd_some, ctl_true, ctl_false, ctl_and, ctl_or', ctl_or2, x_toPV, x_toCs, x_toCs2, x_toEs, x_bEs, x_bCs, x_aPV, x_aCs, x_int, x_bool, x_str, x_es, x_esn, nth_0, nth_1, nth_2, nth_3, nth_4, nth_5, nth_6, nth_7, nth_8, nth_9, y_nil, y_int, y_bool, y_str, y_sl, y_nils, y_agg, y_ownp, y_own, z_nil, z_int, z_bool, z_str, z_sl, z_nils, b_nil, b_arr, b_box1, b_box2, b_box3, b_box4, List.map_cons, List.map_nil, Bool.and_self, Bool.and_true, Bool.true_and, Bool.not_true, Bool.not_false, Bool.or_false, Bool.false_or, cond_true, cond_false, okPack, okPut, okPutBlks, okPutCells, q_isP, q_isAg, q_isBox, q_isArr, q_int, q_bool, q_str, q_sl, q_nils, e_exit, e_ret, e_nrm, e_ret_exit, e_exit_ret, e_nrm_exit, e_nrm_ret, e_exit_nrm, e_ret_nrm, Nat.zero_add, Nat.reduceAdd, noslR, noslP, noslB, noslA, List.all_cons, List.all_nil, beq_self_eq_true]
  rw [hT]
  simp only [bnd_some, ctl_true, ctl_false, ctl_and, ctl_or', ctl_or2, x_toPV, x_toCs, x_toCs2, x_toEs, x_bEs, x_bCs, x_aPV, x_aCs, x_int, x_bool, x_str, x_es, x_esn, nth_0, nth_1, nth_2, nth_3, nth_4, nth_5, nth_6, nth_7, nth_8, nth_9, y_nil, y_int, y_bool, y_str, y_sl, y_nils, y_agg, y_ownp, y_own, z_nil, z_int, z_bool, z_str, z_sl, z_nils, b_nil, b_arr, b_box1, b_box2, b_box3, b_box4, List.map_cons, List.map_nil, Bool.and_self, Bool.and_true, Bool.true_and, Bool.not_true, Bool.not_false, Bool.or_false, Bool.false_or, cond_true, cond_false, okPack, okPut, okPutBlks, okPutCells, q_isP, q_isAg, q_isBox, q_isArr, q_int, q_bool, q_str, q_sl, q_nils, e_exit, e_ret, e_nrm, e_ret_exit, e_exit_ret, e_nrm_exit, e_nrm_ret, e_exit_nrm, e_ret_nrm, Nat.zero_add, Nat.reduceAdd, noslR, noslP, noslB, noslA, List.all_cons, List.all_nil]
  rw [hO]
  simp only [bnd_some, ctl_true, ctl_false, ctl_and, ctl_or', ctl_or2, x_toPV, x_toCs, x_toCs2, x_toEs, x_bEs, x_bCs, x_aPV, x_aCs, x_int, x_bool, x_str, x_es, x_esn, nth_0, nth_1, nth_2, nth_3, nth_4, nth_5, nth_6, nth_7, nth_8, nth_9, y_nil, y_int, y_bool, y_str, y_sl, y_nils, y_agg, y_ownp, y_own, z_nil, z_int, z_bool, z_str, z_sl, z_nils, b_nil, b_arr, b_box1, b_box2, b_box3, b_box4, List.map_cons, List.map_nil, Bool.and_self, Bool.and_true, Bool.true_and, Bool.not_true, Bool.not_false, Bool.or_false, Bool.false_or, cond_true, cond_false, okPack, okPut, okPutBlks, okPutCells, q_isP, q_isAg, q_isBox, q_isArr, q_int, q_bool, q_str, q_sl, q_nils, e_exit, e_ret, e_nrm, e_ret_exit, e_exit_ret, e_nrm_exit, e_nrm_ret, e_exit_nrm, e_ret_nrm, Nat.zero_add, Nat.reduceAdd, noslR, noslP, noslB, noslA, List.all_cons, List.all_nil]

/-! ### Nothing is divided -/
theorem nP_zero {s : Div.Shr} (h : Div.OkS s) (h0 : s.lo ≤ 0 ∧ 0 ≤ s.hi) : Div.nP 0 s = 0 := by
  unfold Div.OkS at h
  unfold Div.nP
  have e : (0 + s.c) / (2 * s.c) = 0 := Int.ediv_eq_zero_of_lt (by omega) (by omega)
  rw [e, Div.clamp_eq]
  split <;> split <;> omega

theorem fillK_sign {r : Int} : ∀ {l : List Div.Shr} (k : Int), (∀ s ∈ l, Div.OkS s ∧ s.lo ≤ 0 ∧ 0 ≤ s.hi) → (r ≤ 0 → ∀ x ∈ Div.fillK r l k, x ≤ 0) ∧ (1 ≤ r → ∀ x ∈ Div.fillK r l k, 0 ≤ x)
  | [], k, _ => ⟨fun _ x hx => (by cases hx), fun _ x hx => (by cases hx)⟩
  | s :: l, k, hs => by
    have h1 := hs s (List.mem_cons_self ..)
    obtain ⟨x, m, e1, a1, a2, _⟩ := Div.fillK_at r h1.1 k
    obtain ⟨i1, i2⟩ := fillK_sign (r := r) (l := l) m (fun z hz => hs z (List.mem_cons_of_mem _ hz))
    have z := nP_zero h1.1 h1.2
    rw [e1]
    refine ⟨fun hr y hy => ?_, fun hr y hy => ?_⟩
    · rcases List.mem_cons.1 hy with rfl | hy
      · have := Div.nP_mono h1.1 (show r ≤ 0 by omega)
        omega
      · exact i1 hr y hy
    · rcases List.mem_cons.1 hy with rfl | hy
      · have := Div.nP_mono h1.1 (show 0 ≤ r - 1 by omega)
        omega
      · exact i2 hr y hy

theorem zeros_of_le : ∀ {l : List Int}, (∀ x ∈ l, x ≤ 0) → Div.sumI l ≤ 0 ∧ (Div.sumI l = 0 → ∀ x ∈ l, x = 0)
  | [], _ => ⟨Int.le_refl _, fun _ x hx => (by cases hx)⟩
  | y :: l, h => by
    obtain ⟨i1, i2⟩ := zeros_of_le (l := l) fun x hx => h x (List.mem_cons_of_mem _ hx)
    have hy := h y (List.mem_cons_self ..)
    simp only [Div.sumI]
    refine ⟨by omega, fun h0 x hx => ?_⟩
    rcases List.mem_cons.1 hx with rfl | hx
    · omega
    · exact i2 (by omega) x hx
theorem zeros_of_ge : ∀ {l : List Int}, (∀ x ∈ l, 0 ≤ x) → 0 ≤ Div.sumI l ∧ (Div.sumI l = 0 → ∀ x ∈ l, x = 0)
  | [], _ => ⟨Int.le_refl _, fun _ x hx => (by cases hx)⟩
  | y :: l, h => by
    obtain ⟨i1, i2⟩ := zeros_of_ge (l := l) fun x hx => h x (List.mem_cons_of_mem _ hx)
    have hy := h y (List.mem_cons_self ..)
    simp only [Div.sumI]
    refine ⟨by omega, fun h0 x hx => ?_⟩
    rcases List.mem_cons.1 hx with rfl | hx
    · omega
    · exact i2 (by omega) x hx

theorem ends_zero : ∀ {l : List Div.Shr}, (∀ s ∈ l, s.lo ≤ 0 ∧ 0 ≤ s.hi) → Div.lows l ≤ 0 ∧ 0 ≤ Div.highs l
  | [], _ => ⟨Int.le_refl _, Int.le_refl _⟩
  | s :: l, h => by
    have := ends_zero (l := l) fun x hx => h x (List.mem_cons_of_mem _ hx)
    have := h s (List.mem_cons_self ..)
    simp only [Div.lows, Div.highs]
    omega
theorem totC_zero {l : List Div.Shr} (h : ∀ s ∈ l, s.lo ≤ 0 ∧ 0 ≤ s.hi) : totC l 0 = 0 := by
  have := ends_zero h
  unfold totC
  rw [Div.clamp_eq]
  split <;> split <;> omega

theorem dv_zero {l : List Div.Shr} (h : Div.OkL l) (h0 : ∀ s ∈ l, s.lo ≤ 0 ∧ 0 ≤ s.hi) : ∀ x ∈ dv l 0, x = 0 := by
  have hs := dv_sum h (total := 0) (by omega)
  rw [totC_zero h0] at hs
  have hk := fillK_sign (r := prF l 0) (l := l) (totC l 0 - Div.SP l (prF l 0 - 1)) (fun s hs => ⟨h.2 s hs, h0 s hs⟩)
  have hd : dv l 0 = Div.fillK (prF l 0) l (totC l 0 - Div.SP l (prF l 0 - 1)) := Div.divL_eq h _ _
  rw [← hd] at hk
  rcases Int.lt_or_le 0 (prF l 0) with hr | hr
  · exact (zeros_of_ge (hk.2 hr)).2 hs
  · exact (zeros_of_le (hk.1 hr)).2 hs

/-- Ranges without last thrusts hold 0. -/
theorem lats_zero (k : Int) : ∀ {ts : List Thr}, (∀ t ∈ ts, okT t = true) → ∀ s ∈ lats k ts [], s.lo ≤ 0 ∧ 0 ≤ s.hi
  | [], _, s, hs => by cases hs
  | t :: ts, h, s, hs => by
    rcases List.mem_cons.1 hs with rfl | hs
    · have h1 := lat_in (h t (List.mem_cons_self ..))
      unfold latS
      split
      · simp only [List.head?_nil, Option.map_none, ratS]; omega
      · simp only; omega
    · exact lats_zero k (fun x hx => h x (List.mem_cons_of_mem _ hx)) s hs
theorem lons_zero : ∀ {ts : List Thr} (ys : List Int), (∀ t ∈ ts, okT t = true) → ∀ s ∈ lons ts ys [], s.lo ≤ 0 ∧ 0 ≤ s.hi
  | [], _, _, s, hs => by cases hs
  | t :: ts, [], _, s, hs => by cases hs
  | t :: ts, y :: ys, h, s, hs => by
    rcases List.mem_cons.1 hs with rfl | hs
    · have h1 := lon_in (h t (List.mem_cons_self ..)) y
      unfold lonS
      simp only [List.head?_nil, Option.map_none, ratS]; omega
    · exact lons_zero ys (fun x hx => h x (List.mem_cons_of_mem _ hx)) s hs

theorem addL_zero : ∀ {a b : List Int}, (∀ x ∈ a, x = 0) → (∀ x ∈ b, x = 0) → ∀ x ∈ addL a b, x = 0
  | [], _, _, _, x, hx => by cases hx
  | _ :: _, [], _, _, x, hx => by cases hx
  | y :: a, z :: b, ha, hb, x, hx => by
    rcases List.mem_cons.1 hx with rfl | hx
    · have := ha y (List.mem_cons_self ..)
      have := hb z (List.mem_cons_self ..)
      omega
    · exact addL_zero (fun w hw => ha w (List.mem_cons_of_mem _ hw)) (fun w hw => hb w (List.mem_cons_of_mem _ hw)) x hx
theorem pairL_zero : ∀ {a b : List Int}, (∀ x ∈ a, x = 0) → (∀ x ∈ b, x = 0) → ∀ v ∈ pairL a b, v = (0, 0)
  | [], _, _, _, x, hx => by cases hx
  | _ :: _, [], _, _, x, hx => by cases hx
  | y :: a, z :: b, ha, hb, x, hx => by
    rcases List.mem_cons.1 hx with rfl | hx
    · have h1 := ha y (List.mem_cons_self ..)
      have h2 := hb z (List.mem_cons_self ..)
      rw [h1, h2]
    · exact pairL_zero (fun w hw => ha w (List.mem_cons_of_mem _ hw)) (fun w hw => hb w (List.mem_cons_of_mem _ hw)) x hx

/-- Without last thrusts and without a demand nothing is done. -/
theorem thA_zero {s : Shp} {ms : List Int} (h : AOk s ms []) : (∀ v ∈ thA (Ws s.ts ms) [] 0 0 0, v = (0, 0)) ∧ gvA s ms [] 0 0 0 = (0, 0, 0) := by
  obtain ⟨w1, w2, w3, w4, w5⟩ := wsa h
  have hd : Mod3 0 0 0 := by unfold Mod3; omega
  have hy := ysA_len h hd
  have o0 := OkL_lats w2 w3 0 []
  have o1 := OkL_lats w2 w3 1 []
  have o2 := OkL_lons w2 w3 (ys := ysA (Ws s.ts ms) [] 0 0) (by rw [hy.1, w1]) []
  have z0 := dv_zero o0 (lats_zero 0 w3)
  have z1 := dv_zero o1 (lats_zero 1 w3)
  have z2 := dv_zero o2 (lons_zero _ w3)
  have zy := addL_zero z1 z0
  refine ⟨pairL_zero z2 zy, ?_⟩
  rw [gvA_eq h hd, totC_zero (lats_zero 0 w3), totC_zero (lats_zero 1 w3), totC_zero (lons_zero _ w3)]

end Go.Proofs.Ytcnjaffogkkpnaa.Vm
