/- TopCommands: contracts of the nets: right, whole, Reach, Copies. -/
import Derived.Test.YtcgpckiieocdbaaNetC
namespace Go.Proofs.Ytcgpckiieocdbaa.Vm
set_option linter.unusedVariables false
set_option linter.unusedSimpArgs false

abbrev bxC (n : Int) (cs : List Cb) : Blk := Blk.box [AV.int .i64 n, AV.sl 3 (spanK cs)]
theorem c_right1 (x n : Int) (cs : List Cb) : ∃ b, denC E 47 [AV.int .i64 x, AV.t (.ptr 0 0)] [bxC n cs] = some ([RV.p (PV.bool b)], [bxC n cs]) := by
  rw [denC_eq, r47]
  cases ltB x 0 with
  | true => exact ⟨true, rfl⟩
  | false => exact ⟨_, rfl⟩
theorem idxn_loop {n : Int} {cs : List Cb} {l : List Int} (hl : l.length ≤ 1000) : ∀ (m i : Nat), i + m = l.length → ∃ c, lp E (denC E) 42 1 [AV.undef, AV.fn 47 [.ptr 0 0]] 0 { vals := [AV.sl 1 (intsK .i64 l), AV.int .i64 l.length, AV.int .i64 i], blks := [bxC n cs] } = some (Ex.ret, { vals := [AV.int .i64 c], blks := [bxC n cs] }) ∨
    lp E (denC E) 42 1 [AV.undef, AV.fn 47 [.ptr 0 0]] 0 { vals := [AV.sl 1 (intsK .i64 l), AV.int .i64 l.length, AV.int .i64 i], blks := [bxC n cs] } = some (Ex.exit 0, { vals := [], blks := [bxC n cs] }) := by
  intro m
  induction m with
  | zero =>
    intro i hi
    rw [r42_0n, ctl_dec, if_neg (by omega)]
    exact ⟨0, .inr rfl⟩
  | succ m ih =>
    intro i hi
    obtain ⟨b, hb⟩ := c_right1 (l.getD (i : Int).toNat 0) n cs
    rw [r42_0n, ctl_dec, if_pos (by omega), getE_ints (by omega)]
    simp only [bnd_some, ctl_true, ctl_false, ctl_and, ctl_or', ctl_or2, x_toPV, x_toCs, x_toCs2, x_toEs, x_bEs, x_bCs, x_aPV, x_aCs, x_int, x_bool, x_str, x_es, x_esn, nth_0, nth_1, nth_2, nth_3, nth_4, nth_5, nth_6, nth_7, nth_8, nth_9, y_nil, y_int, y_bool, y_str, y_sl, y_nils, y_agg, y_ownp, y_own, z_nil, z_int, z_bool, z_str, z_sl, z_nils, b_nil, b_arr, b_box1, b_box2, b_box3, b_box4, List.map_cons, List.map_nil, Bool.and_self, Bool.and_true, Bool.true_and, Bool.not_true, Bool.not_false, Bool.or_false, Bool.false_or, cond_true, cond_false, okPack, okPut, okPutBlks, okPutCells, q_isP, q_isAg, q_isBox, q_isArr, q_int, q_bool, q_str, q_sl, q_nils, e_exit, e_ret, e_nrm, e_ret_exit, e_exit_ret, e_nrm_exit, e_nrm_ret, e_exit_nrm, e_ret_nrm, Nat.zero_add, Nat.reduceAdd, noslR, noslP, noslB, noslA, List.all_cons, List.all_nil]
    rw [hb]
    simp only [bnd_some, ctl_true, ctl_false, ctl_and, ctl_or', ctl_or2, x_toPV, x_toCs, x_toCs2, x_toEs, x_bEs, x_bCs, x_aPV, x_aCs, x_int, x_bool, x_str, x_es, x_esn, nth_0, nth_1, nth_2, nth_3, nth_4, nth_5, nth_6, nth_7, nth_8, nth_9, y_nil, y_int, y_bool, y_str, y_sl, y_nils, y_agg, y_ownp, y_own, z_nil, z_int, z_bool, z_str, z_sl, z_nils, b_nil, b_arr, b_box1, b_box2, b_box3, b_box4, List.map_cons, List.map_nil, Bool.and_self, Bool.and_true, Bool.true_and, Bool.not_true, Bool.not_false, Bool.or_false, Bool.false_or, cond_true, cond_false, okPack, okPut, okPutBlks, okPutCells, q_isP, q_isAg, q_isBox, q_isArr, q_int, q_bool, q_str, q_sl, q_nils, e_exit, e_ret, e_nrm, e_ret_exit, e_exit_ret, e_nrm_exit, e_nrm_ret, e_exit_nrm, e_ret_nrm, Nat.zero_add, Nat.reduceAdd, noslR, noslP, noslB, noslA, List.all_cons, List.all_nil]
    cases b with
    | true => exact ⟨_, .inl rfl⟩
    | false =>
      obtain ⟨c, h⟩ := ih (i + 1) (by omega)
      refine ⟨c, ?_⟩
      rw [ctl_false, w64 (n := (i : Int) + 1) (by omega), succ_cast]
      exact h
theorem c_ContN {n : Int} {cs : List Cb} {l : List Int} (hl : l.length ≤ 1000) : ∃ b, denC E 38 [AV.sl 1 (intsK .i64 l), AV.fn 47 [.ptr 0 0]] [bxC n cs] = some ([RV.p (PV.bool b)], [bxC n cs]) := by
  obtain ⟨c, h⟩ := idxn_loop (n := n) (cs := cs) hl l.length 0 (by omega)
  rw [nc0] at h
  have : ∃ c, denC E 42 [AV.sl 1 (intsK .i64 l), AV.fn 47 [.ptr 0 0]] [bxC n cs] = some ([RV.p (PV.int .i64 c)], [bxC n cs]) := by
    rw [denC_eq, r42n, intsK_length]
    rcases h with h | h
    · refine ⟨c, ?_⟩; rw [h]; simp only [bnd_some, ctl_true, ctl_false, ctl_and, ctl_or', ctl_or2, x_toPV, x_toCs, x_toCs2, x_toEs, x_bEs, x_bCs, x_aPV, x_aCs, x_int, x_bool, x_str, x_es, x_esn, nth_0, nth_1, nth_2, nth_3, nth_4, nth_5, nth_6, nth_7, nth_8, nth_9, y_nil, y_int, y_bool, y_str, y_sl, y_nils, y_agg, y_ownp, y_own, z_nil, z_int, z_bool, z_str, z_sl, z_nils, b_nil, b_arr, b_box1, b_box2, b_box3, b_box4, List.map_cons, List.map_nil, Bool.and_self, Bool.and_true, Bool.true_and, Bool.not_true, Bool.not_false, Bool.or_false, Bool.false_or, cond_true, cond_false, okPack, okPut, okPutBlks, okPutCells, q_isP, q_isAg, q_isBox, q_isArr, q_int, q_bool, q_str, q_sl, q_nils, e_exit, e_ret, e_nrm, e_ret_exit, e_exit_ret, e_nrm_exit, e_nrm_ret, e_exit_nrm, e_ret_nrm, Nat.zero_add, Nat.reduceAdd, noslR, noslP, noslB, noslA, List.all_cons, List.all_nil]
    · refine ⟨-1, ?_⟩; rw [h]; simp only [bnd_some, ctl_true, ctl_false, ctl_and, ctl_or', ctl_or2, x_toPV, x_toCs, x_toCs2, x_toEs, x_bEs, x_bCs, x_aPV, x_aCs, x_int, x_bool, x_str, x_es, x_esn, nth_0, nth_1, nth_2, nth_3, nth_4, nth_5, nth_6, nth_7, nth_8, nth_9, y_nil, y_int, y_bool, y_str, y_sl, y_nils, y_agg, y_ownp, y_own, z_nil, z_int, z_bool, z_str, z_sl, z_nils, b_nil, b_arr, b_box1, b_box2, b_box3, b_box4, List.map_cons, List.map_nil, Bool.and_self, Bool.and_true, Bool.true_and, Bool.not_true, Bool.not_false, Bool.or_false, Bool.false_or, cond_true, cond_false, okPack, okPut, okPutBlks, okPutCells, q_isP, q_isAg, q_isBox, q_isArr, q_int, q_bool, q_str, q_sl, q_nils, e_exit, e_ret, e_nrm, e_ret_exit, e_exit_ret, e_nrm_exit, e_nrm_ret, e_exit_nrm, e_ret_nrm, Nat.zero_add, Nat.reduceAdd, noslR, noslP, noslB, noslA, List.all_cons, List.all_nil]
  obtain ⟨c, hc⟩ := this
  refine ⟨leB 0 c, ?_⟩
  rw [denC_eq, r38n, hc]
  simp only [bnd_some, ctl_true, ctl_false, ctl_and, ctl_or', ctl_or2, x_toPV, x_toCs, x_toCs2, x_toEs, x_bEs, x_bCs, x_aPV, x_aCs, x_int, x_bool, x_str, x_es, x_esn, nth_0, nth_1, nth_2, nth_3, nth_4, nth_5, nth_6, nth_7, nth_8, nth_9, y_nil, y_int, y_bool, y_str, y_sl, y_nils, y_agg, y_ownp, y_own, z_nil, z_int, z_bool, z_str, z_sl, z_nils, b_nil, b_arr, b_box1, b_box2, b_box3, b_box4, List.map_cons, List.map_nil, Bool.and_self, Bool.and_true, Bool.true_and, Bool.not_true, Bool.not_false, Bool.or_false, Bool.false_or, cond_true, cond_false, okPack, okPut, okPutBlks, okPutCells, q_isP, q_isAg, q_isBox, q_isArr, q_int, q_bool, q_str, q_sl, q_nils, e_exit, e_ret, e_nrm, e_ret_exit, e_exit_ret, e_nrm_exit, e_nrm_ret, e_exit_nrm, e_ret_nrm, Nat.zero_add, Nat.reduceAdd, noslR, noslP, noslB, noslA, List.all_cons, List.all_nil]
theorem c_right {n net : Int} {cs : List Cb} (hcs : cs.length ≤ 1000) {l : List Int} (hl : l.length ≤ 1000) : ∃ b, denC E 26 [netA n cs, AV.int .i64 net, AV.sl 1 (intsK .i64 l)] [] = some ([RV.p (PV.bool b)], []) := by
  obtain ⟨c, hc⟩ := c_NCheck (n := n) hcs
  obtain ⟨b, hb⟩ := c_ContN (n := n) (cs := cs) hl
  rw [denC_eq, r26, hc]
  simp only [bnd_some, ctl_true, ctl_false, ctl_and, ctl_or', ctl_or2, x_toPV, x_toCs, x_toCs2, x_toEs, x_bEs, x_bCs, x_aPV, x_aCs, x_int, x_bool, x_str, x_es, x_esn, nth_0, nth_1, nth_2, nth_3, nth_4, nth_5, nth_6, nth_7, nth_8, nth_9, y_nil, y_int, y_bool, y_str, y_sl, y_nils, y_agg, y_ownp, y_own, z_nil, z_int, z_bool, z_str, z_sl, z_nils, b_nil, b_arr, b_box1, b_box2, b_box3, b_box4, List.map_cons, List.map_nil, Bool.and_self, Bool.and_true, Bool.true_and, Bool.not_true, Bool.not_false, Bool.or_false, Bool.false_or, cond_true, cond_false, okPack, okPut, okPutBlks, okPutCells, q_isP, q_isAg, q_isBox, q_isArr, q_int, q_bool, q_str, q_sl, q_nils, e_exit, e_ret, e_nrm, e_ret_exit, e_exit_ret, e_nrm_exit, e_nrm_ret, e_exit_nrm, e_ret_nrm, Nat.zero_add, Nat.reduceAdd, noslR, noslP, noslB, noslA, List.all_cons, List.all_nil]
  rw [hb]
  simp only [bnd_some, ctl_true, ctl_false, ctl_and, ctl_or', ctl_or2, x_toPV, x_toCs, x_toCs2, x_toEs, x_bEs, x_bCs, x_aPV, x_aCs, x_int, x_bool, x_str, x_es, x_esn, nth_0, nth_1, nth_2, nth_3, nth_4, nth_5, nth_6, nth_7, nth_8, nth_9, y_nil, y_int, y_bool, y_str, y_sl, y_nils, y_agg, y_ownp, y_own, z_nil, z_int, z_bool, z_str, z_sl, z_nils, b_nil, b_arr, b_box1, b_box2, b_box3, b_box4, List.map_cons, List.map_nil, Bool.and_self, Bool.and_true, Bool.true_and, Bool.not_true, Bool.not_false, Bool.or_false, Bool.false_or, cond_true, cond_false, okPack, okPut, okPutBlks, okPutCells, q_isP, q_isAg, q_isBox, q_isArr, q_int, q_bool, q_str, q_sl, q_nils, e_exit, e_ret, e_nrm, e_ret_exit, e_exit_ret, e_nrm_exit, e_nrm_ret, e_exit_nrm, e_ret_nrm, Nat.zero_add, Nat.reduceAdd, noslR, noslP, noslB, noslA, List.all_cons, List.all_nil]
  generalize (c == 0) = t1
  cases t1 with
  | false => exact ⟨false, rfl⟩
  | true =>
    generalize (leB 0 net) = t2
    cases t2 with
    | false => exact ⟨false, rfl⟩
    | true =>
      generalize (ltB net 2) = t3
      cases t3 with
      | false => exact ⟨false, rfl⟩
      | true => exact ⟨_, rfl⟩

theorem idxp_loop {x y : Int} {ps : List Int} (hl : ps.length ≤ 1000) : ∀ (m i : Nat), i + m = ps.length → ∃ c, lp E (denC E) 53 0 [] 0 { vals := [AV.sl 2 (prts ps), AV.int .i64 ps.length, AV.int .i64 i], blks := [Blk.box [AV.int .i64 x, AV.int .i64 y]] } = some (Ex.ret, { vals := [AV.int .i64 c], blks := [] }) ∨
    lp E (denC E) 53 0 [] 0 { vals := [AV.sl 2 (prts ps), AV.int .i64 ps.length, AV.int .i64 i], blks := [Blk.box [AV.int .i64 x, AV.int .i64 y]] } = some (Ex.exit 0, { vals := [], blks := [] }) := by
  intro m
  induction m with
  | zero =>
    intro i hi
    rw [r53_0, ctl_dec, if_neg (by omega)]
    exact ⟨0, .inr rfl⟩
  | succ m ih =>
    intro i hi
    rw [r53_0, ctl_dec, if_pos (by omega), getE_map (fun k : Int => [PV.int .i64 8, PV.int .i64 k]) 0 (by omega)]
    simp only [bnd_some, ctl_true, ctl_false, ctl_and, ctl_or', ctl_or2, x_toPV, x_toCs, x_toCs2, x_toEs, x_bEs, x_bCs, x_aPV, x_aCs, x_int, x_bool, x_str, x_es, x_esn, nth_0, nth_1, nth_2, nth_3, nth_4, nth_5, nth_6, nth_7, nth_8, nth_9, y_nil, y_int, y_bool, y_str, y_sl, y_nils, y_agg, y_ownp, y_own, z_nil, z_int, z_bool, z_str, z_sl, z_nils, b_nil, b_arr, b_box1, b_box2, b_box3, b_box4, List.map_cons, List.map_nil, Bool.and_self, Bool.and_true, Bool.true_and, Bool.not_true, Bool.not_false, Bool.or_false, Bool.false_or, cond_true, cond_false, okPack, okPut, okPutBlks, okPutCells, q_isP, q_isAg, q_isBox, q_isArr, q_int, q_bool, q_str, q_sl, q_nils, e_exit, e_ret, e_nrm, e_ret_exit, e_exit_ret, e_nrm_exit, e_nrm_ret, e_exit_nrm, e_ret_nrm, Nat.zero_add, Nat.reduceAdd, noslR, noslP, noslB, noslA, List.all_cons, List.all_nil]
    generalize (x == 8 && y == ps.getD i 0) = t
    cases t with
    | true => exact ⟨_, .inl rfl⟩
    | false =>
      obtain ⟨c, h⟩ := ih (i + 1) (by omega)
      refine ⟨c, ?_⟩
      rw [ctl_false, w64 (n := (i : Int) + 1) (by omega), succ_cast]
      exact h
theorem c_ContP {x y : Int} {ps : List Int} (hl : ps.length ≤ 1000) : ∃ b, denC E 48 [AV.sl 2 (prts ps), AV.agg [PV.int .i64 x, PV.int .i64 y]] [] = some ([RV.p (PV.bool b)], []) := by
  obtain ⟨c, h⟩ := idxp_loop (x := x) (y := y) hl ps.length 0 (by omega)
  rw [nc0] at h
  have : ∃ c, denC E 53 [AV.sl 2 (prts ps), AV.agg [PV.int .i64 x, PV.int .i64 y]] [] = some ([RV.p (PV.int .i64 c)], []) := by
    rw [denC_eq, r53, List.length_map]
    rcases h with h | h
    · refine ⟨c, ?_⟩; rw [h]; simp only [bnd_some, ctl_true, ctl_false, ctl_and, ctl_or', ctl_or2, x_toPV, x_toCs, x_toCs2, x_toEs, x_bEs, x_bCs, x_aPV, x_aCs, x_int, x_bool, x_str, x_es, x_esn, nth_0, nth_1, nth_2, nth_3, nth_4, nth_5, nth_6, nth_7, nth_8, nth_9, y_nil, y_int, y_bool, y_str, y_sl, y_nils, y_agg, y_ownp, y_own, z_nil, z_int, z_bool, z_str, z_sl, z_nils, b_nil, b_arr, b_box1, b_box2, b_box3, b_box4, List.map_cons, List.map_nil, Bool.and_self, Bool.and_true, Bool.true_and, Bool.not_true, Bool.not_false, Bool.or_false, Bool.false_or, cond_true, cond_false, okPack, okPut, okPutBlks, okPutCells, q_isP, q_isAg, q_isBox, q_isArr, q_int, q_bool, q_str, q_sl, q_nils, e_exit, e_ret, e_nrm, e_ret_exit, e_exit_ret, e_nrm_exit, e_nrm_ret, e_exit_nrm, e_ret_nrm, Nat.zero_add, Nat.reduceAdd, noslR, noslP, noslB, noslA, List.all_cons, List.all_nil]
    · refine ⟨-1, ?_⟩; rw [h]; simp only [bnd_some, ctl_true, ctl_false, ctl_and, ctl_or', ctl_or2, x_toPV, x_toCs, x_toCs2, x_toEs, x_bEs, x_bCs, x_aPV, x_aCs, x_int, x_bool, x_str, x_es, x_esn, nth_0, nth_1, nth_2, nth_3, nth_4, nth_5, nth_6, nth_7, nth_8, nth_9, y_nil, y_int, y_bool, y_str, y_sl, y_nils, y_agg, y_ownp, y_own, z_nil, z_int, z_bool, z_str, z_sl, z_nils, b_nil, b_arr, b_box1, b_box2, b_box3, b_box4, List.map_cons, List.map_nil, Bool.and_self, Bool.and_true, Bool.true_and, Bool.not_true, Bool.not_false, Bool.or_false, Bool.false_or, cond_true, cond_false, okPack, okPut, okPutBlks, okPutCells, q_isP, q_isAg, q_isBox, q_isArr, q_int, q_bool, q_str, q_sl, q_nils, e_exit, e_ret, e_nrm, e_ret_exit, e_exit_ret, e_nrm_exit, e_nrm_ret, e_exit_nrm, e_ret_nrm, Nat.zero_add, Nat.reduceAdd, noslR, noslP, noslB, noslA, List.all_cons, List.all_nil]
  obtain ⟨c, hc⟩ := this
  refine ⟨leB 0 c, ?_⟩
  rw [denC_eq, r48, hc]
  simp only [bnd_some, ctl_true, ctl_false, ctl_and, ctl_or', ctl_or2, x_toPV, x_toCs, x_toCs2, x_toEs, x_bEs, x_bCs, x_aPV, x_aCs, x_int, x_bool, x_str, x_es, x_esn, nth_0, nth_1, nth_2, nth_3, nth_4, nth_5, nth_6, nth_7, nth_8, nth_9, y_nil, y_int, y_bool, y_str, y_sl, y_nils, y_agg, y_ownp, y_own, z_nil, z_int, z_bool, z_str, z_sl, z_nils, b_nil, b_arr, b_box1, b_box2, b_box3, b_box4, List.map_cons, List.map_nil, Bool.and_self, Bool.and_true, Bool.true_and, Bool.not_true, Bool.not_false, Bool.or_false, Bool.false_or, cond_true, cond_false, okPack, okPut, okPutBlks, okPutCells, q_isP, q_isAg, q_isBox, q_isArr, q_int, q_bool, q_str, q_sl, q_nils, e_exit, e_ret, e_nrm, e_ret_exit, e_exit_ret, e_nrm_exit, e_nrm_ret, e_exit_nrm, e_ret_nrm, Nat.zero_add, Nat.reduceAdd, noslR, noslP, noslB, noslA, List.all_cons, List.all_nil]

theorem whole_loop {n net : Int} {ps : List Int} (hp : ps.length ≤ 1000) {l : List Cb} (hl : l.length ≤ 1000) (hok : ∀ x ∈ l, okCb n x) : ∀ (m i : Nat) (out : List Cb), i + m = l.length → out.length ≤ i → (∀ x ∈ out, okCb n x) →
    ∃ o : List Cb, o.length ≤ l.length ∧ (∀ x ∈ o, okCb n x) ∧ lp E (denC E) 27 0 [] 0 { vals := [AV.sl 2 (prts ps), AV.int .i64 net, AV.sl 3 (spanK l), AV.int .i64 l.length, AV.int .i64 i], blks := [Blk.arr 3 (spanK out)] } = some (Ex.exit 0, { vals := [], blks := [Blk.arr 3 (spanK o)] }) := by
  intro m
  induction m with
  | zero =>
    intro i out hi ho hx
    rw [r27_0, ctl_dec, if_neg (by omega)]
    exact ⟨out, by omega, hx, rfl⟩
  | succ m ih =>
    intro i out hi ho hx
    have hil : i < l.length := by omega
    have e3 : leN (((spanK out).length + 1) * 24) 140737488355328 = true := by rw [spanK_len]; simp only [decide_eq_true_eq]; omega
    have hxi : okCb n (l.getD i (0, 0, 0)) := hok _ (by simp [List.getD, hil])
    obtain ⟨o1, g1, g2, g3⟩ := ih (i + 1) (out ++ [l.getD i (0, 0, 0)]) (by omega) (by simp; omega) (fun x h => by
      rcases List.mem_append.1 h with h | h
      · exact hx x h
      · rw [List.mem_singleton] at h; rw [h]; exact hxi)
    obtain ⟨o2, f1, f2, f3⟩ := ih (i + 1) out (by omega) (by omega) hx
    obtain ⟨b, hb⟩ := c_ContP (x := 8) (y := (i : Int)) hp
    rw [r27_0, ctl_dec, if_pos (by omega), getE_spanK hil]
    simp only [bnd_some, ctl_true, ctl_false, ctl_and, ctl_or', ctl_or2, x_toPV, x_toCs, x_toCs2, x_toEs, x_bEs, x_bCs, x_aPV, x_aCs, x_int, x_bool, x_str, x_es, x_esn, nth_0, nth_1, nth_2, nth_3, nth_4, nth_5, nth_6, nth_7, nth_8, nth_9, y_nil, y_int, y_bool, y_str, y_sl, y_nils, y_agg, y_ownp, y_own, z_nil, z_int, z_bool, z_str, z_sl, z_nils, b_nil, b_arr, b_box1, b_box2, b_box3, b_box4, List.map_cons, List.map_nil, Bool.and_self, Bool.and_true, Bool.true_and, Bool.not_true, Bool.not_false, Bool.or_false, Bool.false_or, cond_true, cond_false, okPack, okPut, okPutBlks, okPutCells, q_isP, q_isAg, q_isBox, q_isArr, q_int, q_bool, q_str, q_sl, q_nils, e_exit, e_ret, e_nrm, e_ret_exit, e_exit_ret, e_nrm_exit, e_nrm_ret, e_exit_nrm, e_ret_nrm, Nat.zero_add, Nat.reduceAdd, noslR, noslP, noslB, noslA, List.all_cons, List.all_nil]
    rw [hb]
    simp only [bnd_some, ctl_true, ctl_false, ctl_and, ctl_or', ctl_or2, x_toPV, x_toCs, x_toCs2, x_toEs, x_bEs, x_bCs, x_aPV, x_aCs, x_int, x_bool, x_str, x_es, x_esn, nth_0, nth_1, nth_2, nth_3, nth_4, nth_5, nth_6, nth_7, nth_8, nth_9, y_nil, y_int, y_bool, y_str, y_sl, y_nils, y_agg, y_ownp, y_own, z_nil, z_int, z_bool, z_str, z_sl, z_nils, b_nil, b_arr, b_box1, b_box2, b_box3, b_box4, List.map_cons, List.map_nil, Bool.and_self, Bool.and_true, Bool.true_and, Bool.not_true, Bool.not_false, Bool.or_false, Bool.false_or, cond_true, cond_false, okPack, okPut, okPutBlks, okPutCells, q_isP, q_isAg, q_isBox, q_isArr, q_int, q_bool, q_str, q_sl, q_nils, e_exit, e_ret, e_nrm, e_ret_exit, e_exit_ret, e_nrm_exit, e_nrm_ret, e_exit_nrm, e_ret_nrm, Nat.zero_add, Nat.reduceAdd, noslR, noslP, noslB, noslA, List.all_cons, List.all_nil]
    rw [e3, spanK_app, w64 (n := (i : Int) + 1) (by omega), succ_cast]
    generalize ((l.getD i (0, 0, 0)).1 == net) = t
    cases t with
    | false => exact ⟨o2, f1, f2, f3⟩
    | true => cases b with
      | true => exact ⟨o2, f1, f2, f3⟩
      | false => exact ⟨o1, g1, g2, g3⟩
theorem c_whole {n net : Int} {ps : List Int} (hp : ps.length ≤ 1000) {l : List Cb} (hl : l.length ≤ 1000) (hok : ∀ x ∈ l, okCb n x) : ∃ o : List Cb, o.length ≤ l.length ∧ (∀ x ∈ o, okCb n x) ∧
    denC E 27 [netA n l, AV.sl 2 (prts ps), AV.int .i64 net] [] = some ([RV.p (PV.sl 3 (spanK o))], []) := by
  obtain ⟨o, h1, h2, h⟩ := whole_loop (net := net) hp hl hok l.length 0 [] (by omega) (by simp) (fun x h => by cases h)
  refine ⟨o, h1, h2, ?_⟩
  have e0 : spanK [] = [] := rfl
  rw [nc0, e0] at h
  rw [denC_eq, r27, spanK_len, h]
  simp only [bnd_some, ctl_true, ctl_false, ctl_and, ctl_or', ctl_or2, x_toPV, x_toCs, x_toCs2, x_toEs, x_bEs, x_bCs, x_aPV, x_aCs, x_int, x_bool, x_str, x_es, x_esn, nth_0, nth_1, nth_2, nth_3, nth_4, nth_5, nth_6, nth_7, nth_8, nth_9, y_nil, y_int, y_bool, y_str, y_sl, y_nils, y_agg, y_ownp, y_own, z_nil, z_int, z_bool, z_str, z_sl, z_nils, b_nil, b_arr, b_box1, b_box2, b_box3, b_box4, List.map_cons, List.map_nil, Bool.and_self, Bool.and_true, Bool.true_and, Bool.not_true, Bool.not_false, Bool.or_false, Bool.false_or, cond_true, cond_false, okPack, okPut, okPutBlks, okPutCells, q_isP, q_isAg, q_isBox, q_isArr, q_int, q_bool, q_str, q_sl, q_nils, e_exit, e_ret, e_nrm, e_ret_exit, e_exit_ret, e_nrm_exit, e_nrm_ret, e_exit_nrm, e_ret_nrm, Nat.zero_add, Nat.reduceAdd, noslR, noslP, noslB, noslA, List.all_cons, List.all_nil, iT_3]

theorem c_NReach {n net a b : Int} (hn : n ≤ 1000) (ha : 0 ≤ a ∧ a < n) (hb : 0 ≤ b ∧ b < n) {ps : List Int} (hp : ps.length ≤ 1000) {l : List Cb} (hl : l.length ≤ 1000) (hok : ∀ x ∈ l, okCb n x) : ∃ v,
    denC E 17 [netA n l, AV.sl 2 (prts ps), AV.int .i64 net, AV.int .i64 a, AV.int .i64 b] [] = some ([RV.p (PV.bool v)], []) := by
  obtain ⟨v, hv⟩ := c_right (n := n) (net := net) hl (l := [a, b]) (by simp)
  obtain ⟨o, h1, h2, h3⟩ := c_whole (net := net) hp hl hok
  rw [denC_eq]
  have : funK E (denC E) 17 [netA n l, AV.sl 2 (prts ps), AV.int .i64 net, AV.int .i64 a, AV.int .i64 b] [] = match (reachT 26 27 [netA n l, AV.sl 2 (prts ps), AV.int .i64 net, AV.int .i64 a, AV.int .i64 b]).run (denC E) with | some rs => some (rs, []) | none => none := by kernel_rfl
  rw [this]
  have key : ∃ v, (reachT 26 27 [netA n l, AV.sl 2 (prts ps), AV.int .i64 net, AV.int .i64 a, AV.int .i64 b]).run (denC E) = some [RV.p (PV.bool v)] := by
    have e0 : ([[PV.int IntKind.i64 a], [PV.int IntKind.i64 b]] : List (List PV)) = intsK .i64 [a, b] := rfl
    simp only [reachT, Ask.bool, Ask.run]
    rw [e0, hv]
    cases v with
    | false => exact ⟨false, rfl⟩
    | true =>
      simp only [cond_true, Ask.sl, Ask.run]
      rw [h3]
      have hk : okReach n a b o = true := by
        unfold okReach inN
        simp only [Bool.and_eq_true, decide_eq_true_eq, List.all_eq_true]
        exact ⟨⟨ha, hb⟩, hn, Nat.ble_eq_true_of_le (by omega), fun x hx => h2 x hx⟩
      simp only [show Nat.beq 3 3 = true from rfl, cond_true, spansE_K', hk, Ask.run]
      exact ⟨_, rfl⟩
  obtain ⟨v, hv⟩ := key
  exact ⟨v, by rw [hv]⟩

theorem copies_loop {n a b : Int} (hn : n ≤ 1000) (ha : 0 ≤ a ∧ a < n) (hb : 0 ≤ b ∧ b < n) {ps : List Int} (hp : ps.length ≤ 1000) {l : List Cb} (hl : l.length ≤ 1000) (hok : ∀ x ∈ l, okCb n x) : ∀ (m i : Nat) (out : Int), i + m = 2 →
    ∃ c, lp E (denC E) 10 0 [] 0 { vals := [AV.sl 2 (prts ps), AV.int .i64 a, AV.int .i64 b, AV.int .i64 out, AV.int .i64 i], blks := [bxC n l] } = some (Ex.exit 0, { vals := [AV.int .i64 c], blks := [] }) := by
  intro m
  induction m with
  | zero =>
    intro i out hi
    rw [r10_0, ctl_dec, if_neg (by omega)]
    exact ⟨out, rfl⟩
  | succ m ih =>
    intro i out hi
    obtain ⟨v, hv⟩ := c_NReach (net := (i : Int)) hn ha hb hp hl hok
    rw [r10_0, ctl_dec, if_pos (by omega), hv]
    simp only [bnd_some, ctl_true, ctl_false, ctl_and, ctl_or', ctl_or2, x_toPV, x_toCs, x_toCs2, x_toEs, x_bEs, x_bCs, x_aPV, x_aCs, x_int, x_bool, x_str, x_es, x_esn, nth_0, nth_1, nth_2, nth_3, nth_4, nth_5, nth_6, nth_7, nth_8, nth_9, y_nil, y_int, y_bool, y_str, y_sl, y_nils, y_agg, y_ownp, y_own, z_nil, z_int, z_bool, z_str, z_sl, z_nils, b_nil, b_arr, b_box1, b_box2, b_box3, b_box4, List.map_cons, List.map_nil, Bool.and_self, Bool.and_true, Bool.true_and, Bool.not_true, Bool.not_false, Bool.or_false, Bool.false_or, cond_true, cond_false, okPack, okPut, okPutBlks, okPutCells, q_isP, q_isAg, q_isBox, q_isArr, q_int, q_bool, q_str, q_sl, q_nils, e_exit, e_ret, e_nrm, e_ret_exit, e_exit_ret, e_nrm_exit, e_nrm_ret, e_exit_nrm, e_ret_nrm, Nat.zero_add, Nat.reduceAdd, noslR, noslP, noslB, noslA, List.all_cons, List.all_nil]
    rw [w64 (n := (i : Int) + 1) (by omega), succ_cast]
    cases v with
    | true => exact ih (i + 1) _ (by omega)
    | false => exact ih (i + 1) _ (by omega)
theorem c_Copies {n a b : Int} (hn : n ≤ 1000) (ha : 0 ≤ a ∧ a < n) (hb : 0 ≤ b ∧ b < n) {ps : List Int} (hp : ps.length ≤ 1000) {l : List Cb} (hl : l.length ≤ 1000) (hok : ∀ x ∈ l, okCb n x) : ∃ c,
    denC E 10 [netA n l, AV.sl 2 (prts ps), AV.int .i64 a, AV.int .i64 b] [] = some ([RV.p (PV.int .i64 c)], []) := by
  obtain ⟨c, h⟩ := copies_loop hn ha hb hp hl hok 2 0 0 rfl
  refine ⟨c, ?_⟩
  rw [nc0] at h
  rw [denC_eq, r10, h]
  simp only [bnd_some, ctl_true, ctl_false, ctl_and, ctl_or', ctl_or2, x_toPV, x_toCs, x_toCs2, x_toEs, x_bEs, x_bCs, x_aPV, x_aCs, x_int, x_bool, x_str, x_es, x_esn, nth_0, nth_1, nth_2, nth_3, nth_4, nth_5, nth_6, nth_7, nth_8, nth_9, y_nil, y_int, y_bool, y_str, y_sl, y_nils, y_agg, y_ownp, y_own, z_nil, z_int, z_bool, z_str, z_sl, z_nils, b_nil, b_arr, b_box1, b_box2, b_box3, b_box4, List.map_cons, List.map_nil, Bool.and_self, Bool.and_true, Bool.true_and, Bool.not_true, Bool.not_false, Bool.or_false, Bool.false_or, cond_true, cond_false, okPack, okPut, okPutBlks, okPutCells, q_isP, q_isAg, q_isBox, q_isArr, q_int, q_bool, q_str, q_sl, q_nils, e_exit, e_ret, e_nrm, e_ret_exit, e_exit_ret, e_nrm_exit, e_nrm_ret, e_exit_nrm, e_ret_nrm, Nat.zero_add, Nat.reduceAdd, noslR, noslP, noslB, noslA, List.all_cons, List.all_nil]

end Go.Proofs.Ytcgpckiieocdbaa.Vm
