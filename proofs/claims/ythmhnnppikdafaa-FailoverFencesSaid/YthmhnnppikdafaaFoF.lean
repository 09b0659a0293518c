/- Chapter 33: contracts: candidates and votes. -/
import Derived.Test.YthmhnnppikdafaaFoE
namespace Go.Proofs.Ythmhnnppikdafaa.Vm
set_option linter.unusedVariables false
set_option linter.unusedSimpArgs false

structure Bd (l : List Ct) : Prop where
  ep0 : ∀ i, i < l.length → 0 ≤ (gt l i).ep
  ep : ∀ i, i < l.length → (gt l i).ep ≤ 2147483648
  hd0 : ∀ i, i < l.length → 0 ≤ (gt l i).hd
  hd : ∀ i, i < l.length → (gt l i).hd ≤ 2147483648

theorem idx_loop {v : Nat} : ∀ (xs pre : List Nat), pre.length + xs.length ≤ 1000 →
    lp E (denC E) 63 0 [] 0 { vals := [AV.sl 1 (ns (pre ++ xs)), AV.int .i64 (v : Int), AV.int .i64 (pre ++ xs).length, AV.int .i64 pre.length], blks := [] } =
      some (if xs.any (fun y => v == y) = true then (Ex.ret, { vals := [AV.int .i64 (fidx (fun y => v == y) xs pre.length)], blks := [] }) else (Ex.exit 0, { vals := [], blks := [] })) := by
  intro xs
  induction xs with
  | nil =>
    intro pre hp
    rw [r63_0, ctl_dec, if_neg (by simp)]
    rfl
  | cons x xs ih =>
    intro pre hp
    have hg : (pre ++ x :: xs).getD pre.length 0 = x := by simp [List.getD]
    simp only [List.length_cons] at hp
    rw [r63_0, ctl_dec, if_pos (by simp; omega), getE_ns (by simp), hg]
    simp only [bnd_some, ctl_true, ctl_false, ctl_and, ctl_or', ctl_or2, x_toPV, x_toCs, x_toCs2, x_toEs, x_bEs, x_bCs, x_aPV, x_aCs, x_int, x_bool, x_str, x_es, x_esn, nth_0, nth_1, nth_2, nth_3, nth_4, nth_5, nth_6, nth_7, nth_8, nth_9, y_nil, y_int, y_bool, y_str, y_sl, y_nils, y_agg, y_ownp, y_own, z_nil, z_int, z_bool, z_str, z_sl, z_nils, b_nil, b_arr, b_box1, b_box2, b_box3, b_box4, List.map_cons, List.map_nil, Bool.and_self, Bool.and_true, Bool.true_and, Bool.not_true, Bool.not_false, Bool.or_false, Bool.false_or, cond_true, cond_false, okPack, okPut, okPutBlks, okPutCells, q_isP, q_isAg, q_isBox, q_isArr, q_int, q_bool, q_str, q_sl, q_nils, e_exit, e_ret, e_nrm, e_ret_exit, e_exit_ret, e_nrm_exit, e_nrm_ret, e_exit_nrm, e_ret_nrm, Nat.zero_add, Nat.reduceAdd, noslR, noslP, noslB, noslA, List.all_cons, List.all_nil]
    rw [w64 (n := (pre.length : Int) + 1) (by omega)]
    have ev : ((v : Int) == (x : Int)) = (v == x) := by
      rw [Bool.eq_iff_iff]; simp; omega
    rw [ev, List.any_cons]
    unfold fidx
    cases hb : (v == x) with
    | true => rfl
    | false =>
      have e1 : (pre.length : Int) + 1 = ((pre ++ [x]).length : Int) := by simp
      have e2 : pre ++ x :: xs = (pre ++ [x]) ++ xs := by simp
      rw [ctl_false, e1, e2, ih (pre ++ [x]) (by simp; omega)]
      simp

theorem c_contains (xs : List Nat) (hn : xs.length ≤ 1000) (v : Nat) : denC E 52 [AV.sl 1 (ns xs), AV.int .i64 (v : Int)] [] = some ([RV.p (PV.bool (xs.contains v))], []) := by
  have h := idx_loop (v := v) xs [] (by simpa using hn)
  rw [List.nil_append, List.length_nil, nc0] at h
  have h2 : denC E 63 [AV.sl 1 (ns xs), AV.int .i64 (v : Int)] [] = some ([RV.p (PV.int .i64 (fidx (fun y => v == y) xs 0))], []) := by
    rw [denC_eq, r63, ns_length, h]
    by_cases ha : xs.any (fun y => v == y) = true
    · rw [if_pos ha]
      simp only [bnd_some, ctl_true, ctl_false, ctl_and, ctl_or', ctl_or2, x_toPV, x_toCs, x_toCs2, x_toEs, x_bEs, x_bCs, x_aPV, x_aCs, x_int, x_bool, x_str, x_es, x_esn, nth_0, nth_1, nth_2, nth_3, nth_4, nth_5, nth_6, nth_7, nth_8, nth_9, y_nil, y_int, y_bool, y_str, y_sl, y_nils, y_agg, y_ownp, y_own, z_nil, z_int, z_bool, z_str, z_sl, z_nils, b_nil, b_arr, b_box1, b_box2, b_box3, b_box4, List.map_cons, List.map_nil, Bool.and_self, Bool.and_true, Bool.true_and, Bool.not_true, Bool.not_false, Bool.or_false, Bool.false_or, cond_true, cond_false, okPack, okPut, okPutBlks, okPutCells, q_isP, q_isAg, q_isBox, q_isArr, q_int, q_bool, q_str, q_sl, q_nils, e_exit, e_ret, e_nrm, e_ret_exit, e_exit_ret, e_nrm_exit, e_nrm_ret, e_exit_nrm, e_ret_nrm, Nat.zero_add, Nat.reduceAdd, noslR, noslP, noslB, noslA, List.all_cons, List.all_nil]
    · rw [if_neg ha, fidx_none _ _ _ ha]
      simp only [bnd_some, ctl_true, ctl_false, ctl_and, ctl_or', ctl_or2, x_toPV, x_toCs, x_toCs2, x_toEs, x_bEs, x_bCs, x_aPV, x_aCs, x_int, x_bool, x_str, x_es, x_esn, nth_0, nth_1, nth_2, nth_3, nth_4, nth_5, nth_6, nth_7, nth_8, nth_9, y_nil, y_int, y_bool, y_str, y_sl, y_nils, y_agg, y_ownp, y_own, z_nil, z_int, z_bool, z_str, z_sl, z_nils, b_nil, b_arr, b_box1, b_box2, b_box3, b_box4, List.map_cons, List.map_nil, Bool.and_self, Bool.and_true, Bool.true_and, Bool.not_true, Bool.not_false, Bool.or_false, Bool.false_or, cond_true, cond_false, okPack, okPut, okPutBlks, okPutCells, q_isP, q_isAg, q_isBox, q_isArr, q_int, q_bool, q_str, q_sl, q_nils, e_exit, e_ret, e_nrm, e_ret_exit, e_exit_ret, e_nrm_exit, e_nrm_ret, e_exit_nrm, e_ret_nrm, Nat.zero_add, Nat.reduceAdd, noslR, noslP, noslB, noslA, List.all_cons, List.all_nil]
  rw [denC_eq, r52, h2]
  simp only [bnd_some, ctl_true, ctl_false, ctl_and, ctl_or', ctl_or2, x_toPV, x_toCs, x_toCs2, x_toEs, x_bEs, x_bCs, x_aPV, x_aCs, x_int, x_bool, x_str, x_es, x_esn, nth_0, nth_1, nth_2, nth_3, nth_4, nth_5, nth_6, nth_7, nth_8, nth_9, y_nil, y_int, y_bool, y_str, y_sl, y_nils, y_agg, y_ownp, y_own, z_nil, z_int, z_bool, z_str, z_sl, z_nils, b_nil, b_arr, b_box1, b_box2, b_box3, b_box4, List.map_cons, List.map_nil, Bool.and_self, Bool.and_true, Bool.true_and, Bool.not_true, Bool.not_false, Bool.or_false, Bool.false_or, cond_true, cond_false, okPack, okPut, okPutBlks, okPutCells, q_isP, q_isAg, q_isBox, q_isArr, q_int, q_bool, q_str, q_sl, q_nils, e_exit, e_ret, e_nrm, e_ret_exit, e_exit_ret, e_nrm_exit, e_nrm_ret, e_exit_nrm, e_ret_nrm, Nat.zero_add, Nat.reduceAdd, noslR, noslP, noslB, noslA, List.all_cons, List.all_nil]
  rw [fidx_any, List.contains_eq_any_beq]

abbrev hasB (hs : List Nat) (c : Nat) : Bool := hs.contains c
theorem vote_loop {hs : List Nat} (hh : hs.length ≤ 1000) : ∀ (xs pre : List Nat), pre.length + xs.length ≤ 1000 →
    lp E (denC E) 50 1 [AV.undef, AV.fn 51 [.ptr 0 0]] 0 { vals := [AV.sl 1 (ns (pre ++ xs)), AV.int .i64 (pre ++ xs).length, AV.int .i64 pre.length], blks := [Blk.box [AV.sl 1 (ns hs)]] } =
      some (if xs.any (hasB hs) = true then (Ex.ret, { vals := [AV.int .i64 (fidx (hasB hs) xs pre.length)], blks := [Blk.box [AV.sl 1 (ns hs)]] }) else (Ex.exit 0, { vals := [], blks := [Blk.box [AV.sl 1 (ns hs)]] })) := by
  intro xs
  induction xs with
  | nil =>
    intro pre hp
    rw [r50_0e, ctl_dec, if_neg (by simp)]
    rfl
  | cons x xs ih =>
    intro pre hp
    have hg : (pre ++ x :: xs).getD pre.length 0 = x := by simp [List.getD]
    have hc : denC E 51 [AV.int .i64 (x : Int), AV.t (.ptr 0 0)] [Blk.box [AV.sl 1 (ns hs)]] = some ([RV.p (PV.bool (hasB hs x))], [Blk.box [AV.sl 1 (ns hs)]]) := by
      rw [denC_eq, r51, c_contains _ hh]
      simp only [bnd_some, ctl_true, ctl_false, ctl_and, ctl_or', ctl_or2, x_toPV, x_toCs, x_toCs2, x_toEs, x_bEs, x_bCs, x_aPV, x_aCs, x_int, x_bool, x_str, x_es, x_esn, nth_0, nth_1, nth_2, nth_3, nth_4, nth_5, nth_6, nth_7, nth_8, nth_9, y_nil, y_int, y_bool, y_str, y_sl, y_nils, y_agg, y_ownp, y_own, z_nil, z_int, z_bool, z_str, z_sl, z_nils, b_nil, b_arr, b_box1, b_box2, b_box3, b_box4, List.map_cons, List.map_nil, Bool.and_self, Bool.and_true, Bool.true_and, Bool.not_true, Bool.not_false, Bool.or_false, Bool.false_or, cond_true, cond_false, okPack, okPut, okPutBlks, okPutCells, q_isP, q_isAg, q_isBox, q_isArr, q_int, q_bool, q_str, q_sl, q_nils, e_exit, e_ret, e_nrm, e_ret_exit, e_exit_ret, e_nrm_exit, e_nrm_ret, e_exit_nrm, e_ret_nrm, Nat.zero_add, Nat.reduceAdd, noslR, noslP, noslB, noslA, List.all_cons, List.all_nil]
    simp only [List.length_cons] at hp
    rw [r50_0e, ctl_dec, if_pos (by simp; omega), getE_ns (by simp), hg]
    simp only [bnd_some, ctl_true, ctl_false, ctl_and, ctl_or', ctl_or2, x_toPV, x_toCs, x_toCs2, x_toEs, x_bEs, x_bCs, x_aPV, x_aCs, x_int, x_bool, x_str, x_es, x_esn, nth_0, nth_1, nth_2, nth_3, nth_4, nth_5, nth_6, nth_7, nth_8, nth_9, y_nil, y_int, y_bool, y_str, y_sl, y_nils, y_agg, y_ownp, y_own, z_nil, z_int, z_bool, z_str, z_sl, z_nils, b_nil, b_arr, b_box1, b_box2, b_box3, b_box4, List.map_cons, List.map_nil, Bool.and_self, Bool.and_true, Bool.true_and, Bool.not_true, Bool.not_false, Bool.or_false, Bool.false_or, cond_true, cond_false, okPack, okPut, okPutBlks, okPutCells, q_isP, q_isAg, q_isBox, q_isArr, q_int, q_bool, q_str, q_sl, q_nils, e_exit, e_ret, e_nrm, e_ret_exit, e_exit_ret, e_nrm_exit, e_nrm_ret, e_exit_nrm, e_ret_nrm, Nat.zero_add, Nat.reduceAdd, noslR, noslP, noslB, noslA, List.all_cons, List.all_nil]
    rw [hc, w64 (n := (pre.length : Int) + 1) (by omega)]
    simp only [bnd_some, ctl_true, ctl_false, ctl_and, ctl_or', ctl_or2, x_toPV, x_toCs, x_toCs2, x_toEs, x_bEs, x_bCs, x_aPV, x_aCs, x_int, x_bool, x_str, x_es, x_esn, nth_0, nth_1, nth_2, nth_3, nth_4, nth_5, nth_6, nth_7, nth_8, nth_9, y_nil, y_int, y_bool, y_str, y_sl, y_nils, y_agg, y_ownp, y_own, z_nil, z_int, z_bool, z_str, z_sl, z_nils, b_nil, b_arr, b_box1, b_box2, b_box3, b_box4, List.map_cons, List.map_nil, Bool.and_self, Bool.and_true, Bool.true_and, Bool.not_true, Bool.not_false, Bool.or_false, Bool.false_or, cond_true, cond_false, okPack, okPut, okPutBlks, okPutCells, q_isP, q_isAg, q_isBox, q_isArr, q_int, q_bool, q_str, q_sl, q_nils, e_exit, e_ret, e_nrm, e_ret_exit, e_exit_ret, e_nrm_exit, e_nrm_ret, e_exit_nrm, e_ret_nrm, Nat.zero_add, Nat.reduceAdd, noslR, noslP, noslB, noslA, List.all_cons, List.all_nil]
    rw [List.any_cons]
    unfold fidx
    cases hb : hasB hs x with
    | true => rfl
    | false =>
      have e1 : (pre.length : Int) + 1 = ((pre ++ [x]).length : Int) := by simp
      have e2 : pre ++ x :: xs = (pre ++ [x]) ++ xs := by simp
      rw [ctl_false, e1, e2, ih (pre ++ [x]) (by simp; omega)]
      simp

theorem c_vote (hs xs : List Nat) (hh : hs.length ≤ 1000) (hn : xs.length ≤ 1000) :
    denC E 50 [AV.sl 1 (ns xs), AV.fn 51 [.ptr 0 0]] [Blk.box [AV.sl 1 (ns hs)]] = some ([RV.p (PV.int .i64 (fidx (hasB hs) xs 0))], [Blk.box [AV.sl 1 (ns hs)]]) := by
  have h := vote_loop hh xs [] (by simpa using hn)
  rw [List.nil_append, List.length_nil, nc0] at h
  rw [denC_eq, r50e, ns_length, h]
  by_cases ha : xs.any (hasB hs) = true
  · rw [if_pos ha]
    simp only [bnd_some, ctl_true, ctl_false, ctl_and, ctl_or', ctl_or2, x_toPV, x_toCs, x_toCs2, x_toEs, x_bEs, x_bCs, x_aPV, x_aCs, x_int, x_bool, x_str, x_es, x_esn, nth_0, nth_1, nth_2, nth_3, nth_4, nth_5, nth_6, nth_7, nth_8, nth_9, y_nil, y_int, y_bool, y_str, y_sl, y_nils, y_agg, y_ownp, y_own, z_nil, z_int, z_bool, z_str, z_sl, z_nils, b_nil, b_arr, b_box1, b_box2, b_box3, b_box4, List.map_cons, List.map_nil, Bool.and_self, Bool.and_true, Bool.true_and, Bool.not_true, Bool.not_false, Bool.or_false, Bool.false_or, cond_true, cond_false, okPack, okPut, okPutBlks, okPutCells, q_isP, q_isAg, q_isBox, q_isArr, q_int, q_bool, q_str, q_sl, q_nils, e_exit, e_ret, e_nrm, e_ret_exit, e_exit_ret, e_nrm_exit, e_nrm_ret, e_exit_nrm, e_ret_nrm, Nat.zero_add, Nat.reduceAdd, noslR, noslP, noslB, noslA, List.all_cons, List.all_nil]
  · rw [if_neg ha, fidx_none _ _ _ ha]
    simp only [bnd_some, ctl_true, ctl_false, ctl_and, ctl_or', ctl_or2, x_toPV, x_toCs, x_toCs2, x_toEs, x_bEs, x_bCs, x_aPV, x_aCs, x_int, x_bool, x_str, x_es, x_esn, nth_0, nth_1, nth_2, nth_3, nth_4, nth_5, nth_6, nth_7, nth_8, nth_9, y_nil, y_int, y_bool, y_str, y_sl, y_nils, y_agg, y_ownp, y_own, z_nil, z_int, z_bool, z_str, z_sl, z_nils, b_nil, b_arr, b_box1, b_box2, b_box3, b_box4, List.map_cons, List.map_nil, Bool.and_self, Bool.and_true, Bool.true_and, Bool.not_true, Bool.not_false, Bool.or_false, Bool.false_or, cond_true, cond_false, okPack, okPut, okPutBlks, okPutCells, q_isP, q_isAg, q_isBox, q_isArr, q_int, q_bool, q_str, q_sl, q_nils, e_exit, e_ret, e_nrm, e_ret_exit, e_exit_ret, e_nrm_exit, e_nrm_ret, e_exit_nrm, e_ret_nrm, Nat.zero_add, Nat.reduceAdd, noslR, noslP, noslB, noslA, List.all_cons, List.all_nil]

/-- What stands at the place that was found. -/
theorem fidx_find (p : Nat → Bool) : ∀ (l pre : List Nat), (l.find? p = none ∧ fidx p l pre.length = -1) ∨ (∃ z c : Nat, l.find? p = some c ∧ fidx p l pre.length = z ∧ z < (pre ++ l).length ∧ (pre ++ l).getD z 0 = c)
  | [], pre => .inl ⟨rfl, rfl⟩
  | x :: l, pre => by
    unfold fidx
    cases h : p x with
    | true => exact .inr ⟨pre.length, x, by rw [List.find?_cons, h], by rw [if_pos rfl], by simp, by simp [List.getD]⟩
    | false =>
      have e2 : pre ++ x :: l = (pre ++ [x]) ++ l := by simp
      have e3 : pre.length + 1 = (pre ++ [x]).length := by simp
      rw [if_neg (by simp), e3, e2, List.find?_cons, h]
      exact fidx_find p l (pre ++ [x])

theorem cand_loop {l : List Ct} {R : List (List Bool)} (hS : Sq l R) (hB : Bd l) {t d : Int} (ht : 0 ≤ t ∧ t ≤ 2147483648) : ∀ (m k : Nat) (acc : List Nat), k + m = l.length → acc.length ≤ k →
    lp E (denC E) 49 0 [] 0 { vals := [AV.int .i64 t, AV.int .i64 d, AV.sl 3 (ctrs l), AV.int .i64 l.length, AV.int .i64 k], blks := [bpt l R, Blk.arr 1 (ns acc)] } =
      some (Ex.exit 0, { vals := [], blks := [Blk.arr 1 (ns (acc ++ (List.range' k m).filter (candB l R t d)))] }) := by
  have h5 := hS.n5
  intro m
  induction m with
  | zero =>
    intro k acc hk ha
    rw [r49_0, ctl_dec, if_neg (by omega)]
    simp
  | succ m ih =>
    intro k acc hk ha
    have hkl : k < l.length := by omega
    have b1 := hB.hd0 k hkl
    have b2 := hB.hd k hkl
    have hh := hears_len (l := l) (R := R) k
    have hl : leN (((ns acc).length + 1) * 8) 140737488355328 = true := by rw [ns_length]; simp only [decide_eq_true_eq]; omega
    rw [r49_0, ctl_dec, if_pos (by omega), getE_ctrs hkl]
    simp only [bnd_some, ctl_true, ctl_false, ctl_and, ctl_or', ctl_or2, x_toPV, x_toCs, x_toCs2, x_toEs, x_bEs, x_bCs, x_aPV, x_aCs, x_int, x_bool, x_str, x_es, x_esn, nth_0, nth_1, nth_2, nth_3, nth_4, nth_5, nth_6, nth_7, nth_8, nth_9, y_nil, y_int, y_bool, y_str, y_sl, y_nils, y_agg, y_ownp, y_own, z_nil, z_int, z_bool, z_str, z_sl, z_nils, b_nil, b_arr, b_box1, b_box2, b_box3, b_box4, List.map_cons, List.map_nil, Bool.and_self, Bool.and_true, Bool.true_and, Bool.not_true, Bool.not_false, Bool.or_false, Bool.false_or, cond_true, cond_false, okPack, okPut, okPutBlks, okPutCells, q_isP, q_isAg, q_isBox, q_isArr, q_int, q_bool, q_str, q_sl, q_nils, e_exit, e_ret, e_nrm, e_ret_exit, e_exit_ret, e_nrm_exit, e_nrm_ret, e_exit_nrm, e_ret_nrm, Nat.zero_add, Nat.reduceAdd, noslR, noslP, noslB, noslA, List.all_cons, List.all_nil]
    rw [c_hears hS hkl, c_leads hS hkl, w64 (n := (k : Int) + 1) (by omega), w64 (n := t - (gt l k).hd) (by omega), succ_cast]
    simp only [bnd_some, ctl_true, ctl_false, ctl_and, ctl_or', ctl_or2, x_toPV, x_toCs, x_toCs2, x_toEs, x_bEs, x_bCs, x_aPV, x_aCs, x_int, x_bool, x_str, x_es, x_esn, nth_0, nth_1, nth_2, nth_3, nth_4, nth_5, nth_6, nth_7, nth_8, nth_9, y_nil, y_int, y_bool, y_str, y_sl, y_nils, y_agg, y_ownp, y_own, z_nil, z_int, z_bool, z_str, z_sl, z_nils, b_nil, b_arr, b_box1, b_box2, b_box3, b_box4, List.map_cons, List.map_nil, Bool.and_self, Bool.and_true, Bool.true_and, Bool.not_true, Bool.not_false, Bool.or_false, Bool.false_or, cond_true, cond_false, okPack, okPut, okPutBlks, okPutCells, q_isP, q_isAg, q_isBox, q_isArr, q_int, q_bool, q_str, q_sl, q_nils, e_exit, e_ret, e_nrm, e_ret_exit, e_exit_ret, e_nrm_exit, e_nrm_ret, e_exit_nrm, e_ret_nrm, Nat.zero_add, Nat.reduceAdd, noslR, noslP, noslB, noslA, List.all_cons, List.all_nil]
    rw [ns_length, c_maj (by omega)]
    simp only [bnd_some, ctl_true, ctl_false, ctl_and, ctl_or', ctl_or2, x_toPV, x_toCs, x_toCs2, x_toEs, x_bEs, x_bCs, x_aPV, x_aCs, x_int, x_bool, x_str, x_es, x_esn, nth_0, nth_1, nth_2, nth_3, nth_4, nth_5, nth_6, nth_7, nth_8, nth_9, y_nil, y_int, y_bool, y_str, y_sl, y_nils, y_agg, y_ownp, y_own, z_nil, z_int, z_bool, z_str, z_sl, z_nils, b_nil, b_arr, b_box1, b_box2, b_box3, b_box4, List.map_cons, List.map_nil, Bool.and_self, Bool.and_true, Bool.true_and, Bool.not_true, Bool.not_false, Bool.or_false, Bool.false_or, cond_true, cond_false, okPack, okPut, okPutBlks, okPutCells, q_isP, q_isAg, q_isBox, q_isArr, q_int, q_bool, q_str, q_sl, q_nils, e_exit, e_ret, e_nrm, e_ret_exit, e_exit_ret, e_nrm_exit, e_nrm_ret, e_exit_nrm, e_ret_nrm, Nat.zero_add, Nat.reduceAdd, noslR, noslP, noslB, noslA, List.all_cons, List.all_nil, ctl_and, hl]
    have e : ((((gt l k).st == 0 && maj l (hearsL l R k).length) && !leadsB l R k) && leB d (t - (gt l k).hd)) = candB l R t d k := rfl
    rw [e, List.range'_succ, List.filter_cons]
    cases hc : candB l R t d k with
    | true =>
      have en : ns acc ++ [[PV.int IntKind.i64 (k : Int)]] = ns (acc ++ [k]) := by simp [ns]
      rw [ctl_true, en, ih (k + 1) (acc ++ [k]) (by omega) (by simp; omega)]
      simp
    | false =>
      rw [ctl_false, ih (k + 1) acc (by omega) (by omega)]
      simp

theorem c_cand {l : List Ct} {R : List (List Bool)} (hS : Sq l R) (hB : Bd l) {t d : Int} (ht : 0 ≤ t ∧ t ≤ 2147483648) : denC E 49 [pty l R, AV.int .i64 t, AV.int .i64 d] [] = some ([RV.p (PV.sl 1 (ns (candL l R t d)))], []) := by
  have h := cand_loop hS hB (d := d) ht l.length 0 [] (by omega) (by simp)
  have e0 : ns [] = [] := rfl
  rw [e0, nc0, List.nil_append] at h
  rw [denC_eq, r49, ctrs_length, h]
  simp only [bnd_some, ctl_true, ctl_false, ctl_and, ctl_or', ctl_or2, x_toPV, x_toCs, x_toCs2, x_toEs, x_bEs, x_bCs, x_aPV, x_aCs, x_int, x_bool, x_str, x_es, x_esn, nth_0, nth_1, nth_2, nth_3, nth_4, nth_5, nth_6, nth_7, nth_8, nth_9, y_nil, y_int, y_bool, y_str, y_sl, y_nils, y_agg, y_ownp, y_own, z_nil, z_int, z_bool, z_str, z_sl, z_nils, b_nil, b_arr, b_box1, b_box2, b_box3, b_box4, List.map_cons, List.map_nil, Bool.and_self, Bool.and_true, Bool.true_and, Bool.not_true, Bool.not_false, Bool.or_false, Bool.false_or, cond_true, cond_false, okPack, okPut, okPutBlks, okPutCells, q_isP, q_isAg, q_isBox, q_isArr, q_int, q_bool, q_str, q_sl, q_nils, e_exit, e_ret, e_nrm, e_ret_exit, e_exit_ret, e_nrm_exit, e_nrm_ret, e_exit_nrm, e_ret_nrm, Nat.zero_add, Nat.reduceAdd, noslR, noslP, noslB, noslA, List.all_cons, List.all_nil, iT_1]
  rfl

theorem cand_lt {l : List Ct} {R : List (List Bool)} {t d : Int} {c : Nat} (h : c ∈ candL l R t d) : c < l.length := by
  have := (List.mem_filter.1 h).1
  simp at this
  exact this
theorem cand_len {l : List Ct} {R : List (List Bool)} {t d : Int} : (candL l R t d).length ≤ l.length := by
  have := List.length_filter_le (candB l R t d) (List.range' 0 l.length)
  simpa [candL] using this

/-! ### The map of the votes -/
theorem kv_put (dv v : MV) (k : Int) : ∀ m : List (Int × MV), kvGet dv k (kvPut k v m) = v
  | [] => by simp [kvPut, kvGet]
  | (x, u) :: m => by
    unfold kvPut
    cases h : (x == k) with
    | true => simp [kvGet, h]
    | false => simp [kvGet, h, kv_put dv v k m]
theorem kv_put_ne (dv v : MV) {k j : Int} (hj : k ≠ j) : ∀ m : List (Int × MV), kvGet dv j (kvPut k v m) = kvGet dv j m
  | [] => by
    have : (k == j) = false := by simpa using hj
    simp [kvPut, kvGet, this]
  | (x, u) :: m => by
    unfold kvPut
    cases h : (x == k) with
    | true =>
      have hx : x = k := by simpa using h
      have : (x == j) = false := by simpa [hx] using hj
      simp [kvGet, this]
    | false => simp [kvGet, kv_put_ne dv v hj m]
theorem kv_gone_ne (dv : MV) {k j : Int} (hj : k ≠ j) : ∀ m : List (Int × MV), kvGet dv j (kvGone k m) = kvGet dv j m
  | [] => rfl
  | (x, u) :: m => by
    unfold kvGone
    cases h : (x == k) with
    | true =>
      have hx : x = k := by simpa using h
      have : (x == j) = false := by simpa [hx] using hj
      simp [kvGet, this]
    | false => simp [kvGet, kv_gone_ne dv hj m]
theorem kv_frz {k : Int} {v : List Nat} : ∀ {m : List (Int × MV)}, kvGet (MV.row []) k m = MV.row (ns v) →
    MV.pvOk (.sl 1) (kvGet (MV.pv .nils) k (m.map fun x => (x.1, MV.pv (x.2.frz 1)))) = true ∧ (kvGet (MV.pv .nils) k (m.map fun x => (x.1, MV.pv (x.2.frz 1)))).toPV.toEs = ns v
  | [], h => by
    simp only [kvGet, MV.row.injEq] at h
    simp only [List.map_nil, kvGet]
    exact ⟨rfl, h⟩
  | (x, u) :: m, h => by
    rw [List.map_cons]
    unfold kvGet at h ⊢
    cases hx : (x == k) with
    | true =>
      rw [hx] at h
      simp only [cond_true] at h ⊢
      rw [h]
      exact ⟨rfl, rfl⟩
    | false =>
      rw [hx] at h
      simp only [cond_false] at h ⊢
      exact kv_frz h

theorem votes_succ {l : List Ct} {R : List (List Bool)} {all : List Nat} {k c : Nat} : votesL l R all (k + 1) c = votesL l R all k c ++ if votes l R all k = some c then [k] else [] := by
  unfold votesL
  rw [List.range'_concat, List.filter_append]
  congr 1
  simp [List.filter_cons]

def KV (l : List Ct) (R : List (List Bool)) (all : List Nat) (k : Nat) (kv : List (Int × MV)) : Prop := ∀ c : Nat, kvGet (MV.row []) (c : Int) kv = MV.row (ns (votesL l R all k c))

theorem votes_len {l : List Ct} {R : List (List Bool)} {all : List Nat} {k c : Nat} : (votesL l R all k c).length ≤ k := by
  have := List.length_filter_le (fun i => votes l R all i == some c) (List.range' 0 k)
  simpa [votesL] using this

theorem elect_loop0 {l : List Ct} {R : List (List Bool)} (hS : Sq l R) {t : Int} {all : List Nat} (hal : all.length ≤ 5) : ∀ (m k : Nat) (kv : List (Int × MV)), k + m = l.length → KV l R all k kv →
    ∃ kv', KV l R all l.length kv' ∧ lp E (denC E) 32 0 [] 0 { vals := [AV.int .i64 t, AV.sl 1 (ns all), AV.int .i64 l.length, AV.int .i64 k], blks := [bpt l R, Blk.box [AV.sl 3 [], AV.sl 1 []], Blk.tab true 1 kv] } =
      some (Ex.exit 0, { vals := [AV.int .i64 t, AV.sl 1 (ns all)], blks := [bpt l R, Blk.box [AV.sl 3 [], AV.sl 1 []], Blk.tab true 1 kv'] }) := by
  have h5 := hS.n5
  intro m
  induction m with
  | zero =>
    intro k kv hk hv
    rw [r32_0, ctl_dec, if_neg (by omega)]
    exact ⟨kv, by rw [show l.length = k by omega]; exact hv, rfl⟩
  | succ m ih =>
    intro k kv hk hv
    have hkl : k < l.length := by omega
    have hh := hears_len (l := l) (R := R) k
    rw [r32_0, ctl_dec, if_pos (by omega), c_leads hS hkl]
    simp only [bnd_some, ctl_true, ctl_false, ctl_and, ctl_or', ctl_or2, x_toPV, x_toCs, x_toCs2, x_toEs, x_bEs, x_bCs, x_aPV, x_aCs, x_int, x_bool, x_str, x_es, x_esn, nth_0, nth_1, nth_2, nth_3, nth_4, nth_5, nth_6, nth_7, nth_8, nth_9, y_nil, y_int, y_bool, y_str, y_sl, y_nils, y_agg, y_ownp, y_own, z_nil, z_int, z_bool, z_str, z_sl, z_nils, b_nil, b_arr, b_box1, b_box2, b_box3, b_box4, List.map_cons, List.map_nil, Bool.and_self, Bool.and_true, Bool.true_and, Bool.not_true, Bool.not_false, Bool.or_false, Bool.false_or, cond_true, cond_false, okPack, okPut, okPutBlks, okPutCells, q_isP, q_isAg, q_isBox, q_isArr, q_int, q_bool, q_str, q_sl, q_nils, e_exit, e_ret, e_nrm, e_ret_exit, e_exit_ret, e_nrm_exit, e_nrm_ret, e_exit_nrm, e_ret_nrm, Nat.zero_add, Nat.reduceAdd, noslR, noslP, noslB, noslA, List.all_cons, List.all_nil]
    rw [w64 (n := (k : Int) + 1) (by omega), succ_cast]
    have skip : votes l R all k = none → KV l R all (k + 1) kv := fun hn c => by
      rw [hv c, votes_succ, hn]; simp
    cases hl : leadsB l R k with
    | true =>
      rw [ctl_true]
      exact ih (k + 1) kv (by omega) (skip (by unfold votes; rw [hl]; rfl))
    | false =>
      rw [ctl_false, c_hears hS hkl]
      simp only [bnd_some, ctl_true, ctl_false, ctl_and, ctl_or', ctl_or2, x_toPV, x_toCs, x_toCs2, x_toEs, x_bEs, x_bCs, x_aPV, x_aCs, x_int, x_bool, x_str, x_es, x_esn, nth_0, nth_1, nth_2, nth_3, nth_4, nth_5, nth_6, nth_7, nth_8, nth_9, y_nil, y_int, y_bool, y_str, y_sl, y_nils, y_agg, y_ownp, y_own, z_nil, z_int, z_bool, z_str, z_sl, z_nils, b_nil, b_arr, b_box1, b_box2, b_box3, b_box4, List.map_cons, List.map_nil, Bool.and_self, Bool.and_true, Bool.true_and, Bool.not_true, Bool.not_false, Bool.or_false, Bool.false_or, cond_true, cond_false, okPack, okPut, okPutBlks, okPutCells, q_isP, q_isAg, q_isBox, q_isArr, q_int, q_bool, q_str, q_sl, q_nils, e_exit, e_ret, e_nrm, e_ret_exit, e_exit_ret, e_nrm_exit, e_nrm_ret, e_exit_nrm, e_ret_nrm, Nat.zero_add, Nat.reduceAdd, noslR, noslP, noslB, noslA, List.all_cons, List.all_nil]
      rw [c_vote _ _ (by omega) (by omega)]
      simp only [bnd_some, ctl_true, ctl_false, ctl_and, ctl_or', ctl_or2, x_toPV, x_toCs, x_toCs2, x_toEs, x_bEs, x_bCs, x_aPV, x_aCs, x_int, x_bool, x_str, x_es, x_esn, nth_0, nth_1, nth_2, nth_3, nth_4, nth_5, nth_6, nth_7, nth_8, nth_9, y_nil, y_int, y_bool, y_str, y_sl, y_nils, y_agg, y_ownp, y_own, z_nil, z_int, z_bool, z_str, z_sl, z_nils, b_nil, b_arr, b_box1, b_box2, b_box3, b_box4, List.map_cons, List.map_nil, Bool.and_self, Bool.and_true, Bool.true_and, Bool.not_true, Bool.not_false, Bool.or_false, Bool.false_or, cond_true, cond_false, okPack, okPut, okPutBlks, okPutCells, q_isP, q_isAg, q_isBox, q_isArr, q_int, q_bool, q_str, q_sl, q_nils, e_exit, e_ret, e_nrm, e_ret_exit, e_exit_ret, e_nrm_exit, e_nrm_ret, e_exit_nrm, e_ret_nrm, Nat.zero_add, Nat.reduceAdd, noslR, noslP, noslB, noslA, List.all_cons, List.all_nil]
      have hvk : votes l R all k = all.find? (hasB (hearsL l R k)) := by unfold votes; rw [hl]; rfl
      rcases fidx_find (hasB (hearsL l R k)) all [] with ⟨h1, h2⟩ | ⟨z, c, h1, h2, h3, h4⟩
      · rw [List.length_nil] at h2
        rw [h2, show leB 0 (-1) = false from rfl, ctl_false]
        exact ih (k + 1) kv (by omega) (skip (by rw [hvk, h1]))
      · rw [List.length_nil] at h2
        rw [List.nil_append] at h3 h4
        have hvl := votes_len (l := l) (R := R) (all := all) (k := k) (c := c)
        have hi : ((MV.row (ns (votesL l R all k c))).toEs) = ns (votesL l R all k c) := rfl
        have hle : leN (((ns (votesL l R all k c)).length + 1) * 8) 140737488355328 = true := by rw [ns_length]; simp only [decide_eq_true_eq]; omega
        have en : ns (votesL l R all k c) ++ [[PV.int IntKind.i64 (k : Int)]] = ns (votesL l R all (k + 1) c) := by rw [votes_succ, hvk, h1, if_pos rfl, ← ns_app]; rfl
        rw [h2, show leB 0 (z : Int) = true by simp, ctl_true, getE_ns h3, h4]
        simp only [bnd_some, ctl_true, ctl_false, ctl_and, ctl_or', ctl_or2, x_toPV, x_toCs, x_toCs2, x_toEs, x_bEs, x_bCs, x_aPV, x_aCs, x_int, x_bool, x_str, x_es, x_esn, nth_0, nth_1, nth_2, nth_3, nth_4, nth_5, nth_6, nth_7, nth_8, nth_9, y_nil, y_int, y_bool, y_str, y_sl, y_nils, y_agg, y_ownp, y_own, z_nil, z_int, z_bool, z_str, z_sl, z_nils, b_nil, b_arr, b_box1, b_box2, b_box3, b_box4, List.map_cons, List.map_nil, Bool.and_self, Bool.and_true, Bool.true_and, Bool.not_true, Bool.not_false, Bool.or_false, Bool.false_or, cond_true, cond_false, okPack, okPut, okPutBlks, okPutCells, q_isP, q_isAg, q_isBox, q_isArr, q_int, q_bool, q_str, q_sl, q_nils, e_exit, e_ret, e_nrm, e_ret_exit, e_exit_ret, e_nrm_exit, e_nrm_ret, e_exit_nrm, e_ret_nrm, Nat.zero_add, Nat.reduceAdd, noslR, noslP, noslB, noslA, List.all_cons, List.all_nil]
        rw [getE_ns h3, h4]
        simp only [bnd_some, ctl_true, ctl_false, ctl_and, ctl_or', ctl_or2, x_toPV, x_toCs, x_toCs2, x_toEs, x_bEs, x_bCs, x_aPV, x_aCs, x_int, x_bool, x_str, x_es, x_esn, nth_0, nth_1, nth_2, nth_3, nth_4, nth_5, nth_6, nth_7, nth_8, nth_9, y_nil, y_int, y_bool, y_str, y_sl, y_nils, y_agg, y_ownp, y_own, z_nil, z_int, z_bool, z_str, z_sl, z_nils, b_nil, b_arr, b_box1, b_box2, b_box3, b_box4, List.map_cons, List.map_nil, Bool.and_self, Bool.and_true, Bool.true_and, Bool.not_true, Bool.not_false, Bool.or_false, Bool.false_or, cond_true, cond_false, okPack, okPut, okPutBlks, okPutCells, q_isP, q_isAg, q_isBox, q_isArr, q_int, q_bool, q_str, q_sl, q_nils, e_exit, e_ret, e_nrm, e_ret_exit, e_exit_ret, e_nrm_exit, e_nrm_ret, e_exit_nrm, e_ret_nrm, Nat.zero_add, Nat.reduceAdd, noslR, noslP, noslB, noslA, List.all_cons, List.all_nil]
        rw [hv c, hi, hle, en, ctl_true]
        simp only [MV.isRow, ctl_true]
        refine ih (k + 1) _ (by omega) fun j => ?_
        by_cases hj : c = j
        · subst hj
          rw [kv_put]
        · have hne : (c : Int) ≠ (j : Int) := by omega
          rw [kv_put_ne _ _ hne, kv_gone_ne _ hne, hv j, votes_succ, hvk, h1, if_neg (by simpa using hj), List.append_nil]

end Go.Proofs.Ythmhnnppikdafaa.Vm
