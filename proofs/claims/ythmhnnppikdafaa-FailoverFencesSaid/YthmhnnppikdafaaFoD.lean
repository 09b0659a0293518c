/- Chapter 33: contracts: who hears whom, who leads, who yields. -/
import Derived.Test.YthmhnnppikdafaaFoC
namespace Go.Proofs.Ythmhnnppikdafaa.Vm
set_option linter.unusedVariables false
set_option linter.unusedSimpArgs false

theorem great_loop {l : List Ct} {R : List (List Bool)} (h5 : l.length ≤ 5) : ∀ (xs pre : List Nat) (o : Int), pre.length + xs.length ≤ 1000 → (∀ x ∈ xs, x < l.length) →
    lp E (denC E) 41 0 [] 0 { vals := [AV.int .i64 o, AV.sl 1 (ns (pre ++ xs)), AV.int .i64 (pre ++ xs).length, AV.int .i64 pre.length], blks := [bpt l R] } =
      some (Ex.exit 0, { vals := [AV.int .i64 (great l o xs)], blks := [] }) := by
  intro xs
  induction xs with
  | nil =>
    intro pre o hp hx
    rw [r41_0, ctl_dec, if_neg (by simp)]
    rfl
  | cons x xs ih =>
    intro pre o hp hx
    have hxl := hx x (by simp)
    have hg : (pre ++ x :: xs).getD pre.length 0 = x := by simp [List.getD]
    simp only [List.length_cons] at hp
    rw [r41_0, ctl_dec, if_pos (by simp; omega), getE_ns (by simp), hg]
    simp only [bnd_some, ctl_true, ctl_false, ctl_and, ctl_or', ctl_or2, x_toPV, x_toCs, x_toCs2, x_toEs, x_bEs, x_bCs, x_aPV, x_aCs, x_int, x_bool, x_str, x_es, x_esn, nth_0, nth_1, nth_2, nth_3, nth_4, nth_5, nth_6, nth_7, nth_8, nth_9, y_nil, y_int, y_bool, y_str, y_sl, y_nils, y_agg, y_ownp, y_own, z_nil, z_int, z_bool, z_str, z_sl, z_nils, b_nil, b_arr, b_box1, b_box2, b_box3, b_box4, List.map_cons, List.map_nil, Bool.and_self, Bool.and_true, Bool.true_and, Bool.not_true, Bool.not_false, Bool.or_false, Bool.false_or, cond_true, cond_false, okPack, okPut, okPutBlks, okPutCells, q_isP, q_isAg, q_isBox, q_isArr, q_int, q_bool, q_str, q_sl, q_nils, e_exit, e_ret, e_nrm, e_ret_exit, e_exit_ret, e_nrm_exit, e_nrm_ret, e_exit_nrm, e_ret_nrm, Nat.zero_add, Nat.reduceAdd, noslR, noslP, noslB, noslA, List.all_cons, List.all_nil]
    rw [getE_ctrs hxl, w64 (n := (pre.length : Int) + 1) (by omega)]
    simp only [bnd_some, ctl_true, ctl_false, ctl_and, ctl_or', ctl_or2, x_toPV, x_toCs, x_toCs2, x_toEs, x_bEs, x_bCs, x_aPV, x_aCs, x_int, x_bool, x_str, x_es, x_esn, nth_0, nth_1, nth_2, nth_3, nth_4, nth_5, nth_6, nth_7, nth_8, nth_9, y_nil, y_int, y_bool, y_str, y_sl, y_nils, y_agg, y_ownp, y_own, z_nil, z_int, z_bool, z_str, z_sl, z_nils, b_nil, b_arr, b_box1, b_box2, b_box3, b_box4, List.map_cons, List.map_nil, Bool.and_self, Bool.and_true, Bool.true_and, Bool.not_true, Bool.not_false, Bool.or_false, Bool.false_or, cond_true, cond_false, okPack, okPut, okPutBlks, okPutCells, q_isP, q_isAg, q_isBox, q_isArr, q_int, q_bool, q_str, q_sl, q_nils, e_exit, e_ret, e_nrm, e_ret_exit, e_exit_ret, e_nrm_exit, e_nrm_ret, e_exit_nrm, e_ret_nrm, Nat.zero_add, Nat.reduceAdd, noslR, noslP, noslB, noslA, List.all_cons, List.all_nil]
    have e1 : (pre.length : Int) + 1 = ((pre ++ [x]).length : Int) := by simp
    have e2 : pre ++ x :: xs = (pre ++ [x]) ++ xs := by simp
    rw [e1, e2, ih (pre ++ [x]) _ (by simp; omega) fun y hy => hx y (by simp [hy])]
    rfl

theorem c_great {l : List Ct} {R : List (List Bool)} (h5 : l.length ≤ 5) (xs : List Nat) (hn : xs.length ≤ 1000) (hx : ∀ x ∈ xs, x < l.length) : denC E 41 [pty l R, AV.sl 1 (ns xs)] [] = some ([RV.p (PV.int .i64 (great l 0 xs))], []) := by
  have h := great_loop (R := R) h5 xs [] 0 (by simpa using hn) hx
  rw [List.nil_append, List.length_nil, nc0] at h
  rw [denC_eq, r41, ns_length, h]
  simp only [bnd_some, ctl_true, ctl_false, ctl_and, ctl_or', ctl_or2, x_toPV, x_toCs, x_toCs2, x_toEs, x_bEs, x_bCs, x_aPV, x_aCs, x_int, x_bool, x_str, x_es, x_esn, nth_0, nth_1, nth_2, nth_3, nth_4, nth_5, nth_6, nth_7, nth_8, nth_9, y_nil, y_int, y_bool, y_str, y_sl, y_nils, y_agg, y_ownp, y_own, z_nil, z_int, z_bool, z_str, z_sl, z_nils, b_nil, b_arr, b_box1, b_box2, b_box3, b_box4, List.map_cons, List.map_nil, Bool.and_self, Bool.and_true, Bool.true_and, Bool.not_true, Bool.not_false, Bool.or_false, Bool.false_or, cond_true, cond_false, okPack, okPut, okPutBlks, okPutCells, q_isP, q_isAg, q_isBox, q_isArr, q_int, q_bool, q_str, q_sl, q_nils, e_exit, e_ret, e_nrm, e_ret_exit, e_exit_ret, e_nrm_exit, e_nrm_ret, e_exit_nrm, e_ret_nrm, Nat.zero_add, Nat.reduceAdd, noslR, noslP, noslB, noslA, List.all_cons, List.all_nil]

/-- The first place, from k on, of an element with p; -1 if there is none. -/
def fidx (p : Nat → Bool) : List Nat → Nat → Int
  | [], _ => -1
  | x :: l, k => if p x = true then (k : Int) else fidx p l (k + 1)
theorem fidx_any (p : Nat → Bool) : ∀ (l : List Nat) (k : Nat), leB 0 (fidx p l k) = l.any p
  | [], k => rfl
  | x :: l, k => by
    unfold fidx
    cases h : p x with
    | true => rw [if_pos rfl, List.any_cons, h]; simp
    | false => rw [if_neg (by simp), fidx_any p l (k + 1), List.any_cons, h, Bool.false_or]

theorem any_loop {l : List Ct} {R : List (List Bool)} : ∀ (xs pre : List Nat), pre.length + xs.length ≤ 1000 → (∀ x ∈ xs, x < l.length) →
    lp E (denC E) 50 0 [AV.undef, AV.bnd 44 [PV.sl 3 (ctrs l), PV.sl 1 (rch R)]] 0 { vals := [AV.sl 1 (ns (pre ++ xs)), AV.int .i64 (pre ++ xs).length, AV.int .i64 pre.length], blks := [] } =
      some (if xs.any (actB l) = true then (Ex.ret, { vals := [AV.int .i64 (fidx (actB l) xs pre.length)], blks := [] }) else (Ex.exit 0, { vals := [], blks := [] })) := by
  intro xs
  induction xs with
  | nil =>
    intro pre hp hx
    rw [r50_0a, ctl_dec, if_neg (by simp)]
    rfl
  | cons x xs ih =>
    intro pre hp hx
    have hxl := hx x (by simp)
    have hg : (pre ++ x :: xs).getD pre.length 0 = x := by simp [List.getD]
    simp only [List.length_cons] at hp
    rw [r50_0a, ctl_dec, if_pos (by simp; omega), getE_ns (by simp), hg]
    simp only [bnd_some, ctl_true, ctl_false, ctl_and, ctl_or', ctl_or2, x_toPV, x_toCs, x_toCs2, x_toEs, x_bEs, x_bCs, x_aPV, x_aCs, x_int, x_bool, x_str, x_es, x_esn, nth_0, nth_1, nth_2, nth_3, nth_4, nth_5, nth_6, nth_7, nth_8, nth_9, y_nil, y_int, y_bool, y_str, y_sl, y_nils, y_agg, y_ownp, y_own, z_nil, z_int, z_bool, z_str, z_sl, z_nils, b_nil, b_arr, b_box1, b_box2, b_box3, b_box4, List.map_cons, List.map_nil, Bool.and_self, Bool.and_true, Bool.true_and, Bool.not_true, Bool.not_false, Bool.or_false, Bool.false_or, cond_true, cond_false, okPack, okPut, okPutBlks, okPutCells, q_isP, q_isAg, q_isBox, q_isArr, q_int, q_bool, q_str, q_sl, q_nils, e_exit, e_ret, e_nrm, e_ret_exit, e_exit_ret, e_nrm_exit, e_nrm_ret, e_exit_nrm, e_ret_nrm, Nat.zero_add, Nat.reduceAdd, noslR, noslP, noslB, noslA, List.all_cons, List.all_nil]
    rw [c_act hxl, w64 (n := (pre.length : Int) + 1) (by omega), eqAV_self]
    simp only [bnd_some, ctl_true, ctl_false, ctl_and, ctl_or', ctl_or2, x_toPV, x_toCs, x_toCs2, x_toEs, x_bEs, x_bCs, x_aPV, x_aCs, x_int, x_bool, x_str, x_es, x_esn, nth_0, nth_1, nth_2, nth_3, nth_4, nth_5, nth_6, nth_7, nth_8, nth_9, y_nil, y_int, y_bool, y_str, y_sl, y_nils, y_agg, y_ownp, y_own, z_nil, z_int, z_bool, z_str, z_sl, z_nils, b_nil, b_arr, b_box1, b_box2, b_box3, b_box4, List.map_cons, List.map_nil, Bool.and_self, Bool.and_true, Bool.true_and, Bool.not_true, Bool.not_false, Bool.or_false, Bool.false_or, cond_true, cond_false, okPack, okPut, okPutBlks, okPutCells, q_isP, q_isAg, q_isBox, q_isArr, q_int, q_bool, q_str, q_sl, q_nils, e_exit, e_ret, e_nrm, e_ret_exit, e_exit_ret, e_nrm_exit, e_nrm_ret, e_exit_nrm, e_ret_nrm, Nat.zero_add, Nat.reduceAdd, noslR, noslP, noslB, noslA, List.all_cons, List.all_nil]
    rw [List.any_cons]
    unfold fidx
    cases hb : actB l x with
    | true => rfl
    | false =>
      have e1 : (pre.length : Int) + 1 = ((pre ++ [x]).length : Int) := by simp
      have e2 : pre ++ x :: xs = (pre ++ [x]) ++ xs := by simp
      have e3 : pre.length + 1 = (pre ++ [x]).length := by simp
      rw [ctl_false, e1, e2, ih (pre ++ [x]) (by simp; omega) fun y hy => hx y (by simp [hy])]
      simp

theorem c_any {l : List Ct} {R : List (List Bool)} (xs : List Nat) (hn : xs.length ≤ 1000) (hx : ∀ x ∈ xs, x < l.length) :
    denC E 46 [AV.sl 1 (ns xs), AV.bnd 44 [PV.sl 3 (ctrs l), PV.sl 1 (rch R)]] [] = some ([RV.p (PV.bool (xs.any (actB l)))], []) := by
  have h := any_loop (R := R) xs [] (by simpa using hn) hx
  rw [List.nil_append, List.length_nil, nc0] at h
  have h2 : denC E 50 [AV.sl 1 (ns xs), AV.bnd 44 [PV.sl 3 (ctrs l), PV.sl 1 (rch R)]] [] = some ([RV.p (PV.int .i64 (fidx (actB l) xs 0))], []) := by
    rw [denC_eq, r50a, ns_length, h, eqAV_self]
    simp only [bnd_some, ctl_true, ctl_false, ctl_and, ctl_or', ctl_or2, x_toPV, x_toCs, x_toCs2, x_toEs, x_bEs, x_bCs, x_aPV, x_aCs, x_int, x_bool, x_str, x_es, x_esn, nth_0, nth_1, nth_2, nth_3, nth_4, nth_5, nth_6, nth_7, nth_8, nth_9, y_nil, y_int, y_bool, y_str, y_sl, y_nils, y_agg, y_ownp, y_own, z_nil, z_int, z_bool, z_str, z_sl, z_nils, b_nil, b_arr, b_box1, b_box2, b_box3, b_box4, List.map_cons, List.map_nil, Bool.and_self, Bool.and_true, Bool.true_and, Bool.not_true, Bool.not_false, Bool.or_false, Bool.false_or, cond_true, cond_false, okPack, okPut, okPutBlks, okPutCells, q_isP, q_isAg, q_isBox, q_isArr, q_int, q_bool, q_str, q_sl, q_nils, e_exit, e_ret, e_nrm, e_ret_exit, e_exit_ret, e_nrm_exit, e_nrm_ret, e_exit_nrm, e_ret_nrm, Nat.zero_add, Nat.reduceAdd, noslR, noslP, noslB, noslA, List.all_cons, List.all_nil]
    have hf := fidx_any (actB l) xs 0
    by_cases ha : xs.any (actB l) = true
    · rw [if_pos ha]
      simp only [bnd_some, ctl_true, ctl_false, ctl_and, ctl_or', ctl_or2, x_toPV, x_toCs, x_toCs2, x_toEs, x_bEs, x_bCs, x_aPV, x_aCs, x_int, x_bool, x_str, x_es, x_esn, nth_0, nth_1, nth_2, nth_3, nth_4, nth_5, nth_6, nth_7, nth_8, nth_9, y_nil, y_int, y_bool, y_str, y_sl, y_nils, y_agg, y_ownp, y_own, z_nil, z_int, z_bool, z_str, z_sl, z_nils, b_nil, b_arr, b_box1, b_box2, b_box3, b_box4, List.map_cons, List.map_nil, Bool.and_self, Bool.and_true, Bool.true_and, Bool.not_true, Bool.not_false, Bool.or_false, Bool.false_or, cond_true, cond_false, okPack, okPut, okPutBlks, okPutCells, q_isP, q_isAg, q_isBox, q_isArr, q_int, q_bool, q_str, q_sl, q_nils, e_exit, e_ret, e_nrm, e_ret_exit, e_exit_ret, e_nrm_exit, e_nrm_ret, e_exit_nrm, e_ret_nrm, Nat.zero_add, Nat.reduceAdd, noslR, noslP, noslB, noslA, List.all_cons, List.all_nil]
    · rw [if_neg ha]
      simp only [bnd_some, ctl_true, ctl_false, ctl_and, ctl_or', ctl_or2, x_toPV, x_toCs, x_toCs2, x_toEs, x_bEs, x_bCs, x_aPV, x_aCs, x_int, x_bool, x_str, x_es, x_esn, nth_0, nth_1, nth_2, nth_3, nth_4, nth_5, nth_6, nth_7, nth_8, nth_9, y_nil, y_int, y_bool, y_str, y_sl, y_nils, y_agg, y_ownp, y_own, z_nil, z_int, z_bool, z_str, z_sl, z_nils, b_nil, b_arr, b_box1, b_box2, b_box3, b_box4, List.map_cons, List.map_nil, Bool.and_self, Bool.and_true, Bool.true_and, Bool.not_true, Bool.not_false, Bool.or_false, Bool.false_or, cond_true, cond_false, okPack, okPut, okPutBlks, okPutCells, q_isP, q_isAg, q_isBox, q_isArr, q_int, q_bool, q_str, q_sl, q_nils, e_exit, e_ret, e_nrm, e_ret_exit, e_exit_ret, e_nrm_exit, e_nrm_ret, e_exit_nrm, e_ret_nrm, Nat.zero_add, Nat.reduceAdd, noslR, noslP, noslB, noslA, List.all_cons, List.all_nil]
      have : fidx (actB l) xs 0 = -1 := by
        have hn : ∀ (xs : List Nat) (k : Nat), ¬ xs.any (actB l) = true → fidx (actB l) xs k = -1 := by
          intro xs
          induction xs with
          | nil => intro k _; rfl
          | cons x xs ih =>
            intro k hk
            rw [List.any_cons, Bool.or_eq_true, not_or] at hk
            unfold fidx
            rw [if_neg hk.1, ih _ hk.2]
        exact hn xs 0 ha
      rw [this]
  rw [denC_eq, r46a, h2]
  simp only [bnd_some, ctl_true, ctl_false, ctl_and, ctl_or', ctl_or2, x_toPV, x_toCs, x_toCs2, x_toEs, x_bEs, x_bCs, x_aPV, x_aCs, x_int, x_bool, x_str, x_es, x_esn, nth_0, nth_1, nth_2, nth_3, nth_4, nth_5, nth_6, nth_7, nth_8, nth_9, y_nil, y_int, y_bool, y_str, y_sl, y_nils, y_agg, y_ownp, y_own, z_nil, z_int, z_bool, z_str, z_sl, z_nils, b_nil, b_arr, b_box1, b_box2, b_box3, b_box4, List.map_cons, List.map_nil, Bool.and_self, Bool.and_true, Bool.true_and, Bool.not_true, Bool.not_false, Bool.or_false, Bool.false_or, cond_true, cond_false, okPack, okPut, okPutBlks, okPutCells, q_isP, q_isAg, q_isBox, q_isArr, q_int, q_bool, q_str, q_sl, q_nils, e_exit, e_ret, e_nrm, e_ret_exit, e_exit_ret, e_nrm_exit, e_nrm_ret, e_exit_nrm, e_ret_nrm, Nat.zero_add, Nat.reduceAdd, noslR, noslP, noslB, noslA, List.all_cons, List.all_nil]
  rw [fidx_any]

theorem c_leads {l : List Ct} {R : List (List Bool)} (hS : Sq l R) {i : Nat} (hi : i < l.length) : denC E 48 [pty l R, AV.int .i64 (i : Int)] [] = some ([RV.p (PV.bool (leadsB l R i))], []) := by
  have h5 := hS.n5
  have hl := hears_len (l := l) (R := R) i
  rw [denC_eq, r48, c_hears hS hi]
  simp only [bnd_some, ctl_true, ctl_false, ctl_and, ctl_or', ctl_or2, x_toPV, x_toCs, x_toCs2, x_toEs, x_bEs, x_bCs, x_aPV, x_aCs, x_int, x_bool, x_str, x_es, x_esn, nth_0, nth_1, nth_2, nth_3, nth_4, nth_5, nth_6, nth_7, nth_8, nth_9, y_nil, y_int, y_bool, y_str, y_sl, y_nils, y_agg, y_ownp, y_own, z_nil, z_int, z_bool, z_str, z_sl, z_nils, b_nil, b_arr, b_box1, b_box2, b_box3, b_box4, List.map_cons, List.map_nil, Bool.and_self, Bool.and_true, Bool.true_and, Bool.not_true, Bool.not_false, Bool.or_false, Bool.false_or, cond_true, cond_false, okPack, okPut, okPutBlks, okPutCells, q_isP, q_isAg, q_isBox, q_isArr, q_int, q_bool, q_str, q_sl, q_nils, e_exit, e_ret, e_nrm, e_ret_exit, e_exit_ret, e_nrm_exit, e_nrm_ret, e_exit_nrm, e_ret_nrm, Nat.zero_add, Nat.reduceAdd, noslR, noslP, noslB, noslA, List.all_cons, List.all_nil]
  rw [c_any _ (by omega) fun x hx => hears_lt hx]
  simp only [bnd_some, ctl_true, ctl_false, ctl_and, ctl_or', ctl_or2, x_toPV, x_toCs, x_toCs2, x_toEs, x_bEs, x_bCs, x_aPV, x_aCs, x_int, x_bool, x_str, x_es, x_esn, nth_0, nth_1, nth_2, nth_3, nth_4, nth_5, nth_6, nth_7, nth_8, nth_9, y_nil, y_int, y_bool, y_str, y_sl, y_nils, y_agg, y_ownp, y_own, z_nil, z_int, z_bool, z_str, z_sl, z_nils, b_nil, b_arr, b_box1, b_box2, b_box3, b_box4, List.map_cons, List.map_nil, Bool.and_self, Bool.and_true, Bool.true_and, Bool.not_true, Bool.not_false, Bool.or_false, Bool.false_or, cond_true, cond_false, okPack, okPut, okPutBlks, okPutCells, q_isP, q_isAg, q_isBox, q_isArr, q_int, q_bool, q_str, q_sl, q_nils, e_exit, e_ret, e_nrm, e_ret_exit, e_exit_ret, e_nrm_exit, e_nrm_ret, e_exit_nrm, e_ret_nrm, Nat.zero_add, Nat.reduceAdd, noslR, noslP, noslB, noslA, List.all_cons, List.all_nil]
  rfl

theorem c_learn {l : List Ct} {R : List (List Bool)} (hS : Sq l R) {i : Nat} (hi : i < l.length) (c : Ct) : denC E 29 [pty l R, AV.int .i64 (i : Int), ctA c] [] = some ([RV.agg (ctr (learnC l R i c))], []) := by
  have h5 := hS.n5
  have hl := hears_len (l := l) (R := R) i
  rw [denC_eq, r29, c_hears hS hi]
  simp only [bnd_some, ctl_true, ctl_false, ctl_and, ctl_or', ctl_or2, x_toPV, x_toCs, x_toCs2, x_toEs, x_bEs, x_bCs, x_aPV, x_aCs, x_int, x_bool, x_str, x_es, x_esn, nth_0, nth_1, nth_2, nth_3, nth_4, nth_5, nth_6, nth_7, nth_8, nth_9, y_nil, y_int, y_bool, y_str, y_sl, y_nils, y_agg, y_ownp, y_own, z_nil, z_int, z_bool, z_str, z_sl, z_nils, b_nil, b_arr, b_box1, b_box2, b_box3, b_box4, List.map_cons, List.map_nil, Bool.and_self, Bool.and_true, Bool.true_and, Bool.not_true, Bool.not_false, Bool.or_false, Bool.false_or, cond_true, cond_false, okPack, okPut, okPutBlks, okPutCells, q_isP, q_isAg, q_isBox, q_isArr, q_int, q_bool, q_str, q_sl, q_nils, e_exit, e_ret, e_nrm, e_ret_exit, e_exit_ret, e_nrm_exit, e_nrm_ret, e_exit_nrm, e_ret_nrm, Nat.zero_add, Nat.reduceAdd, noslR, noslP, noslB, noslA, List.all_cons, List.all_nil]
  rw [c_great h5 _ (by omega) fun x hx => hears_lt hx]
  simp only [bnd_some, ctl_true, ctl_false, ctl_and, ctl_or', ctl_or2, x_toPV, x_toCs, x_toCs2, x_toEs, x_bEs, x_bCs, x_aPV, x_aCs, x_int, x_bool, x_str, x_es, x_esn, nth_0, nth_1, nth_2, nth_3, nth_4, nth_5, nth_6, nth_7, nth_8, nth_9, y_nil, y_int, y_bool, y_str, y_sl, y_nils, y_agg, y_ownp, y_own, z_nil, z_int, z_bool, z_str, z_sl, z_nils, b_nil, b_arr, b_box1, b_box2, b_box3, b_box4, List.map_cons, List.map_nil, Bool.and_self, Bool.and_true, Bool.true_and, Bool.not_true, Bool.not_false, Bool.or_false, Bool.false_or, cond_true, cond_false, okPack, okPut, okPutBlks, okPutCells, q_isP, q_isAg, q_isBox, q_isArr, q_int, q_bool, q_str, q_sl, q_nils, e_exit, e_ret, e_nrm, e_ret_exit, e_exit_ret, e_nrm_exit, e_nrm_ret, e_exit_nrm, e_ret_nrm, Nat.zero_add, Nat.reduceAdd, noslR, noslP, noslB, noslA, List.all_cons, List.all_nil]
  rfl

theorem c_listen {l : List Ct} {R : List (List Bool)} (hS : Sq l R) {i : Nat} (hi : i < l.length) (c : Ct) (t : Int) : denC E 47 [AV.int .i64 (i : Int), ctA c, AV.t (.ptr 0 0), AV.t (.ptr 1 0)] [bpt l R, Blk.box [AV.int .i64 t]] = some ([RV.agg (ctr (listenC l R t i c))], [bpt l R, Blk.box [AV.int .i64 t]]) := by
  rw [denC_eq, r47, c_leads hS hi]
  simp only [bnd_some, ctl_true, ctl_false, ctl_and, ctl_or', ctl_or2, x_toPV, x_toCs, x_toCs2, x_toEs, x_bEs, x_bCs, x_aPV, x_aCs, x_int, x_bool, x_str, x_es, x_esn, nth_0, nth_1, nth_2, nth_3, nth_4, nth_5, nth_6, nth_7, nth_8, nth_9, y_nil, y_int, y_bool, y_str, y_sl, y_nils, y_agg, y_ownp, y_own, z_nil, z_int, z_bool, z_str, z_sl, z_nils, b_nil, b_arr, b_box1, b_box2, b_box3, b_box4, List.map_cons, List.map_nil, Bool.and_self, Bool.and_true, Bool.true_and, Bool.not_true, Bool.not_false, Bool.or_false, Bool.false_or, cond_true, cond_false, okPack, okPut, okPutBlks, okPutCells, q_isP, q_isAg, q_isBox, q_isArr, q_int, q_bool, q_str, q_sl, q_nils, e_exit, e_ret, e_nrm, e_ret_exit, e_exit_ret, e_nrm_exit, e_nrm_ret, e_exit_nrm, e_ret_nrm, Nat.zero_add, Nat.reduceAdd, noslR, noslP, noslB, noslA, List.all_cons, List.all_nil]
  unfold listenC
  cases leadsB l R i <;> rfl

theorem c_rival {l : List Ct} {R : List (List Bool)} {i k : Nat} (hk : k < l.length) (c : Ct) : denC E 43 [AV.int .i64 (k : Int), AV.t (.ptr 0 0), AV.t (.ptr 1 0), AV.t (.ptr 2 0)] [Blk.box [AV.int .i64 (i : Int)], bpt l R, Blk.box [AV.int .i64 c.st, AV.int .i64 c.ep, AV.int .i64 c.hd]] =
    some ([RV.p (PV.bool (rival l i c k))], [Blk.box [AV.int .i64 (i : Int)], bpt l R, Blk.box [AV.int .i64 c.st, AV.int .i64 c.ep, AV.int .i64 c.hd]]) := by
  rw [denC_eq, r43, c_act hk, getE_ctrs hk]
  simp only [bnd_some, ctl_true, ctl_false, ctl_and, ctl_or', ctl_or2, x_toPV, x_toCs, x_toCs2, x_toEs, x_bEs, x_bCs, x_aPV, x_aCs, x_int, x_bool, x_str, x_es, x_esn, nth_0, nth_1, nth_2, nth_3, nth_4, nth_5, nth_6, nth_7, nth_8, nth_9, y_nil, y_int, y_bool, y_str, y_sl, y_nils, y_agg, y_ownp, y_own, z_nil, z_int, z_bool, z_str, z_sl, z_nils, b_nil, b_arr, b_box1, b_box2, b_box3, b_box4, List.map_cons, List.map_nil, Bool.and_self, Bool.and_true, Bool.true_and, Bool.not_true, Bool.not_false, Bool.or_false, Bool.false_or, cond_true, cond_false, okPack, okPut, okPutBlks, okPutCells, q_isP, q_isAg, q_isBox, q_isArr, q_int, q_bool, q_str, q_sl, q_nils, e_exit, e_ret, e_nrm, e_ret_exit, e_exit_ret, e_nrm_exit, e_nrm_ret, e_exit_nrm, e_ret_nrm, Nat.zero_add, Nat.reduceAdd, noslR, noslP, noslB, noslA, List.all_cons, List.all_nil, ctl_and]
  rfl

theorem riv_loop {l : List Ct} {R : List (List Bool)} {i : Nat} {c : Ct} : ∀ (xs pre : List Nat), pre.length + xs.length ≤ 1000 → (∀ x ∈ xs, x < l.length) →
    lp E (denC E) 50 3 [AV.undef, AV.fn 43 [.ptr 0 0, .ptr 1 0, .ptr 2 0]] 0 { vals := [AV.sl 1 (ns (pre ++ xs)), AV.int .i64 (pre ++ xs).length, AV.int .i64 pre.length], blks := [Blk.box [AV.int .i64 (i : Int)], bpt l R, Blk.box [AV.int .i64 c.st, AV.int .i64 c.ep, AV.int .i64 c.hd]] } =
      some (if xs.any (rival l i c) = true then (Ex.ret, { vals := [AV.int .i64 (fidx (rival l i c) xs pre.length)], blks := [Blk.box [AV.int .i64 (i : Int)], bpt l R, Blk.box [AV.int .i64 c.st, AV.int .i64 c.ep, AV.int .i64 c.hd]] }) else (Ex.exit 0, { vals := [], blks := [Blk.box [AV.int .i64 (i : Int)], bpt l R, Blk.box [AV.int .i64 c.st, AV.int .i64 c.ep, AV.int .i64 c.hd]] })) := by
  intro xs
  induction xs with
  | nil =>
    intro pre hp hx
    rw [r50_0b, ctl_dec, if_neg (by simp)]
    rfl
  | cons x xs ih =>
    intro pre hp hx
    have hxl := hx x (by simp)
    have hg : (pre ++ x :: xs).getD pre.length 0 = x := by simp [List.getD]
    simp only [List.length_cons] at hp
    rw [r50_0b, ctl_dec, if_pos (by simp; omega), getE_ns (by simp), hg]
    simp only [bnd_some, ctl_true, ctl_false, ctl_and, ctl_or', ctl_or2, x_toPV, x_toCs, x_toCs2, x_toEs, x_bEs, x_bCs, x_aPV, x_aCs, x_int, x_bool, x_str, x_es, x_esn, nth_0, nth_1, nth_2, nth_3, nth_4, nth_5, nth_6, nth_7, nth_8, nth_9, y_nil, y_int, y_bool, y_str, y_sl, y_nils, y_agg, y_ownp, y_own, z_nil, z_int, z_bool, z_str, z_sl, z_nils, b_nil, b_arr, b_box1, b_box2, b_box3, b_box4, List.map_cons, List.map_nil, Bool.and_self, Bool.and_true, Bool.true_and, Bool.not_true, Bool.not_false, Bool.or_false, Bool.false_or, cond_true, cond_false, okPack, okPut, okPutBlks, okPutCells, q_isP, q_isAg, q_isBox, q_isArr, q_int, q_bool, q_str, q_sl, q_nils, e_exit, e_ret, e_nrm, e_ret_exit, e_exit_ret, e_nrm_exit, e_nrm_ret, e_exit_nrm, e_ret_nrm, Nat.zero_add, Nat.reduceAdd, noslR, noslP, noslB, noslA, List.all_cons, List.all_nil]
    rw [c_rival hxl, w64 (n := (pre.length : Int) + 1) (by omega)]
    simp only [bnd_some, ctl_true, ctl_false, ctl_and, ctl_or', ctl_or2, x_toPV, x_toCs, x_toCs2, x_toEs, x_bEs, x_bCs, x_aPV, x_aCs, x_int, x_bool, x_str, x_es, x_esn, nth_0, nth_1, nth_2, nth_3, nth_4, nth_5, nth_6, nth_7, nth_8, nth_9, y_nil, y_int, y_bool, y_str, y_sl, y_nils, y_agg, y_ownp, y_own, z_nil, z_int, z_bool, z_str, z_sl, z_nils, b_nil, b_arr, b_box1, b_box2, b_box3, b_box4, List.map_cons, List.map_nil, Bool.and_self, Bool.and_true, Bool.true_and, Bool.not_true, Bool.not_false, Bool.or_false, Bool.false_or, cond_true, cond_false, okPack, okPut, okPutBlks, okPutCells, q_isP, q_isAg, q_isBox, q_isArr, q_int, q_bool, q_str, q_sl, q_nils, e_exit, e_ret, e_nrm, e_ret_exit, e_exit_ret, e_nrm_exit, e_nrm_ret, e_exit_nrm, e_ret_nrm, Nat.zero_add, Nat.reduceAdd, noslR, noslP, noslB, noslA, List.all_cons, List.all_nil]
    rw [List.any_cons]
    unfold fidx
    cases hb : rival l i c x with
    | true => rfl
    | false =>
      have e1 : (pre.length : Int) + 1 = ((pre ++ [x]).length : Int) := by simp
      have e2 : pre ++ x :: xs = (pre ++ [x]) ++ xs := by simp
      have e3 : pre.length + 1 = (pre ++ [x]).length := by simp
      rw [ctl_false, e1, e2, ih (pre ++ [x]) (by simp; omega) fun y hy => hx y (by simp [hy])]
      simp

theorem fidx_none (p : Nat → Bool) : ∀ (xs : List Nat) (k : Nat), ¬ xs.any p = true → fidx p xs k = -1
  | [], _, _ => rfl
  | x :: xs, k, hk => by
    rw [List.any_cons, Bool.or_eq_true, not_or] at hk
    unfold fidx
    rw [if_neg hk.1, fidx_none p xs _ hk.2]

theorem c_riv {l : List Ct} {R : List (List Bool)} {i : Nat} {c : Ct} (xs : List Nat) (hn : xs.length ≤ 1000) (hx : ∀ x ∈ xs, x < l.length) :
    denC E 46 [AV.sl 1 (ns xs), AV.fn 43 [.ptr 0 0, .ptr 1 0, .ptr 2 0]] [Blk.box [AV.int .i64 (i : Int)], bpt l R, Blk.box [AV.int .i64 c.st, AV.int .i64 c.ep, AV.int .i64 c.hd]] =
      some ([RV.p (PV.bool (xs.any (rival l i c)))], [Blk.box [AV.int .i64 (i : Int)], bpt l R, Blk.box [AV.int .i64 c.st, AV.int .i64 c.ep, AV.int .i64 c.hd]]) := by
  have h := riv_loop (R := R) (i := i) (c := c) xs [] (by simpa using hn) hx
  rw [List.nil_append, List.length_nil, nc0] at h
  have h2 : denC E 50 [AV.sl 1 (ns xs), AV.fn 43 [.ptr 0 0, .ptr 1 0, .ptr 2 0]] [Blk.box [AV.int .i64 (i : Int)], bpt l R, Blk.box [AV.int .i64 c.st, AV.int .i64 c.ep, AV.int .i64 c.hd]] =
      some ([RV.p (PV.int .i64 (fidx (rival l i c) xs 0))], [Blk.box [AV.int .i64 (i : Int)], bpt l R, Blk.box [AV.int .i64 c.st, AV.int .i64 c.ep, AV.int .i64 c.hd]]) := by
    rw [denC_eq, r50b, ns_length, h]
    by_cases ha : xs.any (rival l i c) = true
    · rw [if_pos ha]
      simp only [bnd_some, ctl_true, ctl_false, ctl_and, ctl_or', ctl_or2, x_toPV, x_toCs, x_toCs2, x_toEs, x_bEs, x_bCs, x_aPV, x_aCs, x_int, x_bool, x_str, x_es, x_esn, nth_0, nth_1, nth_2, nth_3, nth_4, nth_5, nth_6, nth_7, nth_8, nth_9, y_nil, y_int, y_bool, y_str, y_sl, y_nils, y_agg, y_ownp, y_own, z_nil, z_int, z_bool, z_str, z_sl, z_nils, b_nil, b_arr, b_box1, b_box2, b_box3, b_box4, List.map_cons, List.map_nil, Bool.and_self, Bool.and_true, Bool.true_and, Bool.not_true, Bool.not_false, Bool.or_false, Bool.false_or, cond_true, cond_false, okPack, okPut, okPutBlks, okPutCells, q_isP, q_isAg, q_isBox, q_isArr, q_int, q_bool, q_str, q_sl, q_nils, e_exit, e_ret, e_nrm, e_ret_exit, e_exit_ret, e_nrm_exit, e_nrm_ret, e_exit_nrm, e_ret_nrm, Nat.zero_add, Nat.reduceAdd, noslR, noslP, noslB, noslA, List.all_cons, List.all_nil]
    · rw [if_neg ha, fidx_none _ _ _ ha]
      simp only [bnd_some, ctl_true, ctl_false, ctl_and, ctl_or', ctl_or2, x_toPV, x_toCs, x_toCs2, x_toEs, x_bEs, x_bCs, x_aPV, x_aCs, x_int, x_bool, x_str, x_es, x_esn, nth_0, nth_1, nth_2, nth_3, nth_4, nth_5, nth_6, nth_7, nth_8, nth_9, y_nil, y_int, y_bool, y_str, y_sl, y_nils, y_agg, y_ownp, y_own, z_nil, z_int, z_bool, z_str, z_sl, z_nils, b_nil, b_arr, b_box1, b_box2, b_box3, b_box4, List.map_cons, List.map_nil, Bool.and_self, Bool.and_true, Bool.true_and, Bool.not_true, Bool.not_false, Bool.or_false, Bool.false_or, cond_true, cond_false, okPack, okPut, okPutBlks, okPutCells, q_isP, q_isAg, q_isBox, q_isArr, q_int, q_bool, q_str, q_sl, q_nils, e_exit, e_ret, e_nrm, e_ret_exit, e_exit_ret, e_nrm_exit, e_nrm_ret, e_exit_nrm, e_ret_nrm, Nat.zero_add, Nat.reduceAdd, noslR, noslP, noslB, noslA, List.all_cons, List.all_nil]
  rw [denC_eq, r46b, h2]
  simp only [bnd_some, ctl_true, ctl_false, ctl_and, ctl_or', ctl_or2, x_toPV, x_toCs, x_toCs2, x_toEs, x_bEs, x_bCs, x_aPV, x_aCs, x_int, x_bool, x_str, x_es, x_esn, nth_0, nth_1, nth_2, nth_3, nth_4, nth_5, nth_6, nth_7, nth_8, nth_9, y_nil, y_int, y_bool, y_str, y_sl, y_nils, y_agg, y_ownp, y_own, z_nil, z_int, z_bool, z_str, z_sl, z_nils, b_nil, b_arr, b_box1, b_box2, b_box3, b_box4, List.map_cons, List.map_nil, Bool.and_self, Bool.and_true, Bool.true_and, Bool.not_true, Bool.not_false, Bool.or_false, Bool.false_or, cond_true, cond_false, okPack, okPut, okPutBlks, okPutCells, q_isP, q_isAg, q_isBox, q_isArr, q_int, q_bool, q_str, q_sl, q_nils, e_exit, e_ret, e_nrm, e_ret_exit, e_exit_ret, e_nrm_exit, e_nrm_ret, e_exit_nrm, e_ret_nrm, Nat.zero_add, Nat.reduceAdd, noslR, noslP, noslB, noslA, List.all_cons, List.all_nil]
  rw [fidx_any]

theorem c_yield {l b : List Ct} {R : List (List Bool)} (hS : Sq l R) {i : Nat} (hi : i < l.length) (hb : b.length = l.length) (c : Ct) : denC E 42 [AV.int .i64 (i : Int), ctA c, AV.t (.ptr 0 0), AV.t (.ptr 1 0)] [bpt l R, bpt b R] =
    some ([RV.agg (ctr (yieldC l R b i c))], [bpt l R, bpt b R]) := by
  have h5 := hS.n5
  have hl := hears_len (l := l) (R := R) i
  rw [denC_eq, r42, c_act hi, c_hears hS hi]
  simp only [bnd_some, ctl_true, ctl_false, ctl_and, ctl_or', ctl_or2, x_toPV, x_toCs, x_toCs2, x_toEs, x_bEs, x_bCs, x_aPV, x_aCs, x_int, x_bool, x_str, x_es, x_esn, nth_0, nth_1, nth_2, nth_3, nth_4, nth_5, nth_6, nth_7, nth_8, nth_9, y_nil, y_int, y_bool, y_str, y_sl, y_nils, y_agg, y_ownp, y_own, z_nil, z_int, z_bool, z_str, z_sl, z_nils, b_nil, b_arr, b_box1, b_box2, b_box3, b_box4, List.map_cons, List.map_nil, Bool.and_self, Bool.and_true, Bool.true_and, Bool.not_true, Bool.not_false, Bool.or_false, Bool.false_or, cond_true, cond_false, okPack, okPut, okPutBlks, okPutCells, q_isP, q_isAg, q_isBox, q_isArr, q_int, q_bool, q_str, q_sl, q_nils, e_exit, e_ret, e_nrm, e_ret_exit, e_exit_ret, e_nrm_exit, e_nrm_ret, e_exit_nrm, e_ret_nrm, Nat.zero_add, Nat.reduceAdd, noslR, noslP, noslB, noslA, List.all_cons, List.all_nil]
  rw [ns_length, c_maj (by omega), getE_ctrs (by omega), c_riv _ (by omega) fun x hx => hears_lt hx]
  simp only [bnd_some, ctl_true, ctl_false, ctl_and, ctl_or', ctl_or2, x_toPV, x_toCs, x_toCs2, x_toEs, x_bEs, x_bCs, x_aPV, x_aCs, x_int, x_bool, x_str, x_es, x_esn, nth_0, nth_1, nth_2, nth_3, nth_4, nth_5, nth_6, nth_7, nth_8, nth_9, y_nil, y_int, y_bool, y_str, y_sl, y_nils, y_agg, y_ownp, y_own, z_nil, z_int, z_bool, z_str, z_sl, z_nils, b_nil, b_arr, b_box1, b_box2, b_box3, b_box4, List.map_cons, List.map_nil, Bool.and_self, Bool.and_true, Bool.true_and, Bool.not_true, Bool.not_false, Bool.or_false, Bool.false_or, cond_true, cond_false, okPack, okPut, okPutBlks, okPutCells, q_isP, q_isAg, q_isBox, q_isArr, q_int, q_bool, q_str, q_sl, q_nils, e_exit, e_ret, e_nrm, e_ret_exit, e_exit_ret, e_nrm_exit, e_nrm_ret, e_exit_nrm, e_ret_nrm, Nat.zero_add, Nat.reduceAdd, noslR, noslP, noslB, noslA, List.all_cons, List.all_nil, Bool.not_not]
  unfold yieldC yieldB
  cases actB l i with
  | false => rfl
  | true =>
    cases maj l (hearsL l R i).length with
    | false => rfl
    | true =>
      rw [show ltB (gt b i).ep c.ep = decide ((gt b i).ep < c.ep) from rfl]
      generalize decide ((gt b i).ep < c.ep) = d
      generalize (hearsL l R i).any (rival l i c) = a
      cases d <;> cases a <;> rfl

end Go.Proofs.Ythmhnnppikdafaa.Vm
