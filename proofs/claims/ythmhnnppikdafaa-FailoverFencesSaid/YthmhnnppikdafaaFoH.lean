/- Chapter 33: contracts: Check, Tick, Heard, Crash, Fence, New. -/
import Derived.Test.YthmhnnppikdafaaFoG
namespace Go.Proofs.Ythmhnnppikdafaa.Vm
set_option linter.unusedVariables false
set_option linter.unusedSimpArgs false

def okC (t : Int) (c : Ct) : Prop := (0 ≤ c.st ∧ c.st ≤ 2) ∧ (0 ≤ c.ep ∧ c.ep ≤ 2147483648) ∧ (0 ≤ c.hd ∧ c.hd ≤ t)
structure Val (l : List Ct) (t : Int) : Prop where
  n1 : 1 ≤ l.length
  n5 : l.length ≤ 5
  c : ∀ i, i < l.length → okC t (gt l i)

theorem Val.bd {l : List Ct} {t : Int} (h : Val l t) (ht : t ≤ 2147483648) : Bd l :=
  ⟨fun i hi => (h.c i hi).2.1.1, fun i hi => (h.c i hi).2.1.2, fun i hi => (h.c i hi).2.2.1, fun i hi => by have := (h.c i hi).2.2.2; omega⟩
theorem Val.each {l : List Ct} {t : Int} (h : Val l t) {f : Nat → Ct → Ct} (hf : ∀ i c, i < l.length → okC t c → okC t (f i c)) : Val (eachL l f) t := by
  refine ⟨by rw [eachL_length]; exact h.n1, by rw [eachL_length]; exact h.n5, fun i hi => ?_⟩
  rw [eachL_length] at hi
  rw [gt_each hi]
  unfold eachC
  split
  · exact hf i _ hi (h.c i hi)
  · exact h.c i hi
theorem Val.t1 {l : List Ct} {R} {t : Int} (h : Val l t) (ht : t ≤ 2147483648) : Val (t1 l R) t := h.each fun i c hi hc => ⟨hc.1, great_bd (h.bd ht) _ 0 (fun x hx => hears_lt hx) (by omega), hc.2.2⟩
theorem Val.t2 {l : List Ct} {R} {t : Int} (h : Val l t) (ht : t ≤ 2147483648) : Val (t2 l R) t := (h.t1 ht).each fun i c hi hc => by
  unfold yieldC
  split
  · exact ⟨by simp, hc.2⟩
  · exact hc
theorem Val.t3 {l : List Ct} {R} {t : Int} (h : Val l t) (ht : 0 ≤ t ∧ t ≤ 2147483648) : Val (t3 l R t) t := (h.t2 ht.2).each fun i c hi hc => by
  unfold listenC
  split
  · exact ⟨hc.1, hc.2.1, ht.1, Int.le_refl t⟩
  · exact hc

theorem check_loop {l : List Ct} {t : Int} (hV : Val l t) : ∀ (m k : Nat), k + m = l.length →
    lp E (denC E) 39 0 [] 0 { vals := [AV.int .i64 t, AV.sl 3 (ctrs l), AV.int .i64 l.length, AV.int .i64 k], blks := [] } = some (Ex.exit 0, { vals := [], blks := [] }) := by
  have h5 := hV.n5
  intro m
  induction m with
  | zero =>
    intro k hk
    rw [r39_0, ctl_dec, if_neg (by omega)]
  | succ m ih =>
    intro k hk
    have hkl : k < l.length := by omega
    obtain ⟨h1, h2, h3⟩ := hV.c k hkl
    rw [r39_0, ctl_dec, if_pos (by omega), getE_ctrs hkl]
    simp only [bnd_some, ctl_true, ctl_false, ctl_and, ctl_or', ctl_or2, x_toPV, x_toCs, x_toCs2, x_toEs, x_bEs, x_bCs, x_aPV, x_aCs, x_int, x_bool, x_str, x_es, x_esn, nth_0, nth_1, nth_2, nth_3, nth_4, nth_5, nth_6, nth_7, nth_8, nth_9, y_nil, y_int, y_bool, y_str, y_sl, y_nils, y_agg, y_ownp, y_own, z_nil, z_int, z_bool, z_str, z_sl, z_nils, b_nil, b_arr, b_box1, b_box2, b_box3, b_box4, List.map_cons, List.map_nil, Bool.and_self, Bool.and_true, Bool.true_and, Bool.not_true, Bool.not_false, Bool.or_false, Bool.false_or, cond_true, cond_false, okPack, okPut, okPutBlks, okPutCells, q_isP, q_isAg, q_isBox, q_isArr, q_int, q_bool, q_str, q_sl, q_nils, e_exit, e_ret, e_nrm, e_ret_exit, e_exit_ret, e_nrm_exit, e_nrm_ret, e_exit_nrm, e_ret_nrm, Nat.zero_add, Nat.reduceAdd, noslR, noslP, noslB, noslA, List.all_cons, List.all_nil, ctl_or']
    have e1 : ltB (gt l k).st 0 = false := by simp only [decide_eq_false_iff_not]; omega
    have e2 : ltB 2 (gt l k).st = false := by simp only [decide_eq_false_iff_not]; omega
    have e3 : ltB (gt l k).ep 0 = false := by simp only [decide_eq_false_iff_not]; omega
    have e4 : ltB 2147483648 (gt l k).ep = false := by simp only [decide_eq_false_iff_not]; omega
    have e5 : ltB (gt l k).hd 0 = false := by simp only [decide_eq_false_iff_not]; omega
    have e6 : ltB t (gt l k).hd = false := by simp only [decide_eq_false_iff_not]; omega
    rw [e1, e2, e3, e4, e5, e6, w64 (n := (k : Int) + 1) (by omega), succ_cast]
    exact ih (k + 1) (by omega)

theorem c_Check {l : List Ct} {t : Int} (hV : Val l t) : denC E 39 [AV.sl 3 (ctrs l), AV.int .i64 t] [] = some ([RV.p (PV.int .i64 0)], []) := by
  have h := check_loop hV l.length 0 (by omega)
  have h1 := hV.n1
  have h5 := hV.n5
  rw [nc0] at h
  have e1 : ltB (l.length : Int) 1 = false := by simp only [decide_eq_false_iff_not]; omega
  have e2 : ltB 5 (l.length : Int) = false := by simp only [decide_eq_false_iff_not]; omega
  rw [denC_eq, r39, ctrs_length, e1, e2, h]
  simp only [bnd_some, ctl_true, ctl_false, ctl_and, ctl_or', ctl_or2, x_toPV, x_toCs, x_toCs2, x_toEs, x_bEs, x_bCs, x_aPV, x_aCs, x_int, x_bool, x_str, x_es, x_esn, nth_0, nth_1, nth_2, nth_3, nth_4, nth_5, nth_6, nth_7, nth_8, nth_9, y_nil, y_int, y_bool, y_str, y_sl, y_nils, y_agg, y_ownp, y_own, z_nil, z_int, z_bool, z_str, z_sl, z_nils, b_nil, b_arr, b_box1, b_box2, b_box3, b_box4, List.map_cons, List.map_nil, Bool.and_self, Bool.and_true, Bool.true_and, Bool.not_true, Bool.not_false, Bool.or_false, Bool.false_or, cond_true, cond_false, okPack, okPut, okPutBlks, okPutCells, q_isP, q_isAg, q_isBox, q_isArr, q_int, q_bool, q_str, q_sl, q_nils, e_exit, e_ret, e_nrm, e_ret_exit, e_exit_ret, e_nrm_exit, e_nrm_ret, e_exit_nrm, e_ret_nrm, Nat.zero_add, Nat.reduceAdd, noslR, noslP, noslB, noslA, List.all_cons, List.all_nil]

theorem shape_loop {l : List Ct} : ∀ (xs pre : List (List Bool)), pre.length + xs.length ≤ 1000 → (∀ r ∈ xs, r.length = l.length) →
    lp E (denC E) 66 1 [AV.undef, AV.fn 62 [.ptr 0 0]] 0 { vals := [AV.sl 1 (rch (pre ++ xs)), AV.int .i64 (pre ++ xs).length, AV.int .i64 pre.length], blks := [Blk.box [AV.sl 3 (ctrs l)]] } =
      some (Ex.exit 0, { vals := [], blks := [Blk.box [AV.sl 3 (ctrs l)]] }) := by
  intro xs
  induction xs with
  | nil =>
    intro pre hp hx
    rw [r66_0a, ctl_dec, if_neg (by simp)]
  | cons x xs ih =>
    intro pre hp hx
    have hxl := hx x (by simp)
    have hg : (pre ++ x :: xs).getD pre.length [] = x := by simp [List.getD]
    simp only [List.length_cons] at hp
    have hc : denC E 62 [AV.sl 1 (brow x), AV.t (.ptr 0 0)] [Blk.box [AV.sl 3 (ctrs l)]] = some ([RV.p (PV.bool false)], [Blk.box [AV.sl 3 (ctrs l)]]) := by
      rw [denC_eq, r62, ctrs_length, List.length_map, hxl]
      simp
    have e1 : (pre.length : Int) + 1 = ((pre ++ [x]).length : Int) := by simp
    have e2 : pre ++ x :: xs = (pre ++ [x]) ++ xs := by simp
    rw [r66_0a, ctl_dec, if_pos (by simp; omega), getE_rch (by simp), hg]
    simp only [bnd_some, ctl_true, ctl_false, ctl_and, ctl_or', ctl_or2, x_toPV, x_toCs, x_toCs2, x_toEs, x_bEs, x_bCs, x_aPV, x_aCs, x_int, x_bool, x_str, x_es, x_esn, nth_0, nth_1, nth_2, nth_3, nth_4, nth_5, nth_6, nth_7, nth_8, nth_9, y_nil, y_int, y_bool, y_str, y_sl, y_nils, y_agg, y_ownp, y_own, z_nil, z_int, z_bool, z_str, z_sl, z_nils, b_nil, b_arr, b_box1, b_box2, b_box3, b_box4, List.map_cons, List.map_nil, Bool.and_self, Bool.and_true, Bool.true_and, Bool.not_true, Bool.not_false, Bool.or_false, Bool.false_or, cond_true, cond_false, okPack, okPut, okPutBlks, okPutCells, q_isP, q_isAg, q_isBox, q_isArr, q_int, q_bool, q_str, q_sl, q_nils, e_exit, e_ret, e_nrm, e_ret_exit, e_exit_ret, e_nrm_exit, e_nrm_ret, e_exit_nrm, e_ret_nrm, Nat.zero_add, Nat.reduceAdd, noslR, noslP, noslB, noslA, List.all_cons, List.all_nil]
    rw [hc, w64 (n := (pre.length : Int) + 1) (by omega)]
    simp only [bnd_some, ctl_true, ctl_false, ctl_and, ctl_or', ctl_or2, x_toPV, x_toCs, x_toCs2, x_toEs, x_bEs, x_bCs, x_aPV, x_aCs, x_int, x_bool, x_str, x_es, x_esn, nth_0, nth_1, nth_2, nth_3, nth_4, nth_5, nth_6, nth_7, nth_8, nth_9, y_nil, y_int, y_bool, y_str, y_sl, y_nils, y_agg, y_ownp, y_own, z_nil, z_int, z_bool, z_str, z_sl, z_nils, b_nil, b_arr, b_box1, b_box2, b_box3, b_box4, List.map_cons, List.map_nil, Bool.and_self, Bool.and_true, Bool.true_and, Bool.not_true, Bool.not_false, Bool.or_false, Bool.false_or, cond_true, cond_false, okPack, okPut, okPutBlks, okPutCells, q_isP, q_isAg, q_isBox, q_isArr, q_int, q_bool, q_str, q_sl, q_nils, e_exit, e_ret, e_nrm, e_ret_exit, e_exit_ret, e_nrm_exit, e_nrm_ret, e_exit_nrm, e_ret_nrm, Nat.zero_add, Nat.reduceAdd, noslR, noslP, noslB, noslA, List.all_cons, List.all_nil]
    rw [e1, e2]
    exact ih (pre ++ [x]) (by simp; omega) fun y hy => hx y (by simp [hy])

theorem Sq.rows {l : List Ct} {R : List (List Bool)} (h : Sq l R) : ∀ r ∈ R, r.length = l.length := by
  intro r hr
  obtain ⟨i, hi, rfl⟩ := List.getElem_of_mem hr
  have := h.c i (by rw [← h.r]; exact hi)
  simpa [List.getD, hi] using this

theorem c_shaped {l : List Ct} {R : List (List Bool)} (h : Sq l R) : denC E 35 [AV.sl 3 (ctrs l), AV.sl 1 (rch R)] [] = some ([RV.p (PV.bool true)], []) := by
  have h5 := h.n5
  have hl := shape_loop (l := l) R [] (by have := h.r; simp; omega) h.rows
  rw [List.nil_append, List.length_nil, nc0] at hl
  have h1 : denC E 66 [AV.sl 1 (rch R), AV.fn 62 [.ptr 0 0]] [Blk.box [AV.sl 3 (ctrs l)]] = some ([RV.p (PV.int .i64 (-1))], [Blk.box [AV.sl 3 (ctrs l)]]) := by
    rw [denC_eq, r66a, rch_length, hl]
    simp only [bnd_some, ctl_true, ctl_false, ctl_and, ctl_or', ctl_or2, x_toPV, x_toCs, x_toCs2, x_toEs, x_bEs, x_bCs, x_aPV, x_aCs, x_int, x_bool, x_str, x_es, x_esn, nth_0, nth_1, nth_2, nth_3, nth_4, nth_5, nth_6, nth_7, nth_8, nth_9, y_nil, y_int, y_bool, y_str, y_sl, y_nils, y_agg, y_ownp, y_own, z_nil, z_int, z_bool, z_str, z_sl, z_nils, b_nil, b_arr, b_box1, b_box2, b_box3, b_box4, List.map_cons, List.map_nil, Bool.and_self, Bool.and_true, Bool.true_and, Bool.not_true, Bool.not_false, Bool.or_false, Bool.false_or, cond_true, cond_false, okPack, okPut, okPutBlks, okPutCells, q_isP, q_isAg, q_isBox, q_isArr, q_int, q_bool, q_str, q_sl, q_nils, e_exit, e_ret, e_nrm, e_ret_exit, e_exit_ret, e_nrm_exit, e_nrm_ret, e_exit_nrm, e_ret_nrm, Nat.zero_add, Nat.reduceAdd, noslR, noslP, noslB, noslA, List.all_cons, List.all_nil]
  have h2 : denC E 61 [AV.sl 1 (rch R), AV.fn 62 [.ptr 0 0]] [Blk.box [AV.sl 3 (ctrs l)]] = some ([RV.p (PV.bool false)], [Blk.box [AV.sl 3 (ctrs l)]]) := by
    rw [denC_eq, r61a, h1]
    rfl
  rw [denC_eq, r35, rch_length, ctrs_length, h.r, h2]
  simp only [bnd_some, ctl_true, ctl_false, ctl_and, ctl_or', ctl_or2, x_toPV, x_toCs, x_toCs2, x_toEs, x_bEs, x_bCs, x_aPV, x_aCs, x_int, x_bool, x_str, x_es, x_esn, nth_0, nth_1, nth_2, nth_3, nth_4, nth_5, nth_6, nth_7, nth_8, nth_9, y_nil, y_int, y_bool, y_str, y_sl, y_nils, y_agg, y_ownp, y_own, z_nil, z_int, z_bool, z_str, z_sl, z_nils, b_nil, b_arr, b_box1, b_box2, b_box3, b_box4, List.map_cons, List.map_nil, Bool.and_self, Bool.and_true, Bool.true_and, Bool.not_true, Bool.not_false, Bool.or_false, Bool.false_or, cond_true, cond_false, okPack, okPut, okPutBlks, okPutCells, q_isP, q_isAg, q_isBox, q_isArr, q_int, q_bool, q_str, q_sl, q_nils, e_exit, e_ret, e_nrm, e_ret_exit, e_exit_ret, e_nrm_exit, e_nrm_ret, e_exit_nrm, e_ret_nrm, Nat.zero_add, Nat.reduceAdd, noslR, noslP, noslB, noslA, List.all_cons, List.all_nil, beq_self_eq_true]

theorem c_check {l : List Ct} {R : List (List Bool)} {t d : Int} (hV : Val l t) (hS : Sq l R) (ht : 0 ≤ t ∧ t ≤ 2147483648) (hd : 0 ≤ d ∧ d ≤ 600) : denC E 27 [AV.sl 3 (ctrs l), AV.sl 1 (rch R), AV.int .i64 t, AV.int .i64 d] [] = some ([RV.p (PV.int .i64 0)], []) := by
  have e1 : ltB t 0 = false := by simp only [decide_eq_false_iff_not]; omega
  have e2 : ltB 2147483648 t = false := by simp only [decide_eq_false_iff_not]; omega
  have e3 : ltB d 0 = false := by simp only [decide_eq_false_iff_not]; omega
  have e4 : ltB 600 d = false := by simp only [decide_eq_false_iff_not]; omega
  rw [denC_eq, r27, c_Check hV, c_shaped hS, e1, e2, e3, e4]
  rfl

theorem c_Tick {l : List Ct} {R : List (List Bool)} {t d : Int} (hV : Val l t) (hS : Sq l R) (ht : 0 ≤ t ∧ t ≤ 2147483648) (hd : 0 ≤ d ∧ d ≤ 600) :
    denC E 13 [AV.sl 3 (ctrs l), AV.sl 1 (rch R), AV.int .i64 t, AV.int .i64 d] [] = some (match electM (t3 l R t) R t d with
      | some o => ([RV.p (PV.sl 3 (ctrs o)), RV.p (PV.int .i64 0)], [])
      | none => ([RV.p (PV.sl 3 []), RV.p (PV.int .i64 2)], [])) := by
  have s1 : Sq (t1 l R) R := hS.each _
  have s2 : Sq (t2 l R) R := s1.each _
  have s3 : Sq (t3 l R t) R := s2.each _
  have hb : l.length = (t1 l R).length := by unfold t1; rw [eachL_length]
  have hE := c_elect s3 ((hV.t3 (R := R) ht).bd ht.2) (t := t) (d := d) ht
  rw [denC_eq, r13, c_check hV hS ht hd]
  simp only [bnd_some, ctl_true, ctl_false, ctl_and, ctl_or', ctl_or2, x_toPV, x_toCs, x_toCs2, x_toEs, x_bEs, x_bCs, x_aPV, x_aCs, x_int, x_bool, x_str, x_es, x_esn, nth_0, nth_1, nth_2, nth_3, nth_4, nth_5, nth_6, nth_7, nth_8, nth_9, y_nil, y_int, y_bool, y_str, y_sl, y_nils, y_agg, y_ownp, y_own, z_nil, z_int, z_bool, z_str, z_sl, z_nils, b_nil, b_arr, b_box1, b_box2, b_box3, b_box4, List.map_cons, List.map_nil, Bool.and_self, Bool.and_true, Bool.true_and, Bool.not_true, Bool.not_false, Bool.or_false, Bool.false_or, cond_true, cond_false, okPack, okPut, okPutBlks, okPutCells, q_isP, q_isAg, q_isBox, q_isArr, q_int, q_bool, q_str, q_sl, q_nils, e_exit, e_ret, e_nrm, e_ret_exit, e_exit_ret, e_nrm_exit, e_nrm_ret, e_exit_nrm, e_ret_nrm, Nat.zero_add, Nat.reduceAdd, noslR, noslP, noslB, noslA, List.all_cons, List.all_nil]
  rw [show ((0 : Int) != 0) = false from rfl, ctl_false, c_each_l hS]
  simp only [bnd_some, ctl_true, ctl_false, ctl_and, ctl_or', ctl_or2, x_toPV, x_toCs, x_toCs2, x_toEs, x_bEs, x_bCs, x_aPV, x_aCs, x_int, x_bool, x_str, x_es, x_esn, nth_0, nth_1, nth_2, nth_3, nth_4, nth_5, nth_6, nth_7, nth_8, nth_9, y_nil, y_int, y_bool, y_str, y_sl, y_nils, y_agg, y_ownp, y_own, z_nil, z_int, z_bool, z_str, z_sl, z_nils, b_nil, b_arr, b_box1, b_box2, b_box3, b_box4, List.map_cons, List.map_nil, Bool.and_self, Bool.and_true, Bool.true_and, Bool.not_true, Bool.not_false, Bool.or_false, Bool.false_or, cond_true, cond_false, okPack, okPut, okPutBlks, okPutCells, q_isP, q_isAg, q_isBox, q_isArr, q_int, q_bool, q_str, q_sl, q_nils, e_exit, e_ret, e_nrm, e_ret_exit, e_exit_ret, e_nrm_exit, e_nrm_ret, e_exit_nrm, e_ret_nrm, Nat.zero_add, Nat.reduceAdd, noslR, noslP, noslB, noslA, List.all_cons, List.all_nil]
  have hy : denC E 28 [pty (t1 l R) R, AV.fn 42 [.ptr 0 0, .ptr 1 0]] [bpt (t1 l R) R, bpt l R] = some ([RV.agg [PV.sl 3 (ctrs (t2 l R)), PV.sl 1 (rch R)]], [bpt (t1 l R) R, bpt l R]) := c_each_y s1 hb
  have hh : denC E 28 [pty (t2 l R) R, AV.fn 47 [.ptr 0 0, .ptr 1 0]] [bpt (t2 l R) R, Blk.box [AV.int .i64 t]] = some ([RV.agg [PV.sl 3 (ctrs (t3 l R t)), PV.sl 1 (rch R)]], [bpt (t2 l R) R, Blk.box [AV.int .i64 t]]) := c_each_h s2 t
  rw [show eachL l (learnC l R) = t1 l R from rfl, hy]
  simp only [bnd_some, ctl_true, ctl_false, ctl_and, ctl_or', ctl_or2, x_toPV, x_toCs, x_toCs2, x_toEs, x_bEs, x_bCs, x_aPV, x_aCs, x_int, x_bool, x_str, x_es, x_esn, nth_0, nth_1, nth_2, nth_3, nth_4, nth_5, nth_6, nth_7, nth_8, nth_9, y_nil, y_int, y_bool, y_str, y_sl, y_nils, y_agg, y_ownp, y_own, z_nil, z_int, z_bool, z_str, z_sl, z_nils, b_nil, b_arr, b_box1, b_box2, b_box3, b_box4, List.map_cons, List.map_nil, Bool.and_self, Bool.and_true, Bool.true_and, Bool.not_true, Bool.not_false, Bool.or_false, Bool.false_or, cond_true, cond_false, okPack, okPut, okPutBlks, okPutCells, q_isP, q_isAg, q_isBox, q_isArr, q_int, q_bool, q_str, q_sl, q_nils, e_exit, e_ret, e_nrm, e_ret_exit, e_exit_ret, e_nrm_exit, e_nrm_ret, e_exit_nrm, e_ret_nrm, Nat.zero_add, Nat.reduceAdd, noslR, noslP, noslB, noslA, List.all_cons, List.all_nil]
  rw [hh]
  simp only [bnd_some, ctl_true, ctl_false, ctl_and, ctl_or', ctl_or2, x_toPV, x_toCs, x_toCs2, x_toEs, x_bEs, x_bCs, x_aPV, x_aCs, x_int, x_bool, x_str, x_es, x_esn, nth_0, nth_1, nth_2, nth_3, nth_4, nth_5, nth_6, nth_7, nth_8, nth_9, y_nil, y_int, y_bool, y_str, y_sl, y_nils, y_agg, y_ownp, y_own, z_nil, z_int, z_bool, z_str, z_sl, z_nils, b_nil, b_arr, b_box1, b_box2, b_box3, b_box4, List.map_cons, List.map_nil, Bool.and_self, Bool.and_true, Bool.true_and, Bool.not_true, Bool.not_false, Bool.or_false, Bool.false_or, cond_true, cond_false, okPack, okPut, okPutBlks, okPutCells, q_isP, q_isAg, q_isBox, q_isArr, q_int, q_bool, q_str, q_sl, q_nils, e_exit, e_ret, e_nrm, e_ret_exit, e_exit_ret, e_nrm_exit, e_nrm_ret, e_exit_nrm, e_ret_nrm, Nat.zero_add, Nat.reduceAdd, noslR, noslP, noslB, noslA, List.all_cons, List.all_nil]
  rw [hE]
  cases electM (t3 l R t) R t d <;> rfl

theorem c_Heard {l : List Ct} {R : List (List Bool)} (hS : Sq l R) {i : Nat} (hi : i < l.length) : denC E 22 [AV.sl 3 (ctrs l), AV.sl 1 (rch R), AV.int .i64 (i : Int)] [] = some ([RV.p (PV.sl 1 (ns (hearsL l R i)))], []) := by
  have e1 : ltB (i : Int) 0 = false := by simp only [decide_eq_false_iff_not]; omega
  have e2 : leB (l.length : Int) (i : Int) = false := by simp only [decide_eq_false_iff_not]; omega
  rw [denC_eq, r22, c_shaped hS]
  simp only [bnd_some, ctl_true, ctl_false, ctl_and, ctl_or', ctl_or2, x_toPV, x_toCs, x_toCs2, x_toEs, x_bEs, x_bCs, x_aPV, x_aCs, x_int, x_bool, x_str, x_es, x_esn, nth_0, nth_1, nth_2, nth_3, nth_4, nth_5, nth_6, nth_7, nth_8, nth_9, y_nil, y_int, y_bool, y_str, y_sl, y_nils, y_agg, y_ownp, y_own, z_nil, z_int, z_bool, z_str, z_sl, z_nils, b_nil, b_arr, b_box1, b_box2, b_box3, b_box4, List.map_cons, List.map_nil, Bool.and_self, Bool.and_true, Bool.true_and, Bool.not_true, Bool.not_false, Bool.or_false, Bool.false_or, cond_true, cond_false, okPack, okPut, okPutBlks, okPutCells, q_isP, q_isAg, q_isBox, q_isArr, q_int, q_bool, q_str, q_sl, q_nils, e_exit, e_ret, e_nrm, e_ret_exit, e_exit_ret, e_nrm_exit, e_nrm_ret, e_exit_nrm, e_ret_nrm, Nat.zero_add, Nat.reduceAdd, noslR, noslP, noslB, noslA, List.all_cons, List.all_nil]
  rw [ctrs_length, e1, e2]
  simp only [bnd_some, ctl_true, ctl_false, ctl_and, ctl_or', ctl_or2, x_toPV, x_toCs, x_toCs2, x_toEs, x_bEs, x_bCs, x_aPV, x_aCs, x_int, x_bool, x_str, x_es, x_esn, nth_0, nth_1, nth_2, nth_3, nth_4, nth_5, nth_6, nth_7, nth_8, nth_9, y_nil, y_int, y_bool, y_str, y_sl, y_nils, y_agg, y_ownp, y_own, z_nil, z_int, z_bool, z_str, z_sl, z_nils, b_nil, b_arr, b_box1, b_box2, b_box3, b_box4, List.map_cons, List.map_nil, Bool.and_self, Bool.and_true, Bool.true_and, Bool.not_true, Bool.not_false, Bool.or_false, Bool.false_or, cond_true, cond_false, okPack, okPut, okPutBlks, okPutCells, q_isP, q_isAg, q_isBox, q_isArr, q_int, q_bool, q_str, q_sl, q_nils, e_exit, e_ret, e_nrm, e_ret_exit, e_exit_ret, e_nrm_exit, e_nrm_ret, e_exit_nrm, e_ret_nrm, Nat.zero_add, Nat.reduceAdd, noslR, noslP, noslB, noslA, List.all_cons, List.all_nil]
  rw [c_hears hS hi]
  simp only [bnd_some, ctl_true, ctl_false, ctl_and, ctl_or', ctl_or2, x_toPV, x_toCs, x_toCs2, x_toEs, x_bEs, x_bCs, x_aPV, x_aCs, x_int, x_bool, x_str, x_es, x_esn, nth_0, nth_1, nth_2, nth_3, nth_4, nth_5, nth_6, nth_7, nth_8, nth_9, y_nil, y_int, y_bool, y_str, y_sl, y_nils, y_agg, y_ownp, y_own, z_nil, z_int, z_bool, z_str, z_sl, z_nils, b_nil, b_arr, b_box1, b_box2, b_box3, b_box4, List.map_cons, List.map_nil, Bool.and_self, Bool.and_true, Bool.true_and, Bool.not_true, Bool.not_false, Bool.or_false, Bool.false_or, cond_true, cond_false, okPack, okPut, okPutBlks, okPutCells, q_isP, q_isAg, q_isBox, q_isArr, q_int, q_bool, q_str, q_sl, q_nils, e_exit, e_ret, e_nrm, e_ret_exit, e_exit_ret, e_nrm_exit, e_nrm_ret, e_exit_nrm, e_ret_nrm, Nat.zero_add, Nat.reduceAdd, noslR, noslP, noslB, noslA, List.all_cons, List.all_nil]

theorem c_Fence {e c : Int} (he : 0 ≤ e ∧ e ≤ 2147483648) (hc : 0 ≤ c ∧ c ≤ 2147483648) : denC E 21 [AV.int .i64 e, AV.int .i64 c] [] = some (if c < e then ([RV.p (PV.int .i64 0), RV.p (PV.int .i64 69)], []) else ([RV.p (PV.int .i64 c), RV.p (PV.int .i64 0)], [])) := by
  have e1 : ltB e 0 = false := by simp only [decide_eq_false_iff_not]; omega
  have e2 : ltB 2147483648 e = false := by simp only [decide_eq_false_iff_not]; omega
  have e3 : ltB c 0 = false := by simp only [decide_eq_false_iff_not]; omega
  have e4 : ltB 2147483648 c = false := by simp only [decide_eq_false_iff_not]; omega
  rw [denC_eq, r21, e1, e2, e3, e4]
  simp only [bnd_some, ctl_true, ctl_false, ctl_and, ctl_or', ctl_or2, x_toPV, x_toCs, x_toCs2, x_toEs, x_bEs, x_bCs, x_aPV, x_aCs, x_int, x_bool, x_str, x_es, x_esn, nth_0, nth_1, nth_2, nth_3, nth_4, nth_5, nth_6, nth_7, nth_8, nth_9, y_nil, y_int, y_bool, y_str, y_sl, y_nils, y_agg, y_ownp, y_own, z_nil, z_int, z_bool, z_str, z_sl, z_nils, b_nil, b_arr, b_box1, b_box2, b_box3, b_box4, List.map_cons, List.map_nil, Bool.and_self, Bool.and_true, Bool.true_and, Bool.not_true, Bool.not_false, Bool.or_false, Bool.false_or, cond_true, cond_false, okPack, okPut, okPutBlks, okPutCells, q_isP, q_isAg, q_isBox, q_isArr, q_int, q_bool, q_str, q_sl, q_nils, e_exit, e_ret, e_nrm, e_ret_exit, e_exit_ret, e_nrm_exit, e_nrm_ret, e_exit_nrm, e_ret_nrm, Nat.zero_add, Nat.reduceAdd, noslR, noslP, noslB, noslA, List.all_cons, List.all_nil]
  rw [ctl_dec]
  split <;> rfl

def crashL (l : List Ct) (i : Nat) : List Ct := l.set i ⟨2, (gt l i).ep, (gt l i).hd⟩
theorem c_Crash {l : List Ct} (h1 : 1 ≤ l.length) (h5 : l.length ≤ 5) {i : Nat} (hi : i < l.length) (hu : (gt l i).st ≠ 2) : denC E 24 [AV.sl 3 (ctrs l), AV.int .i64 (i : Int)] [] = some ([RV.p (PV.sl 3 (ctrs (crashL l i))), RV.p (PV.int .i64 0)], []) := by
  have e1 : ltB (i : Int) 0 = false := by simp only [decide_eq_false_iff_not]; omega
  have e2 : leB (l.length : Int) (i : Int) = false := by simp only [decide_eq_false_iff_not]; omega
  have e3 : ((gt l i).st == 2) = false := by simpa using hu
  rw [denC_eq, r24, ctrs_length, e1, e2, getE_ctrs hi]
  simp only [bnd_some, ctl_true, ctl_false, ctl_and, ctl_or', ctl_or2, x_toPV, x_toCs, x_toCs2, x_toEs, x_bEs, x_bCs, x_aPV, x_aCs, x_int, x_bool, x_str, x_es, x_esn, nth_0, nth_1, nth_2, nth_3, nth_4, nth_5, nth_6, nth_7, nth_8, nth_9, y_nil, y_int, y_bool, y_str, y_sl, y_nils, y_agg, y_ownp, y_own, z_nil, z_int, z_bool, z_str, z_sl, z_nils, b_nil, b_arr, b_box1, b_box2, b_box3, b_box4, List.map_cons, List.map_nil, Bool.and_self, Bool.and_true, Bool.true_and, Bool.not_true, Bool.not_false, Bool.or_false, Bool.false_or, cond_true, cond_false, okPack, okPut, okPutBlks, okPutCells, q_isP, q_isAg, q_isBox, q_isArr, q_int, q_bool, q_str, q_sl, q_nils, e_exit, e_ret, e_nrm, e_ret_exit, e_exit_ret, e_nrm_exit, e_nrm_ret, e_exit_nrm, e_ret_nrm, Nat.zero_add, Nat.reduceAdd, noslR, noslP, noslB, noslA, List.all_cons, List.all_nil]
  rw [e3, c_clone3 h1 (by omega)]
  simp only [bnd_some, ctl_true, ctl_false, ctl_and, ctl_or', ctl_or2, x_toPV, x_toCs, x_toCs2, x_toEs, x_bEs, x_bCs, x_aPV, x_aCs, x_int, x_bool, x_str, x_es, x_esn, nth_0, nth_1, nth_2, nth_3, nth_4, nth_5, nth_6, nth_7, nth_8, nth_9, y_nil, y_int, y_bool, y_str, y_sl, y_nils, y_agg, y_ownp, y_own, z_nil, z_int, z_bool, z_str, z_sl, z_nils, b_nil, b_arr, b_box1, b_box2, b_box3, b_box4, List.map_cons, List.map_nil, Bool.and_self, Bool.and_true, Bool.true_and, Bool.not_true, Bool.not_false, Bool.or_false, Bool.false_or, cond_true, cond_false, okPack, okPut, okPutBlks, okPutCells, q_isP, q_isAg, q_isBox, q_isArr, q_int, q_bool, q_str, q_sl, q_nils, e_exit, e_ret, e_nrm, e_ret_exit, e_exit_ret, e_nrm_exit, e_nrm_ret, e_exit_nrm, e_ret_nrm, Nat.zero_add, Nat.reduceAdd, noslR, noslP, noslB, noslA, List.all_cons, List.all_nil]
  rw [ctrs_length, in_len hi, Int.toNat_natCast, setEs_st hi]
  rfl

def new (n : Nat) : List Ct := List.replicate n ⟨0, 0, 0⟩
theorem c_FNew {n : Nat} (h : 1 ≤ n ∧ n ≤ 5) : denC E 10 [AV.int .i64 (n : Int)] [] = some ([RV.p (PV.sl 3 (ctrs (new n))), RV.p (PV.int .i64 0)], []) := by
  have e1 : ltB (n : Int) 1 = false := by simp only [decide_eq_false_iff_not]; omega
  have e2 : ltB 5 (n : Int) = false := by simp only [decide_eq_false_iff_not]; omega
  have er : reps [PV.int .i64 0, PV.int .i64 0, PV.int .i64 0] n = ctrs (new n) := by rw [reps_eq]; simp [new, ctrs]
  rw [denC_eq, r10, e1, e2]
  simp only [bnd_some, ctl_true, ctl_false, ctl_and, ctl_or', ctl_or2, x_toPV, x_toCs, x_toCs2, x_toEs, x_bEs, x_bCs, x_aPV, x_aCs, x_int, x_bool, x_str, x_es, x_esn, nth_0, nth_1, nth_2, nth_3, nth_4, nth_5, nth_6, nth_7, nth_8, nth_9, y_nil, y_int, y_bool, y_str, y_sl, y_nils, y_agg, y_ownp, y_own, z_nil, z_int, z_bool, z_str, z_sl, z_nils, b_nil, b_arr, b_box1, b_box2, b_box3, b_box4, List.map_cons, List.map_nil, Bool.and_self, Bool.and_true, Bool.true_and, Bool.not_true, Bool.not_false, Bool.or_false, Bool.false_or, cond_true, cond_false, okPack, okPut, okPutBlks, okPutCells, q_isP, q_isAg, q_isBox, q_isArr, q_int, q_bool, q_str, q_sl, q_nils, e_exit, e_ret, e_nrm, e_ret_exit, e_exit_ret, e_nrm_exit, e_nrm_ret, e_exit_nrm, e_ret_nrm, Nat.zero_add, Nat.reduceAdd, noslR, noslP, noslB, noslA, List.all_cons, List.all_nil]
  have h1 : (leB 0 (n : Int) && (leB (n : Int) n && (leB (n : Int) 9223372036854775807 && leB ((n : Int) * 24) 140737488355328))) = true := by
    simp only [Bool.and_eq_true, decide_eq_true_eq]; omega
  rw [h1, ctl_true, Int.toNat_natCast, er]

end Go.Proofs.Ythmhnnppikdafaa.Vm
