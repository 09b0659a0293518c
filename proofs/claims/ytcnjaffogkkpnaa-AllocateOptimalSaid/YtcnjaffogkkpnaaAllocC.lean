/- Allocation: contracts. -/
import Derived.Test.YtcnjaffogkkpnaaAllocP
namespace Go.Proofs.Ytcnjaffogkkpnaa.Vm
set_option linter.unusedVariables false
set_option linter.unusedSimpArgs false

theorem getE_int1 {α : Type} (p : List Int) (x : Int) (l : List Int) (K : List PV → Option α) : getE (intsK .i64 (p ++ x :: l)) (p.length : Int) K = K [PV.int .i64 x] := getE_midG (fun n => [PV.int .i64 n]) p x l K
theorem reps_ints : ∀ n : Nat, reps [PV.int .i64 0] n = intsK .i64 (List.replicate n 0)
  | 0 => rfl
  | n + 1 => by
    show [PV.int .i64 0] :: reps [PV.int .i64 0] n = _
    rw [reps_ints n]
    rfl

/-! ### within -/
theorem wi_loop (lo hi : Int) : ∀ (l p : List Int), (∀ n ∈ l, lo ≤ n ∧ n ≤ hi) → (p ++ l).length ≤ 10000 →
    lp E (denC E) 90 2 [AV.undef, AV.fn 66 [TV.ptr 0 0, TV.ptr 1 0]] 0 { vals := [AV.sl 1 (intsK .i64 (p ++ l)), AV.int .i64 ((p ++ l).length : Int), AV.int .i64 (p.length : Int)], blks := [Blk.box [AV.int .i64 lo], Blk.box [AV.int .i64 hi]] } =
      some (Ex.exit 0, { vals := [], blks := [Blk.box [AV.int .i64 lo], Blk.box [AV.int .i64 hi]] })
  | [], p, hs, h => by
    rw [r90_0a, ctl_dec, if_neg (by simp)]
  | s :: l, p, hs, h => by
    have h1 := hs s (List.mem_cons_self ..)
    have ih := wi_loop lo hi l (p ++ [s]) (fun n hn => hs n (List.mem_cons_of_mem _ hn)) (by simp at h ⊢; omega)
    simp only [List.length_append, List.length_cons] at h
    rw [r90_0a, ctl_dec, if_pos (by simp; omega), getE_int1]
    simp only [List.append_assoc, List.cons_append, List.nil_append, List.length_append, List.length_cons, List.length_nil] at ih
    have hw : denC E 66 [AV.int .i64 s, AV.t (.ptr 0 0), AV.t (.ptr 1 0)] [Blk.box [AV.int .i64 lo], Blk.box [AV.int .i64 hi]] = some ([RV.p (PV.bool false)], [Blk.box [AV.int .i64 lo], Blk.box [AV.int .i64 hi]]) := by
      rw [denC_eq, r66]
      have e1 : ltB s lo = false := by simp only [decide_eq_false_iff_not]; omega
      have e2 : ltB hi s = false := by simp only [decide_eq_false_iff_not]; omega
      simp only [bnd_some, ctl_true, ctl_false, ctl_and, ctl_or', ctl_or2, x_toPV, x_toCs, x_toCs2, x_toEs, x_bEs, x_bCs, x_aPV, x_aCs, x_int, x_bool, x_str, x_es, x_esn, nth_0, nth_1, nth_2, nth_3, nth_4, nth_5, nth_6, nth_7, nth_8, nth_9, y_nil, y_int, y_bool, y_str, y_sl, y_nils, y_agg, y_ownp, y_own, z_nil, z_int, z_bool, z_str, z_sl, z_nils, b_nil, b_arr, b_box1, b_box2, b_box3, b_box4, List.map_cons, List.map_nil, Bool.and_self, Bool.and_true, Bool.true_and, Bool.not_true, Bool.not_false, Bool.or_false, Bool.false_or, cond_true, cond_false, okPack, okPut, okPutBlks, okPutCells, q_isP, q_isAg, q_isBox, q_isArr, q_int, q_bool, q_str, q_sl, q_nils, e_exit, e_ret, e_nrm, e_ret_exit, e_exit_ret, e_nrm_exit, e_nrm_ret, e_exit_nrm, e_ret_nrm, Nat.zero_add, Nat.reduceAdd, noslR, noslP, noslB, noslA, List.all_cons, List.all_nil, e1, e2]
    simp only [List.length_append, List.length_cons, bnd_some, ctl_true, ctl_false, ctl_and, ctl_or', ctl_or2, x_toPV, x_toCs, x_toCs2, x_toEs, x_bEs, x_bCs, x_aPV, x_aCs, x_int, x_bool, x_str, x_es, x_esn, nth_0, nth_1, nth_2, nth_3, nth_4, nth_5, nth_6, nth_7, nth_8, nth_9, y_nil, y_int, y_bool, y_str, y_sl, y_nils, y_agg, y_ownp, y_own, z_nil, z_int, z_bool, z_str, z_sl, z_nils, b_nil, b_arr, b_box1, b_box2, b_box3, b_box4, List.map_cons, List.map_nil, Bool.and_self, Bool.and_true, Bool.true_and, Bool.not_true, Bool.not_false, Bool.or_false, Bool.false_or, cond_true, cond_false, okPack, okPut, okPutBlks, okPutCells, q_isP, q_isAg, q_isBox, q_isArr, q_int, q_bool, q_str, q_sl, q_nils, e_exit, e_ret, e_nrm, e_ret_exit, e_exit_ret, e_nrm_exit, e_nrm_ret, e_exit_nrm, e_ret_nrm, Nat.zero_add, Nat.reduceAdd, noslR, noslP, noslB, noslA, List.all_cons, List.all_nil]
    rw [hw]
    simp only [bnd_some, ctl_true, ctl_false, ctl_and, ctl_or', ctl_or2, x_toPV, x_toCs, x_toCs2, x_toEs, x_bEs, x_bCs, x_aPV, x_aCs, x_int, x_bool, x_str, x_es, x_esn, nth_0, nth_1, nth_2, nth_3, nth_4, nth_5, nth_6, nth_7, nth_8, nth_9, y_nil, y_int, y_bool, y_str, y_sl, y_nils, y_agg, y_ownp, y_own, z_nil, z_int, z_bool, z_str, z_sl, z_nils, b_nil, b_arr, b_box1, b_box2, b_box3, b_box4, List.map_cons, List.map_nil, Bool.and_self, Bool.and_true, Bool.true_and, Bool.not_true, Bool.not_false, Bool.or_false, Bool.false_or, cond_true, cond_false, okPack, okPut, okPutBlks, okPutCells, q_isP, q_isAg, q_isBox, q_isArr, q_int, q_bool, q_str, q_sl, q_nils, e_exit, e_ret, e_nrm, e_ret_exit, e_exit_ret, e_nrm_exit, e_nrm_ret, e_exit_nrm, e_ret_nrm, Nat.zero_add, Nat.reduceAdd, noslR, noslP, noslB, noslA, List.all_cons, List.all_nil]
    rw [w64 (n := (p.length : Int) + 1) (by omega)]
    have e1 : ((p.length : Int) + 1) = ((p.length + (0 + 1) : Nat) : Int) := by omega
    rw [e1, ih]

theorem c_within {l : List Int} {lo hi : Int} (hs : ∀ n ∈ l, lo ≤ n ∧ n ≤ hi) (h : l.length ≤ 10000) : denC E 38 [AV.sl 1 (intsK .i64 l), AV.int .i64 lo, AV.int .i64 hi] [] = some ([RV.p (PV.bool true)], []) := by
  have hl := wi_loop lo hi l [] hs (by simpa using h)
  simp only [List.nil_append, List.length_nil] at hl
  have e0 : (((0 : Nat)) : Int) = 0 := rfl
  rw [e0] at hl
  have hix : denC E 90 [AV.sl 1 (intsK .i64 l), AV.fn 66 [TV.ptr 0 0, TV.ptr 1 0]] [Blk.box [AV.int .i64 lo], Blk.box [AV.int .i64 hi]] = some ([RV.p (PV.int .i64 (-1))], [Blk.box [AV.int .i64 lo], Blk.box [AV.int .i64 hi]]) := by
    rw [denC_eq, r90a, intsK_length, hl]
    simp only [bnd_some, ctl_true, ctl_false, ctl_and, ctl_or', ctl_or2, x_toPV, x_toCs, x_toCs2, x_toEs, x_bEs, x_bCs, x_aPV, x_aCs, x_int, x_bool, x_str, x_es, x_esn, nth_0, nth_1, nth_2, nth_3, nth_4, nth_5, nth_6, nth_7, nth_8, nth_9, y_nil, y_int, y_bool, y_str, y_sl, y_nils, y_agg, y_ownp, y_own, z_nil, z_int, z_bool, z_str, z_sl, z_nils, b_nil, b_arr, b_box1, b_box2, b_box3, b_box4, List.map_cons, List.map_nil, Bool.and_self, Bool.and_true, Bool.true_and, Bool.not_true, Bool.not_false, Bool.or_false, Bool.false_or, cond_true, cond_false, okPack, okPut, okPutBlks, okPutCells, q_isP, q_isAg, q_isBox, q_isArr, q_int, q_bool, q_str, q_sl, q_nils, e_exit, e_ret, e_nrm, e_ret_exit, e_exit_ret, e_nrm_exit, e_nrm_ret, e_exit_nrm, e_ret_nrm, Nat.zero_add, Nat.reduceAdd, noslR, noslP, noslB, noslA, List.all_cons, List.all_nil]
  have hcf : denC E 65 [AV.sl 1 (intsK .i64 l), AV.fn 66 [TV.ptr 0 0, TV.ptr 1 0]] [Blk.box [AV.int .i64 lo], Blk.box [AV.int .i64 hi]] = some ([RV.p (PV.bool false)], [Blk.box [AV.int .i64 lo], Blk.box [AV.int .i64 hi]]) := by
    rw [denC_eq, r65a, hix]
    simp only [bnd_some, ctl_true, ctl_false, ctl_and, ctl_or', ctl_or2, x_toPV, x_toCs, x_toCs2, x_toEs, x_bEs, x_bCs, x_aPV, x_aCs, x_int, x_bool, x_str, x_es, x_esn, nth_0, nth_1, nth_2, nth_3, nth_4, nth_5, nth_6, nth_7, nth_8, nth_9, y_nil, y_int, y_bool, y_str, y_sl, y_nils, y_agg, y_ownp, y_own, z_nil, z_int, z_bool, z_str, z_sl, z_nils, b_nil, b_arr, b_box1, b_box2, b_box3, b_box4, List.map_cons, List.map_nil, Bool.and_self, Bool.and_true, Bool.true_and, Bool.not_true, Bool.not_false, Bool.or_false, Bool.false_or, cond_true, cond_false, okPack, okPut, okPutBlks, okPutCells, q_isP, q_isAg, q_isBox, q_isArr, q_int, q_bool, q_str, q_sl, q_nils, e_exit, e_ret, e_nrm, e_ret_exit, e_exit_ret, e_nrm_exit, e_nrm_ret, e_exit_nrm, e_ret_nrm, Nat.zero_add, Nat.reduceAdd, noslR, noslP, noslB, noslA, List.all_cons, List.all_nil]
    rfl
  rw [denC_eq, r38, hcf]
  simp only [bnd_some, ctl_true, ctl_false, ctl_and, ctl_or', ctl_or2, x_toPV, x_toCs, x_toCs2, x_toEs, x_bEs, x_bCs, x_aPV, x_aCs, x_int, x_bool, x_str, x_es, x_esn, nth_0, nth_1, nth_2, nth_3, nth_4, nth_5, nth_6, nth_7, nth_8, nth_9, y_nil, y_int, y_bool, y_str, y_sl, y_nils, y_agg, y_ownp, y_own, z_nil, z_int, z_bool, z_str, z_sl, z_nils, b_nil, b_arr, b_box1, b_box2, b_box3, b_box4, List.map_cons, List.map_nil, Bool.and_self, Bool.and_true, Bool.true_and, Bool.not_true, Bool.not_false, Bool.or_false, Bool.false_or, cond_true, cond_false, okPack, okPut, okPutBlks, okPutCells, q_isP, q_isAg, q_isBox, q_isArr, q_int, q_bool, q_str, q_sl, q_nils, e_exit, e_ret, e_nrm, e_ret_exit, e_exit_ret, e_nrm_exit, e_nrm_ret, e_exit_nrm, e_ret_nrm, Nat.zero_add, Nat.reduceAdd, noslR, noslP, noslB, noslA, List.all_cons, List.all_nil]

/-! ### begin, open -/
structure AOk (s : Shp) (ms : List Int) (ls : List (Int × Int)) : Prop where
  ok : OkShp s
  ml : ms.length = s.ts.length
  mi : ∀ m ∈ ms, 0 ≤ m ∧ m ≤ 5000
  ll : ls = [] ∨ ls.length = s.ts.length
  li : SmL ls 5000

theorem beg1_loop (ls b11 : List (List PV)) : ∀ (ts q : List Thr) (ms pm : List Int) (acc : List Thr), (∀ t ∈ ts, okT t = true) → pm.length = q.length → ms.length = ts.length → acc.length = q.length → (q ++ ts).length ≤ 8 →
    lp E (denC E) 47 0 [] 1 { vals := [AV.sl 1 (intsK .i64 (pm ++ ms)), AV.sl 2 ls, AV.sl 6 (thK (q ++ ts)), AV.int .i64 ((q ++ ts).length : Int), AV.int .i64 (q.length : Int)], blks := [Blk.box [AV.sl 6 [], AV.sl 2 []], Blk.box [AV.t (TV.hsl 2), AV.sl 2 b11], Blk.arr 6 (thK acc)] } =
      some (Ex.exit 1, { vals := [AV.sl 2 ls], blks := [Blk.box [AV.sl 6 [], AV.sl 2 []], Blk.box [AV.t (TV.hsl 2), AV.sl 2 b11], Blk.arr 6 (thK (acc ++ Ws ts ms))] })
  | [], q, ms, pm, acc, hs, hp, hm, ha, h => by
    rw [r47_1, ctl_dec, if_neg (by simp)]
    simp [Ws]
  | t :: ts, q, [], pm, acc, hs, hp, hm, ha, h => by cases hm
  | t :: ts, q, m :: ms, pm, acc, hs, hp, hm, ha, h => by
    have ht := hs t (List.mem_cons_self ..)
    have ht4 := (okT0_iff.1 (okT_iff.1 ht).1)
    have ih := beg1_loop ls b11 ts (q ++ [t]) ms (pm ++ [m]) (acc ++ [withT t m]) (fun x hx => hs x (List.mem_cons_of_mem _ hx)) (by simp [hp]) (by simpa using hm) (by simp [ha]) (by simp at h ⊢; omega)
    simp only [List.append_assoc, List.cons_append, List.nil_append, List.length_append, List.length_cons, List.length_nil] at ih h
    rw [r47_1, ctl_dec, if_pos (by simp; omega), getE_th]
    have hW := c_With (t := t) (by omega) m
    unfold thC at hW
    have hg : ∀ {α : Type} (K : List PV → Option α), getE (intsK .i64 (pm ++ m :: ms)) (q.length : Int) K = K [PV.int .i64 m] := fun K => by rw [← hp]; exact getE_int1 pm m ms K
    rw [hg]
    unfold thC
    simp only [bnd_some, ctl_true, ctl_false, ctl_and, ctl_or', ctl_or2, x_toPV, x_toCs, x_toCs2, x_toEs, x_bEs, x_bCs, x_aPV, x_aCs, x_int, x_bool, x_str, x_es, x_esn, nth_0, nth_1, nth_2, nth_3, nth_4, nth_5, nth_6, nth_7, nth_8, nth_9, y_nil, y_int, y_bool, y_str, y_sl, y_nils, y_agg, y_ownp, y_own, z_nil, z_int, z_bool, z_str, z_sl, z_nils, b_nil, b_arr, b_box1, b_box2, b_box3, b_box4, List.map_cons, List.map_nil, Bool.and_self, Bool.and_true, Bool.true_and, Bool.not_true, Bool.not_false, Bool.or_false, Bool.false_or, cond_true, cond_false, okPack, okPut, okPutBlks, okPutCells, q_isP, q_isAg, q_isBox, q_isArr, q_int, q_bool, q_str, q_sl, q_nils, e_exit, e_ret, e_nrm, e_ret_exit, e_exit_ret, e_nrm_exit, e_nrm_ret, e_exit_nrm, e_ret_nrm, Nat.zero_add, Nat.reduceAdd, noslR, noslP, noslB, noslA, List.all_cons, List.all_nil]
    rw [hW]
    have e2 : leN (((thK acc).length + 1) * 64) 140737488355328 = true := by rw [thK_length]; simp only [decide_eq_true_eq]; omega
    simp only [bnd_some, ctl_true, ctl_false, ctl_and, ctl_or', ctl_or2, x_toPV, x_toCs, x_toCs2, x_toEs, x_bEs, x_bCs, x_aPV, x_aCs, x_int, x_bool, x_str, x_es, x_esn, nth_0, nth_1, nth_2, nth_3, nth_4, nth_5, nth_6, nth_7, nth_8, nth_9, y_nil, y_int, y_bool, y_str, y_sl, y_nils, y_agg, y_ownp, y_own, z_nil, z_int, z_bool, z_str, z_sl, z_nils, b_nil, b_arr, b_box1, b_box2, b_box3, b_box4, List.map_cons, List.map_nil, Bool.and_self, Bool.and_true, Bool.true_and, Bool.not_true, Bool.not_false, Bool.or_false, Bool.false_or, cond_true, cond_false, okPack, okPut, okPutBlks, okPutCells, q_isP, q_isAg, q_isBox, q_isArr, q_int, q_bool, q_str, q_sl, q_nils, e_exit, e_ret, e_nrm, e_ret_exit, e_exit_ret, e_nrm_exit, e_nrm_ret, e_exit_nrm, e_ret_nrm, Nat.zero_add, Nat.reduceAdd, noslR, noslP, noslB, noslA, List.all_cons, List.all_nil, e2]
    rw [w64 (n := (q.length : Int) + 1) (by omega)]
    have e1 : ((q.length : Int) + 1) = ((q.length + (0 + 1) : Nat) : Int) := by omega
    simp only [List.length_append, List.length_cons]
    rw [e1]
    have e3 : thK (acc ++ [withT t m]) = thK acc ++ [thC (withT t m)] := thK_append acc [withT t m]
    rw [e3] at ih
    refine Eq.trans ih ?_
    simp only [Ws]

theorem beg3_loop (b00 b01 b11 : List (List PV)) (c2 : List (List PV)) : ∀ (l p : List (Int × Int)), SmL l 5000 → (p ++ l).length ≤ 8 →
    lp E (denC E) 47 0 [] 3 { vals := [AV.sl 2 (arcK (p ++ l)), AV.int .i64 ((p ++ l).length : Int), AV.int .i64 (p.length : Int)], blks := [Blk.box [AV.sl 6 b00, AV.sl 2 b01], Blk.box [AV.t (TV.hsl 2), AV.sl 2 b11], Blk.arr 6 c2] } =
      some (Ex.exit 3, { vals := [], blks := [Blk.box [AV.sl 6 b00, AV.sl 2 b01], Blk.box [AV.t (TV.hsl 2), AV.sl 2 b11], Blk.arr 6 c2] })
  | [], p, hs, h => by
    rw [r47_3, ctl_dec, if_neg (by simp)]
  | v :: l, p, hs, h => by
    have hv := hs v (List.mem_cons_self ..)
    have ih := beg3_loop b00 b01 b11 c2 l (p ++ [v]) (fun x hx => hs x (List.mem_cons_of_mem _ hx)) (by simp at h ⊢; omega)
    simp only [List.append_assoc, List.cons_append, List.nil_append, List.length_append, List.length_cons, List.length_nil] at ih h
    have hw : denC E 38 [AV.sl 1 [[PV.int .i64 v.1], [PV.int .i64 v.2]], AV.int .i64 (-5000), AV.int .i64 5000] [] = some ([RV.p (PV.bool true)], []) := c_within (l := [v.1, v.2]) (fun n hn => by
      simp only [List.mem_cons, List.not_mem_nil, or_false] at hn
      rcases hn with rfl | rfl <;> omega) (by simp)
    rw [r47_3, ctl_dec, if_pos (by simp; omega), getE_arc]
    simp only [arcC, bnd_some, ctl_true, ctl_false, ctl_and, ctl_or', ctl_or2, x_toPV, x_toCs, x_toCs2, x_toEs, x_bEs, x_bCs, x_aPV, x_aCs, x_int, x_bool, x_str, x_es, x_esn, nth_0, nth_1, nth_2, nth_3, nth_4, nth_5, nth_6, nth_7, nth_8, nth_9, y_nil, y_int, y_bool, y_str, y_sl, y_nils, y_agg, y_ownp, y_own, z_nil, z_int, z_bool, z_str, z_sl, z_nils, b_nil, b_arr, b_box1, b_box2, b_box3, b_box4, List.map_cons, List.map_nil, Bool.and_self, Bool.and_true, Bool.true_and, Bool.not_true, Bool.not_false, Bool.or_false, Bool.false_or, cond_true, cond_false, okPack, okPut, okPutBlks, okPutCells, q_isP, q_isAg, q_isBox, q_isArr, q_int, q_bool, q_str, q_sl, q_nils, e_exit, e_ret, e_nrm, e_ret_exit, e_exit_ret, e_nrm_exit, e_nrm_ret, e_exit_nrm, e_ret_nrm, Nat.zero_add, Nat.reduceAdd, noslR, noslP, noslB, noslA, List.all_cons, List.all_nil, List.length_append, List.length_cons]
    rw [hw]
    simp only [bnd_some, ctl_true, ctl_false, ctl_and, ctl_or', ctl_or2, x_toPV, x_toCs, x_toCs2, x_toEs, x_bEs, x_bCs, x_aPV, x_aCs, x_int, x_bool, x_str, x_es, x_esn, nth_0, nth_1, nth_2, nth_3, nth_4, nth_5, nth_6, nth_7, nth_8, nth_9, y_nil, y_int, y_bool, y_str, y_sl, y_nils, y_agg, y_ownp, y_own, z_nil, z_int, z_bool, z_str, z_sl, z_nils, b_nil, b_arr, b_box1, b_box2, b_box3, b_box4, List.map_cons, List.map_nil, Bool.and_self, Bool.and_true, Bool.true_and, Bool.not_true, Bool.not_false, Bool.or_false, Bool.false_or, cond_true, cond_false, okPack, okPut, okPutBlks, okPutCells, q_isP, q_isAg, q_isBox, q_isArr, q_int, q_bool, q_str, q_sl, q_nils, e_exit, e_ret, e_nrm, e_ret_exit, e_exit_ret, e_nrm_exit, e_nrm_ret, e_exit_nrm, e_ret_nrm, Nat.zero_add, Nat.reduceAdd, noslR, noslP, noslB, noslA, List.all_cons, List.all_nil]
    rw [w64 (n := (p.length : Int) + 1) (by omega)]
    have e1 : ((p.length : Int) + 1) = ((p.length + (0 + 1) : Nat) : Int) := by omega
    rw [e1, ih]

theorem c_begin {s : Shp} {ms : List Int} {ls : List (Int × Int)} (h : AOk s ms ls) {ns : List Int} (hn : ns.length = s.ts.length) (hni : ∀ n ∈ ns, -5000 ≤ n ∧ n ≤ 5000) :
    denC E 47 [AV.agg (shpC s), AV.sl 1 (intsK .i64 ms), AV.sl 2 (arcK ls), AV.sl 1 (intsK .i64 ns)] [] = some ([RV.agg [PV.sl 6 (thK (Ws s.ts ms)), PV.sl 2 (arcK ls)], RV.p (PV.int .i64 0)], []) := by
  have hC := c_Check h.ok
  have h8 := h.ok.1
  have hml := h.ml
  have w1 := c_within (l := ms) h.mi (by omega)
  have w2 := c_within (l := ns) hni (by omega)
  have hll : ls.length ≤ 8 := by
    rcases h.ll with e | e
    · rw [e]; simp
    · omega
  have l1 := beg1_loop (arcK ls) (arcK ls) s.ts [] ms [] [] (fun t ht => (h.ok.2.2.2.2.2.2 t ht).1) rfl h.ml rfl (by simpa using h8)
  have l3 := beg3_loop [] [] (arcK ls) (thK (Ws s.ts ms)) ls [] h.li (by simpa using hll)
  simp only [List.nil_append, List.length_nil] at l1 l3
  have e0 : (((0 : Nat)) : Int) = 0 := rfl
  have ea : thK [] = [] := rfl
  rw [e0, ea] at l1
  rw [e0] at l3
  unfold shpC at hC ⊢
  rw [denC_eq, r47, hC, w1, w2]
  simp only [bnd_some, ctl_true, ctl_false, ctl_and, ctl_or', ctl_or2, x_toPV, x_toCs, x_toCs2, x_toEs, x_bEs, x_bCs, x_aPV, x_aCs, x_int, x_bool, x_str, x_es, x_esn, nth_0, nth_1, nth_2, nth_3, nth_4, nth_5, nth_6, nth_7, nth_8, nth_9, y_nil, y_int, y_bool, y_str, y_sl, y_nils, y_agg, y_ownp, y_own, z_nil, z_int, z_bool, z_str, z_sl, z_nils, b_nil, b_arr, b_box1, b_box2, b_box3, b_box4, List.map_cons, List.map_nil, Bool.and_self, Bool.and_true, Bool.true_and, Bool.not_true, Bool.not_false, Bool.or_false, Bool.false_or, cond_true, cond_false, okPack, okPut, okPutBlks, okPutCells, q_isP, q_isAg, q_isBox, q_isArr, q_int, q_bool, q_str, q_sl, q_nils, e_exit, e_ret, e_nrm, e_ret_exit, e_exit_ret, e_nrm_exit, e_nrm_ret, e_exit_nrm, e_ret_nrm, Nat.zero_add, Nat.reduceAdd, noslR, noslP, noslB, noslA, List.all_cons, List.all_nil, intsK_length, thK_length, arcK_length]
  have f0 : ((0 : Int) != 0) = false := rfl
  have f1 : ((ms.length : Int) != (s.ts.length : Int)) = false := by simp only [bne_eq_false_iff_eq]; omega
  have f2 : (ltB 0 (ls.length : Int) && (ls.length : Int) != (s.ts.length : Int)) = false := by
    rcases h.ll with e | e
    · rw [e]; rfl
    · rw [e]; simp
  have f3 : ((ns.length : Int) != (s.ts.length : Int)) = false := by simp only [bne_eq_false_iff_eq]; omega
  rw [f0, f1, f2, f3]
  simp only [bnd_some, ctl_true, ctl_false, ctl_and, ctl_or', ctl_or2, x_toPV, x_toCs, x_toCs2, x_toEs, x_bEs, x_bCs, x_aPV, x_aCs, x_int, x_bool, x_str, x_es, x_esn, nth_0, nth_1, nth_2, nth_3, nth_4, nth_5, nth_6, nth_7, nth_8, nth_9, y_nil, y_int, y_bool, y_str, y_sl, y_nils, y_agg, y_ownp, y_own, z_nil, z_int, z_bool, z_str, z_sl, z_nils, b_nil, b_arr, b_box1, b_box2, b_box3, b_box4, List.map_cons, List.map_nil, Bool.and_self, Bool.and_true, Bool.true_and, Bool.not_true, Bool.not_false, Bool.or_false, Bool.false_or, cond_true, cond_false, okPack, okPut, okPutBlks, okPutCells, q_isP, q_isAg, q_isBox, q_isArr, q_int, q_bool, q_str, q_sl, q_nils, e_exit, e_ret, e_nrm, e_ret_exit, e_exit_ret, e_nrm_exit, e_nrm_ret, e_exit_nrm, e_ret_nrm, Nat.zero_add, Nat.reduceAdd, noslR, noslP, noslB, noslA, List.all_cons, List.all_nil]
  rw [l1]
  simp only [bnd_some, ctl_true, ctl_false, ctl_and, ctl_or', ctl_or2, x_toPV, x_toCs, x_toCs2, x_toEs, x_bEs, x_bCs, x_aPV, x_aCs, x_int, x_bool, x_str, x_es, x_esn, nth_0, nth_1, nth_2, nth_3, nth_4, nth_5, nth_6, nth_7, nth_8, nth_9, y_nil, y_int, y_bool, y_str, y_sl, y_nils, y_agg, y_ownp, y_own, z_nil, z_int, z_bool, z_str, z_sl, z_nils, b_nil, b_arr, b_box1, b_box2, b_box3, b_box4, List.map_cons, List.map_nil, Bool.and_self, Bool.and_true, Bool.true_and, Bool.not_true, Bool.not_false, Bool.or_false, Bool.false_or, cond_true, cond_false, okPack, okPut, okPutBlks, okPutCells, q_isP, q_isAg, q_isBox, q_isArr, q_int, q_bool, q_str, q_sl, q_nils, e_exit, e_ret, e_nrm, e_ret_exit, e_exit_ret, e_nrm_exit, e_nrm_ret, e_exit_nrm, e_ret_nrm, Nat.zero_add, Nat.reduceAdd, noslR, noslP, noslB, noslA, List.all_cons, List.all_nil, arcK_length]
  rw [l3]
  simp only [bnd_some, ctl_true, ctl_false, ctl_and, ctl_or', ctl_or2, x_toPV, x_toCs, x_toCs2, x_toEs, x_bEs, x_bCs, x_aPV, x_aCs, x_int, x_bool, x_str, x_es, x_esn, nth_0, nth_1, nth_2, nth_3, nth_4, nth_5, nth_6, nth_7, nth_8, nth_9, y_nil, y_int, y_bool, y_str, y_sl, y_nils, y_agg, y_ownp, y_own, z_nil, z_int, z_bool, z_str, z_sl, z_nils, b_nil, b_arr, b_box1, b_box2, b_box3, b_box4, List.map_cons, List.map_nil, Bool.and_self, Bool.and_true, Bool.true_and, Bool.not_true, Bool.not_false, Bool.or_false, Bool.false_or, cond_true, cond_false, okPack, okPut, okPutBlks, okPutCells, q_isP, q_isAg, q_isBox, q_isArr, q_int, q_bool, q_str, q_sl, q_nils, e_exit, e_ret, e_nrm, e_ret_exit, e_exit_ret, e_nrm_exit, e_nrm_ret, e_exit_nrm, e_ret_nrm, Nat.zero_add, Nat.reduceAdd, noslR, noslP, noslB, noslA, List.all_cons, List.all_nil]

theorem c_open {s : Shp} {ms : List Int} {ls : List (Int × Int)} (h : AOk s ms ls) {d0 d1 d2 : Int} (hd : (-500000 ≤ d0 ∧ d0 ≤ 500000) ∧ (-500000 ≤ d1 ∧ d1 ≤ 500000) ∧ -500000 ≤ d2 ∧ d2 ≤ 500000) :
    denC E 29 [AV.agg (shpC s), AV.sl 1 (intsK .i64 ms), AV.sl 2 (arcK ls), AV.agg [PV.int .i64 d0, PV.int .i64 d1, PV.int .i64 d2]] [] = some ([RV.agg [PV.sl 6 (thK (Ws s.ts ms)), PV.sl 2 (arcK ls)], RV.p (PV.int .i64 0)], []) := by
  have hb := c_begin h (ns := List.replicate s.ts.length 0) (by simp) (fun n hn => by
    have := List.eq_of_mem_replicate hn
    omega)
  have h8 := h.ok.1
  have hw : denC E 38 [AV.sl 1 [[PV.int .i64 d0], [PV.int .i64 d1], [PV.int .i64 d2]], AV.int .i64 (-500000), AV.int .i64 500000] [] = some ([RV.p (PV.bool true)], []) := c_within (l := [d0, d1, d2]) (fun n hn => by
    simp only [List.mem_cons, List.not_mem_nil, or_false] at hn
    rcases hn with rfl | rfl | rfl <;> omega) (by simp)
  unfold shpC at hb ⊢
  rw [denC_eq, r29, thK_length, Int.toNat_natCast, reps_ints, hb]
  have g1 : leB (s.ts.length : Int) (s.ts.length : Int) = true := by simp
  have g2 : leB (s.ts.length : Int) 9223372036854775807 = true := by simp only [decide_eq_true_eq]; omega
  have g3 : leB ((s.ts.length : Int) * 8) 140737488355328 = true := by simp only [decide_eq_true_eq]; omega
  simp only [bnd_some, ctl_true, ctl_false, ctl_and, ctl_or', ctl_or2, x_toPV, x_toCs, x_toCs2, x_toEs, x_bEs, x_bCs, x_aPV, x_aCs, x_int, x_bool, x_str, x_es, x_esn, nth_0, nth_1, nth_2, nth_3, nth_4, nth_5, nth_6, nth_7, nth_8, nth_9, y_nil, y_int, y_bool, y_str, y_sl, y_nils, y_agg, y_ownp, y_own, z_nil, z_int, z_bool, z_str, z_sl, z_nils, b_nil, b_arr, b_box1, b_box2, b_box3, b_box4, List.map_cons, List.map_nil, Bool.and_self, Bool.and_true, Bool.true_and, Bool.not_true, Bool.not_false, Bool.or_false, Bool.false_or, cond_true, cond_false, okPack, okPut, okPutBlks, okPutCells, q_isP, q_isAg, q_isBox, q_isArr, q_int, q_bool, q_str, q_sl, q_nils, e_exit, e_ret, e_nrm, e_ret_exit, e_exit_ret, e_nrm_exit, e_nrm_ret, e_exit_nrm, e_ret_nrm, Nat.zero_add, Nat.reduceAdd, noslR, noslP, noslB, noslA, List.all_cons, List.all_nil, g1, g2, g3, beq_self_eq_true]
  rw [hw]
  simp only [bnd_some, ctl_true, ctl_false, ctl_and, ctl_or', ctl_or2, x_toPV, x_toCs, x_toCs2, x_toEs, x_bEs, x_bCs, x_aPV, x_aCs, x_int, x_bool, x_str, x_es, x_esn, nth_0, nth_1, nth_2, nth_3, nth_4, nth_5, nth_6, nth_7, nth_8, nth_9, y_nil, y_int, y_bool, y_str, y_sl, y_nils, y_agg, y_ownp, y_own, z_nil, z_int, z_bool, z_str, z_sl, z_nils, b_nil, b_arr, b_box1, b_box2, b_box3, b_box4, List.map_cons, List.map_nil, Bool.and_self, Bool.and_true, Bool.true_and, Bool.not_true, Bool.not_false, Bool.or_false, Bool.false_or, cond_true, cond_false, okPack, okPut, okPutBlks, okPutCells, q_isP, q_isAg, q_isBox, q_isArr, q_int, q_bool, q_str, q_sl, q_nils, e_exit, e_ret, e_nrm, e_ret_exit, e_exit_ret, e_nrm_exit, e_nrm_ret, e_exit_nrm, e_ret_nrm, Nat.zero_add, Nat.reduceAdd, noslR, noslP, noslB, noslA, List.all_cons, List.all_nil]

/-! ### Shares -/
theorem c_latF {t : Thr} (h : t.fb.length ≤ maxLen) : denC E 56 [AV.agg (thC t)] [] = some ([RV.p (PV.int .i64 (latF t).1), RV.p (PV.int .i64 (latF t).2)], []) := by
  obtain ⟨a, b, h1, h2, _⟩ := c_Lateral h
  obtain ⟨e1, e2⟩ := IsLat_uniq h2 (latF_is t)
  rw [h1, e1, e2]
theorem c_lonF {t : Thr} (h : t.fb.length ≤ maxLen) (y : Int) : denC E 59 [AV.agg (thC t), AV.int .i64 y] [] = some ([RV.p (PV.int .i64 (lonF t y).1), RV.p (PV.int .i64 (lonF t y).2)], []) := by
  obtain ⟨a, b, h1, h2, _⟩ := c_Longitudinal h y
  obtain ⟨e1, e2⟩ := IsLon_uniq h2 (lonF_is t y)
  rw [h1, e1, e2]

/-- ls is what is left of the last thrusts at place i. -/
def Rest (L0 ls : List (Int × Int)) (i n : Nat) : Prop := (L0 = [] ∧ ls = []) ∨ ∃ p, L0 = p ++ ls ∧ p.length = i ∧ ls.length = n
theorem Rest_step {L0 ls : List (Int × Int)} {i n : Nat} (h : Rest L0 ls i (n + 1)) : Rest L0 ls.tail (i + 1) n := by
  rcases h with ⟨h1, h2⟩ | ⟨p, h1, h2, h3⟩
  · exact .inl ⟨h1, by rw [h2]; rfl⟩
  · cases ls with
    | nil => cases h3
    | cons v l => exact .inr ⟨p ++ [v], by simp [h1], by simp [h2], by simpa using h3⟩

theorem c_ratedA {t : Thr} {q ts : List Thr} {L0 ls : List (Int × Int)} (h : Rest L0 ls q.length (ts.length + 1)) (lo hi : Int) :
    denC E 57 [AV.agg [PV.sl 6 (thK (q ++ t :: ts)), PV.sl 2 (arcK L0)], AV.int .i64 (q.length : Int), AV.int .i64 lo, AV.int .i64 hi, AV.fn 58 []] [] = some ([RV.agg (Div.shC (ratS t (lo, hi) (ls.head?.map Prod.snd)))], []) := by
  rw [denC_eq, r57a, getE_th, arcK_length]
  unfold thC
  rcases h with ⟨rfl, rfl⟩ | ⟨p, h1, h2, h3⟩
  · simp only [bnd_some, ctl_true, ctl_false, ctl_and, ctl_or', ctl_or2, x_toPV, x_toCs, x_toCs2, x_toEs, x_bEs, x_bCs, x_aPV, x_aCs, x_int, x_bool, x_str, x_es, x_esn, nth_0, nth_1, nth_2, nth_3, nth_4, nth_5, nth_6, nth_7, nth_8, nth_9, y_nil, y_int, y_bool, y_str, y_sl, y_nils, y_agg, y_ownp, y_own, z_nil, z_int, z_bool, z_str, z_sl, z_nils, b_nil, b_arr, b_box1, b_box2, b_box3, b_box4, List.map_cons, List.map_nil, Bool.and_self, Bool.and_true, Bool.true_and, Bool.not_true, Bool.not_false, Bool.or_false, Bool.false_or, cond_true, cond_false, okPack, okPut, okPutBlks, okPutCells, q_isP, q_isAg, q_isBox, q_isArr, q_int, q_bool, q_str, q_sl, q_nils, e_exit, e_ret, e_nrm, e_ret_exit, e_exit_ret, e_nrm_exit, e_nrm_ret, e_exit_nrm, e_ret_nrm, Nat.zero_add, Nat.reduceAdd, noslR, noslP, noslB, noslA, List.all_cons, List.all_nil, List.length_nil, List.head?_nil, Option.map_none, ratS]
    rfl
  · cases ls with
    | nil => cases h3
    | cons v l =>
      have e1 : ltB 0 (L0.length : Int) = true := by rw [h1]; simp; omega
      have hg : ∀ {α : Type} (K : List PV → Option α), getE (arcK L0) (q.length : Int) K = K (arcC v) := fun K => by rw [h1, ← h2]; exact getE_arc p v l K
      have hv : denC E 58 [AV.agg [PV.int .i64 v.1, PV.int .i64 v.2]] [] = some ([RV.p (PV.int .i64 v.2)], []) := by
        rw [denC_eq, r58]
      rw [e1, hg]
      simp only [arcC, bnd_some, ctl_true, ctl_false, ctl_and, ctl_or', ctl_or2, x_toPV, x_toCs, x_toCs2, x_toEs, x_bEs, x_bCs, x_aPV, x_aCs, x_int, x_bool, x_str, x_es, x_esn, nth_0, nth_1, nth_2, nth_3, nth_4, nth_5, nth_6, nth_7, nth_8, nth_9, y_nil, y_int, y_bool, y_str, y_sl, y_nils, y_agg, y_ownp, y_own, z_nil, z_int, z_bool, z_str, z_sl, z_nils, b_nil, b_arr, b_box1, b_box2, b_box3, b_box4, List.map_cons, List.map_nil, Bool.and_self, Bool.and_true, Bool.true_and, Bool.not_true, Bool.not_false, Bool.or_false, Bool.false_or, cond_true, cond_false, okPack, okPut, okPutBlks, okPutCells, q_isP, q_isAg, q_isBox, q_isArr, q_int, q_bool, q_str, q_sl, q_nils, e_exit, e_ret, e_nrm, e_ret_exit, e_exit_ret, e_nrm_exit, e_nrm_ret, e_exit_nrm, e_ret_nrm, Nat.zero_add, Nat.reduceAdd, noslR, noslP, noslB, noslA, List.all_cons, List.all_nil]
      rw [hv]
      simp only [bnd_some, ctl_true, ctl_false, ctl_and, ctl_or', ctl_or2, x_toPV, x_toCs, x_toCs2, x_toEs, x_bEs, x_bCs, x_aPV, x_aCs, x_int, x_bool, x_str, x_es, x_esn, nth_0, nth_1, nth_2, nth_3, nth_4, nth_5, nth_6, nth_7, nth_8, nth_9, y_nil, y_int, y_bool, y_str, y_sl, y_nils, y_agg, y_ownp, y_own, z_nil, z_int, z_bool, z_str, z_sl, z_nils, b_nil, b_arr, b_box1, b_box2, b_box3, b_box4, List.map_cons, List.map_nil, Bool.and_self, Bool.and_true, Bool.true_and, Bool.not_true, Bool.not_false, Bool.or_false, Bool.false_or, cond_true, cond_false, okPack, okPut, okPutBlks, okPutCells, q_isP, q_isAg, q_isBox, q_isArr, q_int, q_bool, q_str, q_sl, q_nils, e_exit, e_ret, e_nrm, e_ret_exit, e_exit_ret, e_nrm_exit, e_nrm_ret, e_exit_nrm, e_ret_nrm, Nat.zero_add, Nat.reduceAdd, noslR, noslP, noslB, noslA, List.all_cons, List.all_nil, c_Rated]
      rfl

theorem c_ratedB {t : Thr} {q ts : List Thr} {L0 ls : List (Int × Int)} (h : Rest L0 ls q.length (ts.length + 1)) (lo hi : Int) :
    denC E 57 [AV.agg [PV.sl 6 (thK (q ++ t :: ts)), PV.sl 2 (arcK L0)], AV.int .i64 (q.length : Int), AV.int .i64 lo, AV.int .i64 hi, AV.fn 60 []] [] = some ([RV.agg (Div.shC (ratS t (lo, hi) (ls.head?.map Prod.fst)))], []) := by
  rw [denC_eq, r57b, getE_th, arcK_length]
  unfold thC
  rcases h with ⟨rfl, rfl⟩ | ⟨p, h1, h2, h3⟩
  · simp only [bnd_some, ctl_true, ctl_false, ctl_and, ctl_or', ctl_or2, x_toPV, x_toCs, x_toCs2, x_toEs, x_bEs, x_bCs, x_aPV, x_aCs, x_int, x_bool, x_str, x_es, x_esn, nth_0, nth_1, nth_2, nth_3, nth_4, nth_5, nth_6, nth_7, nth_8, nth_9, y_nil, y_int, y_bool, y_str, y_sl, y_nils, y_agg, y_ownp, y_own, z_nil, z_int, z_bool, z_str, z_sl, z_nils, b_nil, b_arr, b_box1, b_box2, b_box3, b_box4, List.map_cons, List.map_nil, Bool.and_self, Bool.and_true, Bool.true_and, Bool.not_true, Bool.not_false, Bool.or_false, Bool.false_or, cond_true, cond_false, okPack, okPut, okPutBlks, okPutCells, q_isP, q_isAg, q_isBox, q_isArr, q_int, q_bool, q_str, q_sl, q_nils, e_exit, e_ret, e_nrm, e_ret_exit, e_exit_ret, e_nrm_exit, e_nrm_ret, e_exit_nrm, e_ret_nrm, Nat.zero_add, Nat.reduceAdd, noslR, noslP, noslB, noslA, List.all_cons, List.all_nil, List.length_nil, List.head?_nil, Option.map_none, ratS]
    rfl
  · cases ls with
    | nil => cases h3
    | cons v l =>
      have e1 : ltB 0 (L0.length : Int) = true := by rw [h1]; simp; omega
      have hg : ∀ {α : Type} (K : List PV → Option α), getE (arcK L0) (q.length : Int) K = K (arcC v) := fun K => by rw [h1, ← h2]; exact getE_arc p v l K
      have hv : denC E 60 [AV.agg [PV.int .i64 v.1, PV.int .i64 v.2]] [] = some ([RV.p (PV.int .i64 v.1)], []) := by
        rw [denC_eq, r60]
      rw [e1, hg]
      simp only [arcC, bnd_some, ctl_true, ctl_false, ctl_and, ctl_or', ctl_or2, x_toPV, x_toCs, x_toCs2, x_toEs, x_bEs, x_bCs, x_aPV, x_aCs, x_int, x_bool, x_str, x_es, x_esn, nth_0, nth_1, nth_2, nth_3, nth_4, nth_5, nth_6, nth_7, nth_8, nth_9, y_nil, y_int, y_bool, y_str, y_sl, y_nils, y_agg, y_ownp, y_own, z_nil, z_int, z_bool, z_str, z_sl, z_nils, b_nil, b_arr, b_box1, b_box2, b_box3, b_box4, List.map_cons, List.map_nil, Bool.and_self, Bool.and_true, Bool.true_and, Bool.not_true, Bool.not_false, Bool.or_false, Bool.false_or, cond_true, cond_false, okPack, okPut, okPutBlks, okPutCells, q_isP, q_isAg, q_isBox, q_isArr, q_int, q_bool, q_str, q_sl, q_nils, e_exit, e_ret, e_nrm, e_ret_exit, e_exit_ret, e_nrm_exit, e_nrm_ret, e_exit_nrm, e_ret_nrm, Nat.zero_add, Nat.reduceAdd, noslR, noslP, noslB, noslA, List.all_cons, List.all_nil]
      rw [hv]
      simp only [bnd_some, ctl_true, ctl_false, ctl_and, ctl_or', ctl_or2, x_toPV, x_toCs, x_toCs2, x_toEs, x_bEs, x_bCs, x_aPV, x_aCs, x_int, x_bool, x_str, x_es, x_esn, nth_0, nth_1, nth_2, nth_3, nth_4, nth_5, nth_6, nth_7, nth_8, nth_9, y_nil, y_int, y_bool, y_str, y_sl, y_nils, y_agg, y_ownp, y_own, z_nil, z_int, z_bool, z_str, z_sl, z_nils, b_nil, b_arr, b_box1, b_box2, b_box3, b_box4, List.map_cons, List.map_nil, Bool.and_self, Bool.and_true, Bool.true_and, Bool.not_true, Bool.not_false, Bool.or_false, Bool.false_or, cond_true, cond_false, okPack, okPut, okPutBlks, okPutCells, q_isP, q_isAg, q_isBox, q_isArr, q_int, q_bool, q_str, q_sl, q_nils, e_exit, e_ret, e_nrm, e_ret_exit, e_exit_ret, e_nrm_exit, e_nrm_ret, e_exit_nrm, e_ret_nrm, Nat.zero_add, Nat.reduceAdd, noslR, noslP, noslB, noslA, List.all_cons, List.all_nil, c_Rated]
      rfl

theorem lat_loop (k : Int) (L0 : List (Int × Int)) : ∀ (ts q : List Thr) (ls : List (Int × Int)) (acc : List Div.Shr), (∀ t ∈ ts, t.fb.length ≤ maxLen) → Rest L0 ls q.length ts.length → acc.length = q.length → (q ++ ts).length ≤ 8 →
    lp E (denC E) 31 0 [] 0 { vals := [AV.int .i64 k, AV.sl 6 (thK (q ++ ts)), AV.int .i64 ((q ++ ts).length : Int), AV.int .i64 (q.length : Int)], blks := [Blk.box [AV.sl 6 (thK (q ++ ts)), AV.sl 2 (arcK L0)], Blk.arr 3 (Div.shK acc)] } =
      some (Ex.exit 0, { vals := [], blks := [Blk.arr 3 (Div.shK (acc ++ lats k ts ls))] })
  | [], q, ls, acc, hs, hr, ha, h => by
    rw [r31_0, ctl_dec, if_neg (by simp)]
    simp [lats]
  | t :: ts, q, ls, acc, hs, hr, ha, h => by
    have ih := lat_loop k L0 ts (q ++ [t]) ls.tail (acc ++ [latS k t ls.head?]) (fun x hx => hs x (List.mem_cons_of_mem _ hx)) (by simpa using Rest_step hr) (by simp [ha]) (by simp at h ⊢; omega)
    simp only [List.append_assoc, List.cons_append, List.nil_append, List.length_append, List.length_cons, List.length_nil] at ih h
    rw [r31_0, ctl_dec, if_pos (by simp; omega), getE_th]
    have hL := c_latF (hs t (List.mem_cons_self ..))
    have hR := c_ratedA (t := t) hr (latF t).1 (latF t).2
    have e2 : leN (((Div.shK acc).length + 1) * 24) 140737488355328 = true := by rw [Div.shK_length]; simp only [decide_eq_true_eq]; omega
    unfold thC at hL
    unfold thC
    simp only [bnd_some, ctl_true, ctl_false, ctl_and, ctl_or', ctl_or2, x_toPV, x_toCs, x_toCs2, x_toEs, x_bEs, x_bCs, x_aPV, x_aCs, x_int, x_bool, x_str, x_es, x_esn, nth_0, nth_1, nth_2, nth_3, nth_4, nth_5, nth_6, nth_7, nth_8, nth_9, y_nil, y_int, y_bool, y_str, y_sl, y_nils, y_agg, y_ownp, y_own, z_nil, z_int, z_bool, z_str, z_sl, z_nils, b_nil, b_arr, b_box1, b_box2, b_box3, b_box4, List.map_cons, List.map_nil, Bool.and_self, Bool.and_true, Bool.true_and, Bool.not_true, Bool.not_false, Bool.or_false, Bool.false_or, cond_true, cond_false, okPack, okPut, okPutBlks, okPutCells, q_isP, q_isAg, q_isBox, q_isArr, q_int, q_bool, q_str, q_sl, q_nils, e_exit, e_ret, e_nrm, e_ret_exit, e_exit_ret, e_nrm_exit, e_nrm_ret, e_exit_nrm, e_ret_nrm, Nat.zero_add, Nat.reduceAdd, noslR, noslP, noslB, noslA, List.all_cons, List.all_nil, e2]
    rw [w64 (n := (q.length : Int) + 1) (by omega)]
    have e1 : ((q.length : Int) + 1) = ((q.length + (0 + 1) : Nat) : Int) := by omega
    simp only [List.length_append, List.length_cons] at *
    rw [e1]
    rw [Div.shK_append] at ih
    by_cases hk : t.st = k
    · have f : (t.st != k) = false := by simpa using hk
      have el : latS k t ls.head? = ratS t ((latF t).1, (latF t).2) (ls.head?.map Prod.snd) := by unfold latS; rw [if_pos hk]
      rw [f, ctl_false, hL]
      simp only [bnd_some, ctl_true, ctl_false, ctl_and, ctl_or', ctl_or2, x_toPV, x_toCs, x_toCs2, x_toEs, x_bEs, x_bCs, x_aPV, x_aCs, x_int, x_bool, x_str, x_es, x_esn, nth_0, nth_1, nth_2, nth_3, nth_4, nth_5, nth_6, nth_7, nth_8, nth_9, y_nil, y_int, y_bool, y_str, y_sl, y_nils, y_agg, y_ownp, y_own, z_nil, z_int, z_bool, z_str, z_sl, z_nils, b_nil, b_arr, b_box1, b_box2, b_box3, b_box4, List.map_cons, List.map_nil, Bool.and_self, Bool.and_true, Bool.true_and, Bool.not_true, Bool.not_false, Bool.or_false, Bool.false_or, cond_true, cond_false, okPack, okPut, okPutBlks, okPutCells, q_isP, q_isAg, q_isBox, q_isArr, q_int, q_bool, q_str, q_sl, q_nils, e_exit, e_ret, e_nrm, e_ret_exit, e_exit_ret, e_nrm_exit, e_nrm_ret, e_exit_nrm, e_ret_nrm, Nat.zero_add, Nat.reduceAdd, noslR, noslP, noslB, noslA, List.all_cons, List.all_nil]
      rw [hR]
      unfold Div.shC
      simp only [bnd_some, ctl_true, ctl_false, ctl_and, ctl_or', ctl_or2, x_toPV, x_toCs, x_toCs2, x_toEs, x_bEs, x_bCs, x_aPV, x_aCs, x_int, x_bool, x_str, x_es, x_esn, nth_0, nth_1, nth_2, nth_3, nth_4, nth_5, nth_6, nth_7, nth_8, nth_9, y_nil, y_int, y_bool, y_str, y_sl, y_nils, y_agg, y_ownp, y_own, z_nil, z_int, z_bool, z_str, z_sl, z_nils, b_nil, b_arr, b_box1, b_box2, b_box3, b_box4, List.map_cons, List.map_nil, Bool.and_self, Bool.and_true, Bool.true_and, Bool.not_true, Bool.not_false, Bool.or_false, Bool.false_or, cond_true, cond_false, okPack, okPut, okPutBlks, okPutCells, q_isP, q_isAg, q_isBox, q_isArr, q_int, q_bool, q_str, q_sl, q_nils, e_exit, e_ret, e_nrm, e_ret_exit, e_exit_ret, e_nrm_exit, e_nrm_ret, e_exit_nrm, e_ret_nrm, Nat.zero_add, Nat.reduceAdd, noslR, noslP, noslB, noslA, List.all_cons, List.all_nil]
      rw [el] at ih
      refine Eq.trans ih ?_
      simp only [lats, el]
    · have f : (t.st != k) = true := by simpa using hk
      have el : latS k t ls.head? = ⟨0, 0, t.ct⟩ := by unfold latS; rw [if_neg hk]
      rw [f, ctl_true]
      rw [el] at ih
      refine Eq.trans ih ?_
      simp only [lats, el]

theorem c_laterals {W : List Thr} (hW : W.length ≤ 8) (hs : ∀ t ∈ W, t.fb.length ≤ maxLen) {ls : List (Int × Int)} (hl : ls = [] ∨ ls.length = W.length) (k : Int) :
    denC E 31 [AV.agg [PV.sl 6 (thK W), PV.sl 2 (arcK ls)], AV.int .i64 k] [] = some ([RV.p (PV.sl 3 (Div.shK (lats k W ls)))], []) := by
  have l1 := lat_loop k ls W [] ls [] hs (by rcases hl with h | h; exact .inl ⟨h, h⟩; exact .inr ⟨[], rfl, rfl, h⟩) rfl (by simpa using hW)
  simp only [List.nil_append, List.length_nil] at l1
  have e0 : (((0 : Nat)) : Int) = 0 := rfl
  have ea : Div.shK [] = [] := rfl
  rw [e0, ea] at l1
  rw [denC_eq, r31, thK_length, l1]
  simp only [bnd_some, ctl_true, ctl_false, ctl_and, ctl_or', ctl_or2, x_toPV, x_toCs, x_toCs2, x_toEs, x_bEs, x_bCs, x_aPV, x_aCs, x_int, x_bool, x_str, x_es, x_esn, nth_0, nth_1, nth_2, nth_3, nth_4, nth_5, nth_6, nth_7, nth_8, nth_9, y_nil, y_int, y_bool, y_str, y_sl, y_nils, y_agg, y_ownp, y_own, z_nil, z_int, z_bool, z_str, z_sl, z_nils, b_nil, b_arr, b_box1, b_box2, b_box3, b_box4, List.map_cons, List.map_nil, Bool.and_self, Bool.and_true, Bool.true_and, Bool.not_true, Bool.not_false, Bool.or_false, Bool.false_or, cond_true, cond_false, okPack, okPut, okPutBlks, okPutCells, q_isP, q_isAg, q_isBox, q_isArr, q_int, q_bool, q_str, q_sl, q_nils, e_exit, e_ret, e_nrm, e_ret_exit, e_exit_ret, e_nrm_exit, e_nrm_ret, e_exit_nrm, e_ret_nrm, Nat.zero_add, Nat.reduceAdd, noslR, noslP, noslB, noslA, List.all_cons, List.all_nil]

theorem lon_loop (L0 : List (Int × Int)) : ∀ (ts q : List Thr) (ys py : List Int) (ls : List (Int × Int)) (acc : List Div.Shr), (∀ t ∈ ts, t.fb.length ≤ maxLen) → Rest L0 ls q.length ts.length → acc.length = q.length → py.length = q.length → ys.length = ts.length → (q ++ ts).length ≤ 8 →
    lp E (denC E) 32 0 [] 0 { vals := [AV.sl 1 (intsK .i64 (py ++ ys)), AV.sl 6 (thK (q ++ ts)), AV.int .i64 ((q ++ ts).length : Int), AV.int .i64 (q.length : Int)], blks := [Blk.box [AV.sl 6 (thK (q ++ ts)), AV.sl 2 (arcK L0)], Blk.arr 3 (Div.shK acc)] } =
      some (Ex.exit 0, { vals := [], blks := [Blk.arr 3 (Div.shK (acc ++ lons ts ys ls))] })
  | [], q, ys, py, ls, acc, hs, hr, ha, hp, hy, h => by
    rw [r32_0, ctl_dec, if_neg (by simp)]
    simp [lons]
  | t :: ts, q, [], py, ls, acc, hs, hr, ha, hp, hy, h => by cases hy
  | t :: ts, q, y :: ys, py, ls, acc, hs, hr, ha, hp, hy, h => by
    have ih := lon_loop L0 ts (q ++ [t]) ys (py ++ [y]) ls.tail (acc ++ [lonS t y ls.head?]) (fun x hx => hs x (List.mem_cons_of_mem _ hx)) (by simpa using Rest_step hr) (by simp [ha]) (by simp [hp]) (by simpa using hy) (by simp at h ⊢; omega)
    simp only [List.append_assoc, List.cons_append, List.nil_append, List.length_append, List.length_cons, List.length_nil] at ih h
    have hg : ∀ {α : Type} (K : List PV → Option α), getE (intsK .i64 (py ++ y :: ys)) (q.length : Int) K = K [PV.int .i64 y] := fun K => by rw [← hp]; exact getE_int1 py y ys K
    rw [r32_0, ctl_dec, if_pos (by simp; omega), getE_th, hg]
    have hL := c_lonF (hs t (List.mem_cons_self ..)) y
    have hR := c_ratedB (t := t) hr (lonF t y).1 (lonF t y).2
    have e2 : leN (((Div.shK acc).length + 1) * 24) 140737488355328 = true := by rw [Div.shK_length]; simp only [decide_eq_true_eq]; omega
    unfold thC at hL
    unfold thC
    simp only [bnd_some, ctl_true, ctl_false, ctl_and, ctl_or', ctl_or2, x_toPV, x_toCs, x_toCs2, x_toEs, x_bEs, x_bCs, x_aPV, x_aCs, x_int, x_bool, x_str, x_es, x_esn, nth_0, nth_1, nth_2, nth_3, nth_4, nth_5, nth_6, nth_7, nth_8, nth_9, y_nil, y_int, y_bool, y_str, y_sl, y_nils, y_agg, y_ownp, y_own, z_nil, z_int, z_bool, z_str, z_sl, z_nils, b_nil, b_arr, b_box1, b_box2, b_box3, b_box4, List.map_cons, List.map_nil, Bool.and_self, Bool.and_true, Bool.true_and, Bool.not_true, Bool.not_false, Bool.or_false, Bool.false_or, cond_true, cond_false, okPack, okPut, okPutBlks, okPutCells, q_isP, q_isAg, q_isBox, q_isArr, q_int, q_bool, q_str, q_sl, q_nils, e_exit, e_ret, e_nrm, e_ret_exit, e_exit_ret, e_nrm_exit, e_nrm_ret, e_exit_nrm, e_ret_nrm, Nat.zero_add, Nat.reduceAdd, noslR, noslP, noslB, noslA, List.all_cons, List.all_nil, e2]
    rw [w64 (n := (q.length : Int) + 1) (by omega)]
    have e1 : ((q.length : Int) + 1) = ((q.length + (0 + 1) : Nat) : Int) := by omega
    simp only [List.length_append, List.length_cons] at *
    rw [e1]
    rw [Div.shK_append] at ih
    have el : lonS t y ls.head? = ratS t ((lonF t y).1, (lonF t y).2) (ls.head?.map Prod.fst) := rfl
    rw [hL]
    simp only [bnd_some, ctl_true, ctl_false, ctl_and, ctl_or', ctl_or2, x_toPV, x_toCs, x_toCs2, x_toEs, x_bEs, x_bCs, x_aPV, x_aCs, x_int, x_bool, x_str, x_es, x_esn, nth_0, nth_1, nth_2, nth_3, nth_4, nth_5, nth_6, nth_7, nth_8, nth_9, y_nil, y_int, y_bool, y_str, y_sl, y_nils, y_agg, y_ownp, y_own, z_nil, z_int, z_bool, z_str, z_sl, z_nils, b_nil, b_arr, b_box1, b_box2, b_box3, b_box4, List.map_cons, List.map_nil, Bool.and_self, Bool.and_true, Bool.true_and, Bool.not_true, Bool.not_false, Bool.or_false, Bool.false_or, cond_true, cond_false, okPack, okPut, okPutBlks, okPutCells, q_isP, q_isAg, q_isBox, q_isArr, q_int, q_bool, q_str, q_sl, q_nils, e_exit, e_ret, e_nrm, e_ret_exit, e_exit_ret, e_nrm_exit, e_nrm_ret, e_exit_nrm, e_ret_nrm, Nat.zero_add, Nat.reduceAdd, noslR, noslP, noslB, noslA, List.all_cons, List.all_nil]
    rw [hR]
    unfold Div.shC
    simp only [bnd_some, ctl_true, ctl_false, ctl_and, ctl_or', ctl_or2, x_toPV, x_toCs, x_toCs2, x_toEs, x_bEs, x_bCs, x_aPV, x_aCs, x_int, x_bool, x_str, x_es, x_esn, nth_0, nth_1, nth_2, nth_3, nth_4, nth_5, nth_6, nth_7, nth_8, nth_9, y_nil, y_int, y_bool, y_str, y_sl, y_nils, y_agg, y_ownp, y_own, z_nil, z_int, z_bool, z_str, z_sl, z_nils, b_nil, b_arr, b_box1, b_box2, b_box3, b_box4, List.map_cons, List.map_nil, Bool.and_self, Bool.and_true, Bool.true_and, Bool.not_true, Bool.not_false, Bool.or_false, Bool.false_or, cond_true, cond_false, okPack, okPut, okPutBlks, okPutCells, q_isP, q_isAg, q_isBox, q_isArr, q_int, q_bool, q_str, q_sl, q_nils, e_exit, e_ret, e_nrm, e_ret_exit, e_exit_ret, e_nrm_exit, e_nrm_ret, e_exit_nrm, e_ret_nrm, Nat.zero_add, Nat.reduceAdd, noslR, noslP, noslB, noslA, List.all_cons, List.all_nil]
    rw [el] at ih
    refine Eq.trans ih ?_
    simp only [lons, el]

theorem c_surges {W : List Thr} (hW : W.length ≤ 8) (hs : ∀ t ∈ W, t.fb.length ≤ maxLen) {ls : List (Int × Int)} (hl : ls = [] ∨ ls.length = W.length) {ys : List Int} (hy : ys.length = W.length) :
    denC E 32 [AV.agg [PV.sl 6 (thK W), PV.sl 2 (arcK ls)], AV.sl 1 (intsK .i64 ys)] [] = some ([RV.own 3 (Div.shK (lons W ys ls))], []) := by
  have l1 := lon_loop ls W [] ys [] ls [] hs (by rcases hl with h | h; exact .inl ⟨h, h⟩; exact .inr ⟨[], rfl, rfl, h⟩) rfl rfl hy (by simpa using hW)
  simp only [List.nil_append, List.length_nil] at l1
  have e0 : (((0 : Nat)) : Int) = 0 := rfl
  have ea : Div.shK [] = [] := rfl
  rw [e0, ea] at l1
  rw [denC_eq, r32, thK_length, l1]
  simp only [bnd_some, ctl_true, ctl_false, ctl_and, ctl_or', ctl_or2, x_toPV, x_toCs, x_toCs2, x_toEs, x_bEs, x_bCs, x_aPV, x_aCs, x_int, x_bool, x_str, x_es, x_esn, nth_0, nth_1, nth_2, nth_3, nth_4, nth_5, nth_6, nth_7, nth_8, nth_9, y_nil, y_int, y_bool, y_str, y_sl, y_nils, y_agg, y_ownp, y_own, z_nil, z_int, z_bool, z_str, z_sl, z_nils, b_nil, b_arr, b_box1, b_box2, b_box3, b_box4, List.map_cons, List.map_nil, Bool.and_self, Bool.and_true, Bool.true_and, Bool.not_true, Bool.not_false, Bool.or_false, Bool.false_or, cond_true, cond_false, okPack, okPut, okPutBlks, okPutCells, q_isP, q_isAg, q_isBox, q_isArr, q_int, q_bool, q_str, q_sl, q_nils, e_exit, e_ret, e_nrm, e_ret_exit, e_exit_ret, e_nrm_exit, e_nrm_ret, e_exit_nrm, e_ret_nrm, Nat.zero_add, Nat.reduceAdd, noslR, noslP, noslB, noslA, List.all_cons, List.all_nil]

/-! ### Divide -/
theorem add_loop (s : Shp) (d0 d1 d2 : Int) (W0 W1 : List (List PV)) : ∀ (ys bs dn pb : List Int), dn.length = pb.length → ys.length = bs.length → (dn ++ ys).length ≤ 8 → (∀ y ∈ ys, -5000 ≤ y ∧ y ≤ 5000) → (∀ y ∈ bs, -5000 ≤ y ∧ y ≤ 5000) →
    lp E (denC E) 10 0 [] 0 { vals := [AV.sl 1 (intsK .i64 (pb ++ bs)), AV.int .i64 ((dn ++ ys).length : Int), AV.int .i64 (dn.length : Int)], blks := [Blk.box [AV.int .i64 s.bw, AV.int .i64 s.sn, AV.sl 6 (thK s.ts)], Blk.box [AV.int .i64 d0, AV.int .i64 d1, AV.int .i64 d2], Blk.box [AV.sl 2 [], AV.int .i64 0, AV.int .i64 0, AV.int .i64 0, AV.int .i64 0, AV.int .i64 0, AV.int .i64 0], Blk.box [AV.sl 6 W0, AV.sl 2 W1], Blk.arr 1 (intsK .i64 (dn ++ ys))] } =
      some (Ex.exit 0, { vals := [], blks := [Blk.box [AV.int .i64 s.bw, AV.int .i64 s.sn, AV.sl 6 (thK s.ts)], Blk.box [AV.int .i64 d0, AV.int .i64 d1, AV.int .i64 d2], Blk.box [AV.sl 2 [], AV.int .i64 0, AV.int .i64 0, AV.int .i64 0, AV.int .i64 0, AV.int .i64 0, AV.int .i64 0], Blk.box [AV.sl 6 W0, AV.sl 2 W1], Blk.arr 1 (intsK .i64 (dn ++ addL ys bs))] })
  | [], bs, dn, pb, hd, hl, h, hy, hb => by
    rw [r10_0, ctl_dec, if_neg (by simp)]
    simp [addL]
  | _ :: _, [], dn, pb, hd, hl, h, hy, hb => by cases hl
  | y :: ys, b :: bs, dn, pb, hd, hl, h, hy, hb => by
    have y1 := hy y (List.mem_cons_self ..)
    have b1 := hb b (List.mem_cons_self ..)
    have ih := add_loop s d0 d1 d2 W0 W1 ys bs (dn ++ [y + b]) (pb ++ [b]) (by simp [hd]) (by simpa using hl) (by simp at h ⊢; omega) (fun z hz => hy z (List.mem_cons_of_mem _ hz)) (fun z hz => hb z (List.mem_cons_of_mem _ hz))
    simp only [List.append_assoc, List.cons_append, List.nil_append, List.length_append, List.length_cons, List.length_nil] at ih h
    have hg : ∀ {α : Type} (K : List PV → Option α), getE (intsK .i64 (pb ++ b :: bs)) (dn.length : Int) K = K [PV.int .i64 b] := fun K => by rw [hd]; exact getE_int1 pb b bs K
    have i0 : leB 0 (dn.length : Int) = true := by simp
    have i1 : ltB (dn.length : Int) ((intsK .i64 (dn ++ y :: ys)).length : Int) = true := by rw [intsK_length]; simp; omega
    have i2 : nth [] (intsK .i64 (dn ++ y :: ys)) ((dn.length : Int)).toNat = [PV.int .i64 y] := by
      rw [Int.toNat_natCast]; exact Div.nth_mid dn y ys
    have i3 : okCs [Sh.int .i64] (List.take 1 (List.drop 0 [PV.int .i64 y])) = true := rfl
    rw [r10_0, ctl_dec, if_pos (by simp; omega)]
    simp only [bnd_some, ctl_true, ctl_false, ctl_and, ctl_or', ctl_or2, x_toPV, x_toCs, x_toCs2, x_toEs, x_bEs, x_bCs, x_aPV, x_aCs, x_int, x_bool, x_str, x_es, x_esn, nth_0, nth_1, nth_2, nth_3, nth_4, nth_5, nth_6, nth_7, nth_8, nth_9, y_nil, y_int, y_bool, y_str, y_sl, y_nils, y_agg, y_ownp, y_own, z_nil, z_int, z_bool, z_str, z_sl, z_nils, b_nil, b_arr, b_box1, b_box2, b_box3, b_box4, List.map_cons, List.map_nil, Bool.and_self, Bool.and_true, Bool.true_and, Bool.not_true, Bool.not_false, Bool.or_false, Bool.false_or, cond_true, cond_false, okPack, okPut, okPutBlks, okPutCells, q_isP, q_isAg, q_isBox, q_isArr, q_int, q_bool, q_str, q_sl, q_nils, e_exit, e_ret, e_nrm, e_ret_exit, e_exit_ret, e_nrm_exit, e_nrm_ret, e_exit_nrm, e_ret_nrm, Nat.zero_add, Nat.reduceAdd, noslR, noslP, noslB, noslA, List.all_cons, List.all_nil, i0, i1, i2, i3]
    rw [hg]
    simp only [bnd_some, ctl_true, ctl_false, ctl_and, ctl_or', ctl_or2, x_toPV, x_toCs, x_toCs2, x_toEs, x_bEs, x_bCs, x_aPV, x_aCs, x_int, x_bool, x_str, x_es, x_esn, nth_0, nth_1, nth_2, nth_3, nth_4, nth_5, nth_6, nth_7, nth_8, nth_9, y_nil, y_int, y_bool, y_str, y_sl, y_nils, y_agg, y_ownp, y_own, z_nil, z_int, z_bool, z_str, z_sl, z_nils, b_nil, b_arr, b_box1, b_box2, b_box3, b_box4, List.map_cons, List.map_nil, Bool.and_self, Bool.and_true, Bool.true_and, Bool.not_true, Bool.not_false, Bool.or_false, Bool.false_or, cond_true, cond_false, okPack, okPut, okPutBlks, okPutCells, q_isP, q_isAg, q_isBox, q_isArr, q_int, q_bool, q_str, q_sl, q_nils, e_exit, e_ret, e_nrm, e_ret_exit, e_exit_ret, e_nrm_exit, e_nrm_ret, e_exit_nrm, e_ret_nrm, Nat.zero_add, Nat.reduceAdd, noslR, noslP, noslB, noslA, List.all_cons, List.all_nil]
    rw [w64 (n := y + b) (by omega), w64 (n := (dn.length : Int) + 1) (by omega), Int.toNat_natCast, Div.setEs_ints (by simp)]
    have eset : (dn ++ y :: ys).set dn.length (y + b) = dn ++ (y + b) :: ys := by
      rw [List.set_append_right _ _ (Nat.le_refl _)]; simp
    have e1 : ((dn.length : Int) + 1) = ((dn.length + (0 + 1) : Nat) : Int) := by omega
    simp only [List.length_append, List.length_cons]
    rw [eset, e1, ih]
    simp only [addL]

theorem pair_loop (s : Shp) (d0 d1 d2 : Int) : ∀ (xs ys px py : List Int) (acc : List (Int × Int)), px.length = py.length → xs.length = ys.length → acc.length = px.length → (px ++ xs).length ≤ 8 →
    lp E (denC E) 10 0 [] 2 { vals := [AV.sl 1 (intsK .i64 (px ++ xs)), AV.int .i64 ((py ++ ys).length : Int), AV.int .i64 (px.length : Int)], blks := [Blk.box [AV.int .i64 s.bw, AV.int .i64 s.sn, AV.sl 6 (thK s.ts)], Blk.box [AV.int .i64 d0, AV.int .i64 d1, AV.int .i64 d2], Blk.box [AV.sl 2 [], AV.int .i64 0, AV.int .i64 0, AV.int .i64 0, AV.int .i64 0, AV.int .i64 0, AV.int .i64 0], Blk.arr 1 (intsK .i64 (py ++ ys)), Blk.box [AV.t (TV.hsl 5), AV.int .i64 0, AV.int .i64 0, AV.int .i64 0, AV.int .i64 0, AV.int .i64 0, AV.int .i64 0], Blk.arr 2 (arcK acc)] } =
      some (Ex.exit 2, { vals := [], blks := [Blk.box [AV.int .i64 s.bw, AV.int .i64 s.sn, AV.sl 6 (thK s.ts)], Blk.box [AV.int .i64 d0, AV.int .i64 d1, AV.int .i64 d2], Blk.box [AV.sl 2 [], AV.int .i64 0, AV.int .i64 0, AV.int .i64 0, AV.int .i64 0, AV.int .i64 0, AV.int .i64 0], Blk.box [AV.t (TV.hsl 4), AV.int .i64 0, AV.int .i64 0, AV.int .i64 0, AV.int .i64 0, AV.int .i64 0, AV.int .i64 0], Blk.arr 2 (arcK (acc ++ pairL xs ys))] })
  | [], [], px, py, acc, hp, hl, ha, h => by
    rw [r10_2, ctl_dec, if_neg (by simp; omega)]
    simp [pairL]
  | [], _ :: _, px, py, acc, hp, hl, ha, h => by cases hl
  | _ :: _, [], px, py, acc, hp, hl, ha, h => by cases hl
  | x :: xs, y :: ys, px, py, acc, hp, hl, ha, h => by
    have ih := pair_loop s d0 d1 d2 xs ys (px ++ [x]) (py ++ [y]) (acc ++ [(x, y)]) (by simp [hp]) (by simpa using hl) (by simp [ha]) (by simp at h ⊢; omega)
    simp only [List.append_assoc, List.cons_append, List.nil_append, List.length_append, List.length_cons, List.length_nil] at ih h hl
    have i0 : leB 0 (px.length : Int) = true := by simp
    have i1 : ltB (px.length : Int) ((intsK .i64 (py ++ y :: ys)).length : Int) = true := by rw [intsK_length]; simp; omega
    have i2 : nth [] (intsK .i64 (py ++ y :: ys)) ((px.length : Int)).toNat = [PV.int .i64 y] := by
      rw [Int.toNat_natCast, hp]; exact Div.nth_mid py y ys
    have i3 : okCs [Sh.int .i64] (List.take 1 (List.drop 0 [PV.int .i64 y])) = true := rfl
    have e2 : leN (((arcK acc).length + 1) * 16) 140737488355328 = true := by rw [arcK_length]; simp only [decide_eq_true_eq]; omega
    rw [r10_2, ctl_dec, if_pos (by simp; omega), getE_int1]
    simp only [bnd_some, ctl_true, ctl_false, ctl_and, ctl_or', ctl_or2, x_toPV, x_toCs, x_toCs2, x_toEs, x_bEs, x_bCs, x_aPV, x_aCs, x_int, x_bool, x_str, x_es, x_esn, nth_0, nth_1, nth_2, nth_3, nth_4, nth_5, nth_6, nth_7, nth_8, nth_9, y_nil, y_int, y_bool, y_str, y_sl, y_nils, y_agg, y_ownp, y_own, z_nil, z_int, z_bool, z_str, z_sl, z_nils, b_nil, b_arr, b_box1, b_box2, b_box3, b_box4, List.map_cons, List.map_nil, Bool.and_self, Bool.and_true, Bool.true_and, Bool.not_true, Bool.not_false, Bool.or_false, Bool.false_or, cond_true, cond_false, okPack, okPut, okPutBlks, okPutCells, q_isP, q_isAg, q_isBox, q_isArr, q_int, q_bool, q_str, q_sl, q_nils, e_exit, e_ret, e_nrm, e_ret_exit, e_exit_ret, e_nrm_exit, e_nrm_ret, e_exit_nrm, e_ret_nrm, Nat.zero_add, Nat.reduceAdd, noslR, noslP, noslB, noslA, List.all_cons, List.all_nil, i0, i1, i2, i3, e2]
    rw [w64 (n := (px.length : Int) + 1) (by omega)]
    have e1 : ((px.length : Int) + 1) = ((px.length + (0 + 1) : Nat) : Int) := by omega
    simp only [List.length_append, List.length_cons]
    rw [e1]
    rw [arcK_append] at ih
    refine Eq.trans ih ?_
    simp only [pairL]

/-- What an allocation gives. -/
noncomputable def gvA (s : Shp) (ms : List Int) (ls : List (Int × Int)) (d0 d1 d2 : Int) : Int × Int × Int := tot s.ts (thA (Ws s.ts ms) ls d0 d1 d2) 0 0 0

theorem wsa {s : Shp} {ms : List Int} {ls : List (Int × Int)} (h : AOk s ms ls) : (Ws s.ts ms).length = s.ts.length ∧ (Ws s.ts ms).length ≤ 8 ∧ (∀ w ∈ Ws s.ts ms, okT w = true) ∧ (∀ w ∈ Ws s.ts ms, w.fb.length ≤ maxLen) ∧ (ls = [] ∨ ls.length = (Ws s.ts ms).length) := by
  have h1 := Ws_length h.ml
  have h2 := Ws_ok (ts := s.ts) (ms := ms) fun t ht => (h.ok.2.2.2.2.2.2 t ht).1
  refine ⟨h1, by rw [h1]; exact h.ok.1, h2, fun w hw => ?_, by rw [h1]; exact h.ll⟩
  have h3 := okT0_iff.1 (okT_iff.1 (h2 w hw)).1
  exact Nat.le_trans h3.2.2.2.2.2.2.2.2.2.2 (by decide)

def Mod3 (d0 d1 d2 : Int) : Prop := (-500000 ≤ d0 ∧ d0 ≤ 500000) ∧ (-500000 ≤ d1 ∧ d1 ≤ 500000) ∧ -500000 ≤ d2 ∧ d2 ≤ 500000

theorem ysA_len {s : Shp} {ms : List Int} {ls : List (Int × Int)} (h : AOk s ms ls) {d0 d1 d2 : Int} (hd : Mod3 d0 d1 d2) : (ysA (Ws s.ts ms) ls d1 d2).length = s.ts.length ∧ ∀ y ∈ ysA (Ws s.ts ms) ls d1 d2, -5000 ≤ y ∧ y ≤ 5000 := by
  obtain ⟨w1, w2, w3, w4, w5⟩ := wsa h
  have o0 := OkL_lats w2 w3 0 ls
  have o1 := OkL_lats w2 w3 1 ls
  have l0 := dv_length o0 hd.2.1
  have l1 := dv_length o1 hd.2.2
  rw [lats_length] at l0 l1
  refine ⟨?_, ys_small w3 (dv_in o1 hd.2.2) (dv_in o0 hd.2.1)⟩
  unfold ysA
  rw [addL_length (by rw [l0, l1]), l1, w1]

theorem xsA_len {s : Shp} {ms : List Int} {ls : List (Int × Int)} (h : AOk s ms ls) {d0 d1 d2 : Int} (hd : Mod3 d0 d1 d2) : (xsA (Ws s.ts ms) ls d0 d1 d2).length = s.ts.length ∧ ∀ y ∈ xsA (Ws s.ts ms) ls d0 d1 d2, -5000 ≤ y ∧ y ≤ 5000 := by
  obtain ⟨w1, w2, w3, w4, w5⟩ := wsa h
  have hy := ysA_len h hd
  have o := OkL_lons w2 w3 (ys := ysA (Ws s.ts ms) ls d1 d2) (by rw [hy.1, w1]) ls
  have l := dv_length o hd.1
  rw [lons_length _ _ _ (by rw [hy.1, w1]), w1] at l
  exact ⟨l, InR_small o.2 (dv_in o hd.1)⟩

theorem thA_len {s : Shp} {ms : List Int} {ls : List (Int × Int)} (h : AOk s ms ls) {d0 d1 d2 : Int} (hd : Mod3 d0 d1 d2) : (thA (Ws s.ts ms) ls d0 d1 d2).length = s.ts.length ∧ SmL (thA (Ws s.ts ms) ls d0 d1 d2) 5000 := by
  have hx := xsA_len h hd
  have hy := ysA_len h hd
  unfold thA
  exact ⟨by rw [pairL_length (by rw [hx.1, hy.1]), hx.1], pair_small hx.2 hy.2⟩

theorem c_less (a0 a1 a2 b0 b1 b2 : Int) (ha : Mod3 a0 a1 a2) (hb : Mod3 b0 b1 b2) : denC E 34 [AV.agg [PV.int .i64 a0, PV.int .i64 a1, PV.int .i64 a2], AV.agg [PV.int .i64 b0, PV.int .i64 b1, PV.int .i64 b2]] [] = some ([RV.agg [PV.int .i64 (a0 - b0), PV.int .i64 (a1 - b1), PV.int .i64 (a2 - b2)]], []) := by
  obtain ⟨x, y, z⟩ := ha
  obtain ⟨u, v, w⟩ := hb
  rw [denC_eq, r34, w64 (n := a0 - b0) (by omega), w64 (n := a1 - b1) (by omega), w64 (n := a2 - b2) (by omega)]

theorem c_ADivide {s : Shp} {ms : List Int} {ls : List (Int × Int)} (h : AOk s ms ls) {d0 d1 d2 : Int} (hd : Mod3 d0 d1 d2) :
    denC E 10 [AV.agg (shpC s), AV.sl 1 (intsK .i64 ms), AV.sl 2 (arcK ls), AV.agg [PV.int .i64 d0, PV.int .i64 d1, PV.int .i64 d2]] [] =
      some ([RV.agg [PV.sl 2 (arcK (thA (Ws s.ts ms) ls d0 d1 d2)), PV.int .i64 (gvA s ms ls d0 d1 d2).1, PV.int .i64 (gvA s ms ls d0 d1 d2).2.1, PV.int .i64 (gvA s ms ls d0 d1 d2).2.2,
        PV.int .i64 (d0 - (gvA s ms ls d0 d1 d2).1), PV.int .i64 (d1 - (gvA s ms ls d0 d1 d2).2.1), PV.int .i64 (d2 - (gvA s ms ls d0 d1 d2).2.2)], RV.p (PV.int .i64 0)], []) := by
  have hO := c_open h hd
  obtain ⟨w1, w2, w3, w4, w5⟩ := wsa h
  have c0 := c_laterals w2 w4 w5 0
  have c1 := c_laterals w2 w4 w5 1
  have o0 := OkL_lats w2 w3 0 ls
  have o1 := OkL_lats w2 w3 1 ls
  have v0 := c_dv o0 hd.2.1
  have v1 := c_dv o1 hd.2.2
  have l0 := dv_length o0 hd.2.1
  have l1 := dv_length o1 hd.2.2
  rw [lats_length] at l0 l1
  have s0 := InR_small o0.2 (dv_in o0 hd.2.1)
  have s1 := InR_small o1.2 (dv_in o1 hd.2.2)
  have hy := ysA_len h hd
  have hx := xsA_len h hd
  have ht := thA_len h hd
  have o2 := OkL_lons w2 w3 (ys := ysA (Ws s.ts ms) ls d1 d2) (by rw [hy.1, w1]) ls
  have c2 := c_surges w2 w4 w5 (ys := ysA (Ws s.ts ms) ls d1 d2) (by rw [hy.1, w1])
  have v2 := c_dv o2 hd.1
  have la := add_loop s d0 d1 d2 (thK (Ws s.ts ms)) (arcK ls) (dv (lats 1 (Ws s.ts ms) ls) d2) (dv (lats 0 (Ws s.ts ms) ls) d1) [] [] rfl (by rw [l0, l1]) (by simpa [l1] using w2) s1 s0
  have hyy : addL (dv (lats 1 (Ws s.ts ms) ls) d2) (dv (lats 0 (Ws s.ts ms) ls) d1) = ysA (Ws s.ts ms) ls d1 d2 := rfl
  have hxx : dv (lons (Ws s.ts ms) (ysA (Ws s.ts ms) ls d1 d2) ls) d0 = xsA (Ws s.ts ms) ls d0 d1 d2 := rfl
  have lb := pair_loop s d0 d1 d2 (xsA (Ws s.ts ms) ls d0 d1 d2) (ysA (Ws s.ts ms) ls d1 d2) [] [] [] rfl (by rw [hx.1, hy.1]) rfl (by simpa [hx.1] using h.ok.1)
  simp only [List.nil_append, List.length_nil] at la lb
  have e0 : (((0 : Nat)) : Int) = 0 := rfl
  have ea : arcK [] = [] := rfl
  rw [e0, hyy] at la
  rw [e0, ea] at lb
  rw [hxx] at v2
  have hth : pairL (xsA (Ws s.ts ms) ls d0 d1 d2) (ysA (Ws s.ts ms) ls d1 d2) = thA (Ws s.ts ms) ls d0 d1 d2 := rfl
  rw [hth] at lb
  have hT := c_Total h.ok (l := thA (Ws s.ts ms) ls d0 d1 d2) ht.1 ht.2
  have hb := tot_bound s.ts (thA (Ws s.ts ms) ls d0 d1 d2) 0 0 0 5000 0 ht.2 (by omega) (by omega) (by omega) (by omega)
  rw [ht.1] at hb
  have h8 := h.ok.1
  have hg : tot s.ts (thA (Ws s.ts ms) ls d0 d1 d2) 0 0 0 = gvA s ms ls d0 d1 d2 := rfl
  rw [hg] at hT hb
  have hls := c_less d0 d1 d2 (gvA s ms ls d0 d1 d2).1 (gvA s ms ls d0 d1 d2).2.1 (gvA s ms ls d0 d1 d2).2.2 hd (by unfold Mod3; omega)
  have n0 : ∀ l : List Int, ((intsK .i64 l).all fun e => e.all noslP) = true := Div.nos_ints
  have n1 := Div.nos_shs (lons (Ws s.ts ms) (ysA (Ws s.ts ms) ls d1 d2) ls)
  have f0 : ((0 : Int) != 0) = false := rfl
  unfold shpC at hO hT ⊢
  rw [denC_eq, r10, hO]
  simp only [bnd_some, ctl_true, ctl_false, ctl_and, ctl_or', ctl_or2, x_toPV, x_toCs, x_toCs2, x_toEs, x_bEs, x_bCs, x_aPV, x_aCs, x_int, x_bool, x_str, x_es, x_esn, nth_0, nth_1, nth_2, nth_3, nth_4, nth_5, nth_6, nth_7, nth_8, nth_9, y_nil, y_int, y_bool, y_str, y_sl, y_nils, y_agg, y_ownp, y_own, z_nil, z_int, z_bool, z_str, z_sl, z_nils, b_nil, b_arr, b_box1, b_box2, b_box3, b_box4, List.map_cons, List.map_nil, Bool.and_self, Bool.and_true, Bool.true_and, Bool.not_true, Bool.not_false, Bool.or_false, Bool.false_or, cond_true, cond_false, okPack, okPut, okPutBlks, okPutCells, q_isP, q_isAg, q_isBox, q_isArr, q_int, q_bool, q_str, q_sl, q_nils, e_exit, e_ret, e_nrm, e_ret_exit, e_exit_ret, e_nrm_exit, e_nrm_ret, e_exit_nrm, e_ret_nrm, Nat.zero_add, Nat.reduceAdd, noslR, noslP, noslB, noslA, List.all_cons, List.all_nil, f0]
  rw [c0]
  simp only [bnd_some, ctl_true, ctl_false, ctl_and, ctl_or', ctl_or2, x_toPV, x_toCs, x_toCs2, x_toEs, x_bEs, x_bCs, x_aPV, x_aCs, x_int, x_bool, x_str, x_es, x_esn, nth_0, nth_1, nth_2, nth_3, nth_4, nth_5, nth_6, nth_7, nth_8, nth_9, y_nil, y_int, y_bool, y_str, y_sl, y_nils, y_agg, y_ownp, y_own, z_nil, z_int, z_bool, z_str, z_sl, z_nils, b_nil, b_arr, b_box1, b_box2, b_box3, b_box4, List.map_cons, List.map_nil, Bool.and_self, Bool.and_true, Bool.true_and, Bool.not_true, Bool.not_false, Bool.or_false, Bool.false_or, cond_true, cond_false, okPack, okPut, okPutBlks, okPutCells, q_isP, q_isAg, q_isBox, q_isArr, q_int, q_bool, q_str, q_sl, q_nils, e_exit, e_ret, e_nrm, e_ret_exit, e_exit_ret, e_nrm_exit, e_nrm_ret, e_exit_nrm, e_ret_nrm, Nat.zero_add, Nat.reduceAdd, noslR, noslP, noslB, noslA, List.all_cons, List.all_nil]
  rw [v0]
  simp only [bnd_some, ctl_true, ctl_false, ctl_and, ctl_or', ctl_or2, x_toPV, x_toCs, x_toCs2, x_toEs, x_bEs, x_bCs, x_aPV, x_aCs, x_int, x_bool, x_str, x_es, x_esn, nth_0, nth_1, nth_2, nth_3, nth_4, nth_5, nth_6, nth_7, nth_8, nth_9, y_nil, y_int, y_bool, y_str, y_sl, y_nils, y_agg, y_ownp, y_own, z_nil, z_int, z_bool, z_str, z_sl, z_nils, b_nil, b_arr, b_box1, b_box2, b_box3, b_box4, List.map_cons, List.map_nil, Bool.and_self, Bool.and_true, Bool.true_and, Bool.not_true, Bool.not_false, Bool.or_false, Bool.false_or, cond_true, cond_false, okPack, okPut, okPutBlks, okPutCells, q_isP, q_isAg, q_isBox, q_isArr, q_int, q_bool, q_str, q_sl, q_nils, e_exit, e_ret, e_nrm, e_ret_exit, e_exit_ret, e_nrm_exit, e_nrm_ret, e_exit_nrm, e_ret_nrm, Nat.zero_add, Nat.reduceAdd, noslR, noslP, noslB, noslA, List.all_cons, List.all_nil, n0]
  rw [c1]
  simp only [bnd_some, ctl_true, ctl_false, ctl_and, ctl_or', ctl_or2, x_toPV, x_toCs, x_toCs2, x_toEs, x_bEs, x_bCs, x_aPV, x_aCs, x_int, x_bool, x_str, x_es, x_esn, nth_0, nth_1, nth_2, nth_3, nth_4, nth_5, nth_6, nth_7, nth_8, nth_9, y_nil, y_int, y_bool, y_str, y_sl, y_nils, y_agg, y_ownp, y_own, z_nil, z_int, z_bool, z_str, z_sl, z_nils, b_nil, b_arr, b_box1, b_box2, b_box3, b_box4, List.map_cons, List.map_nil, Bool.and_self, Bool.and_true, Bool.true_and, Bool.not_true, Bool.not_false, Bool.or_false, Bool.false_or, cond_true, cond_false, okPack, okPut, okPutBlks, okPutCells, q_isP, q_isAg, q_isBox, q_isArr, q_int, q_bool, q_str, q_sl, q_nils, e_exit, e_ret, e_nrm, e_ret_exit, e_exit_ret, e_nrm_exit, e_nrm_ret, e_exit_nrm, e_ret_nrm, Nat.zero_add, Nat.reduceAdd, noslR, noslP, noslB, noslA, List.all_cons, List.all_nil]
  rw [v1]
  simp only [bnd_some, ctl_true, ctl_false, ctl_and, ctl_or', ctl_or2, x_toPV, x_toCs, x_toCs2, x_toEs, x_bEs, x_bCs, x_aPV, x_aCs, x_int, x_bool, x_str, x_es, x_esn, nth_0, nth_1, nth_2, nth_3, nth_4, nth_5, nth_6, nth_7, nth_8, nth_9, y_nil, y_int, y_bool, y_str, y_sl, y_nils, y_agg, y_ownp, y_own, z_nil, z_int, z_bool, z_str, z_sl, z_nils, b_nil, b_arr, b_box1, b_box2, b_box3, b_box4, List.map_cons, List.map_nil, Bool.and_self, Bool.and_true, Bool.true_and, Bool.not_true, Bool.not_false, Bool.or_false, Bool.false_or, cond_true, cond_false, okPack, okPut, okPutBlks, okPutCells, q_isP, q_isAg, q_isBox, q_isArr, q_int, q_bool, q_str, q_sl, q_nils, e_exit, e_ret, e_nrm, e_ret_exit, e_exit_ret, e_nrm_exit, e_nrm_ret, e_exit_nrm, e_ret_nrm, Nat.zero_add, Nat.reduceAdd, noslR, noslP, noslB, noslA, List.all_cons, List.all_nil, n0]
  rw [intsK_length, la]
  simp only [bnd_some, ctl_true, ctl_false, ctl_and, ctl_or', ctl_or2, x_toPV, x_toCs, x_toCs2, x_toEs, x_bEs, x_bCs, x_aPV, x_aCs, x_int, x_bool, x_str, x_es, x_esn, nth_0, nth_1, nth_2, nth_3, nth_4, nth_5, nth_6, nth_7, nth_8, nth_9, y_nil, y_int, y_bool, y_str, y_sl, y_nils, y_agg, y_ownp, y_own, z_nil, z_int, z_bool, z_str, z_sl, z_nils, b_nil, b_arr, b_box1, b_box2, b_box3, b_box4, List.map_cons, List.map_nil, Bool.and_self, Bool.and_true, Bool.true_and, Bool.not_true, Bool.not_false, Bool.or_false, Bool.false_or, cond_true, cond_false, okPack, okPut, okPutBlks, okPutCells, q_isP, q_isAg, q_isBox, q_isArr, q_int, q_bool, q_str, q_sl, q_nils, e_exit, e_ret, e_nrm, e_ret_exit, e_exit_ret, e_nrm_exit, e_nrm_ret, e_exit_nrm, e_ret_nrm, Nat.zero_add, Nat.reduceAdd, noslR, noslP, noslB, noslA, List.all_cons, List.all_nil]
  rw [c2]
  simp only [bnd_some, ctl_true, ctl_false, ctl_and, ctl_or', ctl_or2, x_toPV, x_toCs, x_toCs2, x_toEs, x_bEs, x_bCs, x_aPV, x_aCs, x_int, x_bool, x_str, x_es, x_esn, nth_0, nth_1, nth_2, nth_3, nth_4, nth_5, nth_6, nth_7, nth_8, nth_9, y_nil, y_int, y_bool, y_str, y_sl, y_nils, y_agg, y_ownp, y_own, z_nil, z_int, z_bool, z_str, z_sl, z_nils, b_nil, b_arr, b_box1, b_box2, b_box3, b_box4, List.map_cons, List.map_nil, Bool.and_self, Bool.and_true, Bool.true_and, Bool.not_true, Bool.not_false, Bool.or_false, Bool.false_or, cond_true, cond_false, okPack, okPut, okPutBlks, okPutCells, q_isP, q_isAg, q_isBox, q_isArr, q_int, q_bool, q_str, q_sl, q_nils, e_exit, e_ret, e_nrm, e_ret_exit, e_exit_ret, e_nrm_exit, e_nrm_ret, e_exit_nrm, e_ret_nrm, Nat.zero_add, Nat.reduceAdd, noslR, noslP, noslB, noslA, List.all_cons, List.all_nil, n1]
  rw [v2]
  simp only [bnd_some, ctl_true, ctl_false, ctl_and, ctl_or', ctl_or2, x_toPV, x_toCs, x_toCs2, x_toEs, x_bEs, x_bCs, x_aPV, x_aCs, x_int, x_bool, x_str, x_es, x_esn, nth_0, nth_1, nth_2, nth_3, nth_4, nth_5, nth_6, nth_7, nth_8, nth_9, y_nil, y_int, y_bool, y_str, y_sl, y_nils, y_agg, y_ownp, y_own, z_nil, z_int, z_bool, z_str, z_sl, z_nils, b_nil, b_arr, b_box1, b_box2, b_box3, b_box4, List.map_cons, List.map_nil, Bool.and_self, Bool.and_true, Bool.true_and, Bool.not_true, Bool.not_false, Bool.or_false, Bool.false_or, cond_true, cond_false, okPack, okPut, okPutBlks, okPutCells, q_isP, q_isAg, q_isBox, q_isArr, q_int, q_bool, q_str, q_sl, q_nils, e_exit, e_ret, e_nrm, e_ret_exit, e_exit_ret, e_nrm_exit, e_nrm_ret, e_exit_nrm, e_ret_nrm, Nat.zero_add, Nat.reduceAdd, noslR, noslP, noslB, noslA, List.all_cons, List.all_nil, n0]
  rw [intsK_length, lb]
  simp only [bnd_some, ctl_true, ctl_false, ctl_and, ctl_or', ctl_or2, x_toPV, x_toCs, x_toCs2, x_toEs, x_bEs, x_bCs, x_aPV, x_aCs, x_int, x_bool, x_str, x_es, x_esn, nth_0, nth_1, nth_2, nth_3, nth_4, nth_5, nth_6, nth_7, nth_8, nth_9, y_nil, y_int, y_bool, y_str, y_sl, y_nils, y_agg, y_ownp, y_own, z_nil, z_int, z_bool, z_str, z_sl, z_nils, b_nil, b_arr, b_box1, b_box2, b_box3, b_box4, List.map_cons, List.map_nil, Bool.and_self, Bool.and_true, Bool.true_and, Bool.not_true, Bool.not_false, Bool.or_false, Bool.false_or, cond_true, cond_false, okPack, okPut, okPutBlks, okPutCells, q_isP, q_isAg, q_isBox, q_isArr, q_int, q_bool, q_str, q_sl, q_nils, e_exit, e_ret, e_nrm, e_ret_exit, e_exit_ret, e_nrm_exit, e_nrm_ret, e_exit_nrm, e_ret_nrm, Nat.zero_add, Nat.reduceAdd, noslR, noslP, noslB, noslA, List.all_cons, List.all_nil]
  rw [hT]
  simp only [bnd_some, ctl_true, ctl_false, ctl_and, ctl_or', ctl_or2, x_toPV, x_toCs, x_toCs2, x_toEs, x_bEs, x_bCs, x_aPV, x_aCs, x_int, x_bool, x_str, x_es, x_esn, nth_0, nth_1, nth_2, nth_3, nth_4, nth_5, nth_6, nth_7, nth_8, nth_9, y_nil, y_int, y_bool, y_str, y_sl, y_nils, y_agg, y_ownp, y_own, z_nil, z_int, z_bool, z_str, z_sl, z_nils, b_nil, b_arr, b_box1, b_box2, b_box3, b_box4, List.map_cons, List.map_nil, Bool.and_self, Bool.and_true, Bool.true_and, Bool.not_true, Bool.not_false, Bool.or_false, Bool.false_or, cond_true, cond_false, okPack, okPut, okPutBlks, okPutCells, q_isP, q_isAg, q_isBox, q_isArr, q_int, q_bool, q_str, q_sl, q_nils, e_exit, e_ret, e_nrm, e_ret_exit, e_exit_ret, e_nrm_exit, e_nrm_ret, e_exit_nrm, e_ret_nrm, Nat.zero_add, Nat.reduceAdd, noslR, noslP, noslB, noslA, List.all_cons, List.all_nil]
  rw [hls]
  simp only [bnd_some, ctl_true, ctl_false, ctl_and, ctl_or', ctl_or2, x_toPV, x_toCs, x_toCs2, x_toEs, x_bEs, x_bCs, x_aPV, x_aCs, x_int, x_bool, x_str, x_es, x_esn, nth_0, nth_1, nth_2, nth_3, nth_4, nth_5, nth_6, nth_7, nth_8, nth_9, y_nil, y_int, y_bool, y_str, y_sl, y_nils, y_agg, y_ownp, y_own, z_nil, z_int, z_bool, z_str, z_sl, z_nils, b_nil, b_arr, b_box1, b_box2, b_box3, b_box4, List.map_cons, List.map_nil, Bool.and_self, Bool.and_true, Bool.true_and, Bool.not_true, Bool.not_false, Bool.or_false, Bool.false_or, cond_true, cond_false, okPack, okPut, okPutBlks, okPutCells, q_isP, q_isAg, q_isBox, q_isArr, q_int, q_bool, q_str, q_sl, q_nils, e_exit, e_ret, e_nrm, e_ret_exit, e_exit_ret, e_nrm_exit, e_nrm_ret, e_exit_nrm, e_ret_nrm, Nat.zero_add, Nat.reduceAdd, noslR, noslP, noslB, noslA, List.all_cons, List.all_nil]

end Go.Proofs.Ytcnjaffogkkpnaa.Vm
