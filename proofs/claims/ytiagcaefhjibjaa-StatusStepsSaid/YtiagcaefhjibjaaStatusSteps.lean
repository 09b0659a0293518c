/- The law StatusSteps comes to true. -/
import Derived.Test.YtiagcaefhjibjaaStatusL
namespace Go.Proofs.Ytiagcaefhjibjaa.Vm
set_option linter.unusedVariables false
set_option linter.unusedSimpArgs false

theorem steps_loop : ∀ (l x pl px : List Int) (b : Int), pl.length = px.length → (px ++ x).length ≤ 1000 → 1 ≤ b ∧ b ≤ 3 → stepsP b x l →
    lp E (denC E) 5 0 [] 0 { vals := [AV.sl 1 (intsK .i64 (pl ++ l)), AV.sl 1 (intsK .i64 (px ++ x)), AV.int .i64 b, AV.int .i64 ((px ++ x).length : Int), AV.int .i64 (px.length : Int)], blks := [] } =
      some (Ex.exit 0, { vals := [], blks := [] })
  | [], [], pl, px, b, _, _, _, _ => by
    rw [r5_0, ctl_dec, if_neg (by simp)]
  | j :: l, y :: x, pl, px, b, hp, hl, hb, hs => by
    obtain ⟨h1, h2, h3, h4, h5⟩ := hs
    simp only [List.length_append, List.length_cons] at hl
    have hx : (px ++ y :: x).getD ((px.length : Int)).toNat 0 = y := by simp [List.getD]
    have hy : (pl ++ j :: l).getD ((px.length : Int)).toNat 0 = j := by simp [List.getD, ← hp]
    have hlen : 0 ≤ (px.length : Int) ∧ (px.length : Int) < ((px ++ y :: x).length : Nat) := by simp; omega
    have hlen2 : 0 ≤ (px.length : Int) ∧ (px.length : Int) < ((pl ++ j :: l).length : Nat) := by simp; omega
    rw [r5_0, ctl_dec, if_pos (by simp; omega)]
    simp only [getE_ints hlen, getE_ints hlen2, hx, hy]
    rw [w64 (n := b + 1) (by omega)]
    simp only [bnd_some, ctl_true, ctl_false, ctl_and, ctl_or', ctl_or2, x_toPV, x_toCs, x_toCs2, x_toEs, x_bEs, x_bCs, x_aPV, x_aCs, x_int, x_bool, x_str, x_es, x_esn, nth_0, nth_1, nth_2, nth_3, nth_4, nth_5, nth_6, nth_7, nth_8, nth_9, y_nil, y_int, y_bool, y_str, y_sl, y_nils, y_agg, y_ownp, y_own, z_nil, z_int, z_bool, z_str, z_sl, z_nils, b_nil, b_arr, b_box1, b_box2, b_box3, b_box4, List.map_cons, List.map_nil, Bool.and_self, Bool.and_true, Bool.true_and, Bool.not_true, Bool.not_false, Bool.or_false, Bool.false_or, cond_true, cond_false, okPack, okPut, okPutBlks, okPutCells, q_isP, q_isAg, q_isBox, q_isArr, q_int, q_bool, q_str, q_sl, q_nils, e_exit, e_ret, e_nrm, e_ret_exit, e_exit_ret, e_nrm_exit, e_nrm_ret, e_exit_nrm, e_ret_nrm, Nat.zero_add, Nat.reduceAdd, noslR, noslP, noslB, noslA, List.all_cons, List.all_nil]
    have k1 : (ltB (b + 1) y || (ltB j b && y != j) || (leB b j && ltB y b)) = false := by
      simp only [Bool.or_eq_false_iff, Bool.and_eq_false_iff, decide_eq_false_iff_not, bne_eq_false_iff_eq]
      omega
    rw [k1, ctl_false, w64 (by omega)]
    have ih := steps_loop l x (pl ++ [j]) (px ++ [y]) y (by simp [hp]) (by simp; omega) h4 h5
    simp only [List.append_assoc, List.cons_append, List.nil_append, List.length_append, List.length_cons, List.length_nil] at ih
    simp only [List.length_append, List.length_cons]
    have e1 : ((px.length : Int) + 1) = ((px.length + (0 + 1) : Nat) : Int) := by omega
    rw [e1, ih]
  | [], _ :: _, _, _, _, _, _, _, h => h.elim
  | _ :: _, [], _, _, _, _, _, _, h => h.elim

theorem d_StatusSteps (t : List Int) (_ : t.length ≤ maxLen) (_ : ∀ n ∈ t, -9223372036854775808 ≤ n ∧ n ≤ 9223372036854775807) (d : Int) (hd : 0 ≤ d ∧ d ≤ 255) :
    denC E 5 [AV.sl 1 (intsK .i64 t), AV.int .u8 d] [] = some ([RV.p (PV.bool true)], []) := by
  rw [denC_eq, r5, intsK_length, ctl_dec]
  by_cases ht : 600 < (t.length : Int)
  · rw [if_pos ht, c_sane]
    simp only [bnd_some, ctl_true, ctl_false, ctl_and, ctl_or', ctl_or2, x_toPV, x_toCs, x_toCs2, x_toEs, x_bEs, x_bCs, x_aPV, x_aCs, x_int, x_bool, x_str, x_es, x_esn, nth_0, nth_1, nth_2, nth_3, nth_4, nth_5, nth_6, nth_7, nth_8, nth_9, y_nil, y_int, y_bool, y_str, y_sl, y_nils, y_agg, y_ownp, y_own, z_nil, z_int, z_bool, z_str, z_sl, z_nils, b_nil, b_arr, b_box1, b_box2, b_box3, b_box4, List.map_cons, List.map_nil, Bool.and_self, Bool.and_true, Bool.true_and, Bool.not_true, Bool.not_false, Bool.or_false, Bool.false_or, cond_true, cond_false, okPack, okPut, okPutBlks, okPutCells, q_isP, q_isAg, q_isBox, q_isArr, q_int, q_bool, q_str, q_sl, q_nils, e_exit, e_ret, e_nrm, e_ret_exit, e_exit_ret, e_nrm_exit, e_nrm_ret, e_exit_nrm, e_ret_nrm, Nat.zero_add, Nat.reduceAdd, noslR, noslP, noslB, noslA, List.all_cons, List.all_nil]
  · rw [if_neg ht, c_New]
    have hL : (t.take 600).length ≤ 600 := by rw [List.length_take]; omega
    simp only [bnd_some, ctl_true, ctl_false, ctl_and, ctl_or', ctl_or2, x_toPV, x_toCs, x_toCs2, x_toEs, x_bEs, x_bCs, x_aPV, x_aCs, x_int, x_bool, x_str, x_es, x_esn, nth_0, nth_1, nth_2, nth_3, nth_4, nth_5, nth_6, nth_7, nth_8, nth_9, y_nil, y_int, y_bool, y_str, y_sl, y_nils, y_agg, y_ownp, y_own, z_nil, z_int, z_bool, z_str, z_sl, z_nils, b_nil, b_arr, b_box1, b_box2, b_box3, b_box4, List.map_cons, List.map_nil, Bool.and_self, Bool.and_true, Bool.true_and, Bool.not_true, Bool.not_false, Bool.or_false, Bool.false_or, cond_true, cond_false, okPack, okPut, okPutBlks, okPutCells, q_isP, q_isAg, q_isBox, q_isArr, q_int, q_bool, q_str, q_sl, q_nils, e_exit, e_ret, e_nrm, e_ret_exit, e_exit_ret, e_nrm_exit, e_nrm_ret, e_exit_nrm, e_ret_nrm, Nat.zero_add, Nat.reduceAdd, noslR, noslP, noslB, noslA, List.all_cons, List.all_nil]
    rw [src_zero, c_levels hL (by omega) 30 (by omega)]
    simp only [bnd_some, ctl_true, ctl_false, ctl_and, ctl_or', ctl_or2, x_toPV, x_toCs, x_toCs2, x_toEs, x_bEs, x_bCs, x_aPV, x_aCs, x_int, x_bool, x_str, x_es, x_esn, nth_0, nth_1, nth_2, nth_3, nth_4, nth_5, nth_6, nth_7, nth_8, nth_9, y_nil, y_int, y_bool, y_str, y_sl, y_nils, y_agg, y_ownp, y_own, z_nil, z_int, z_bool, z_str, z_sl, z_nils, b_nil, b_arr, b_box1, b_box2, b_box3, b_box4, List.map_cons, List.map_nil, Bool.and_self, Bool.and_true, Bool.true_and, Bool.not_true, Bool.not_false, Bool.or_false, Bool.false_or, cond_true, cond_false, okPack, okPut, okPutBlks, okPutCells, q_isP, q_isAg, q_isBox, q_isArr, q_int, q_bool, q_str, q_sl, q_nils, e_exit, e_ret, e_nrm, e_ret_exit, e_exit_ret, e_nrm_exit, e_nrm_ret, e_exit_nrm, e_ret_nrm, Nat.zero_add, Nat.reduceAdd, noslR, noslP, noslB, noslA, List.all_cons, List.all_nil]
    obtain ⟨hl, hx⟩ := lvN_spec (L := t.take 600) (k := 0) (most := 30) (by omega)
    generalize lvN (t.take 600) 0 30 = l at *
    have hd6 : 0 ≤ d.tmod 6 ∧ d.tmod 6 ≤ 5 := by rw [Int.tmod_eq_emod_of_nonneg hd.1]; omega
    rw [w64 (n := d) (by omega), c_Run _ (by omega)]
    simp only [bnd_some, ctl_true, ctl_false, ctl_and, ctl_or', ctl_or2, x_toPV, x_toCs, x_toCs2, x_toEs, x_bEs, x_bCs, x_aPV, x_aCs, x_int, x_bool, x_str, x_es, x_esn, nth_0, nth_1, nth_2, nth_3, nth_4, nth_5, nth_6, nth_7, nth_8, nth_9, y_nil, y_int, y_bool, y_str, y_sl, y_nils, y_agg, y_ownp, y_own, z_nil, z_int, z_bool, z_str, z_sl, z_nils, b_nil, b_arr, b_box1, b_box2, b_box3, b_box4, List.map_cons, List.map_nil, Bool.and_self, Bool.and_true, Bool.true_and, Bool.not_true, Bool.not_false, Bool.or_false, Bool.false_or, cond_true, cond_false, okPack, okPut, okPutBlks, okPutCells, q_isP, q_isAg, q_isBox, q_isArr, q_int, q_bool, q_str, q_sl, q_nils, e_exit, e_ret, e_nrm, e_ret_exit, e_exit_ret, e_nrm_exit, e_nrm_ret, e_exit_nrm, e_ret_nrm, Nat.zero_add, Nat.reduceAdd, noslR, noslP, noslB, noslA, List.all_cons, List.all_nil]
    obtain ⟨h1, h2⟩ := runL_ok (delay := d.tmod 6) (by omega) l 0 1 (-1) hx vc_start (by omega) (by omega)
    have h3 := runL_steps (delay := d.tmod 6) (by omega) l 0 1 (-1) hx vc_start (by omega) (by omega)
    have e : runL (d.tmod 6) l 0 1 (-1) = runR l (d.tmod 6) := rfl
    rw [e] at h1 h2 h3
    rw [h1, if_pos rfl, intsK_length, intsK_length, h2]
    generalize (runR l (d.tmod 6)).1 = x at *
    have hlp := steps_loop l x [] [] 1 rfl (by simp; omega) (by omega) h3
    simp only [List.nil_append, List.length_nil] at hlp
    have e0 : (((0 : Nat)) : Int) = 0 := rfl
    rw [e0, h2] at hlp
    have k0 : ((0 : Int) != 0 || (l.length : Int) != (l.length : Int)) = false := by simp
    rw [k0, ctl_false, hlp]
    simp only [bnd_some, ctl_true, ctl_false, ctl_and, ctl_or', ctl_or2, x_toPV, x_toCs, x_toCs2, x_toEs, x_bEs, x_bCs, x_aPV, x_aCs, x_int, x_bool, x_str, x_es, x_esn, nth_0, nth_1, nth_2, nth_3, nth_4, nth_5, nth_6, nth_7, nth_8, nth_9, y_nil, y_int, y_bool, y_str, y_sl, y_nils, y_agg, y_ownp, y_own, z_nil, z_int, z_bool, z_str, z_sl, z_nils, b_nil, b_arr, b_box1, b_box2, b_box3, b_box4, List.map_cons, List.map_nil, Bool.and_self, Bool.and_true, Bool.true_and, Bool.not_true, Bool.not_false, Bool.or_false, Bool.false_or, cond_true, cond_false, okPack, okPut, okPutBlks, okPutCells, q_isP, q_isAg, q_isBox, q_isArr, q_int, q_bool, q_str, q_sl, q_nils, e_exit, e_ret, e_nrm, e_ret_exit, e_exit_ret, e_nrm_exit, e_nrm_ret, e_exit_nrm, e_ret_nrm, Nat.zero_add, Nat.reduceAdd, noslR, noslP, noslB, noslA, List.all_cons, List.all_nil, c_sane]

end Go.Proofs.Ytiagcaefhjibjaa.Vm
