/- The law ReportAdds. -/
import Derived.Test.YtgdeaamklodkkaaDoorRepE
import Derived.Test.YtgdeaamklodkkaaDoorRawAdds
namespace Go.Proofs.YtgdeaamklodkkaaDoor.Vm
set_option linter.unusedVariables false
set_option linter.unusedSimpArgs false

theorem d_ReportAdds (t : List Int) (_ : t.length ≤ maxLen) (_ : ∀ n ∈ t, -9223372036854775808 ≤ n ∧ n ≤ 9223372036854775807) (a : Int) (ha : 0 ≤ a ∧ a ≤ 255) (b : Int) (hb : 0 ≤ b ∧ b ≤ 255) (c : Int) (hc : 0 ≤ c ∧ c ≤ 255) :
    denC E 5 [AV.sl 1 (intsK .i64 t), AV.int .u8 a, AV.int .u8 b, AV.int .u8 c] [] = some ([RV.p (PV.bool true)], []) := by
  rw [denC_eq, r5, intsK_len]
  by_cases ht : 600 < t.length
  · have h1 : ltB 600 (t.length : Int) = true := by simp [ltB]; omega
    rw [h1, ctl_true, c_sane40]
    rfl
  · have h1 : ltB 600 (t.length : Int) = false := by simp [ltB]; omega
    rw [h1, ctl_false, c_New]
    simp only [bnd_some, ctl_true, ctl_false, ctl_and, ctl_or', ctl_or2, x_toPV, x_toCs, x_toCs2, x_toEs, x_bEs, x_bCs, x_aPV, x_aCs, x_int, x_bool, x_str, x_es, x_esn, nth_0, nth_1, nth_2, nth_3, nth_4, nth_5, nth_6, nth_7, nth_8, nth_9, y_nil, y_int, y_bool, y_str, y_sl, y_nils, y_agg, y_ownp, y_own, z_nil, z_int, z_bool, z_str, z_sl, z_nils, b_nil, b_arr, b_box1, b_box2, b_box3, b_box4, List.map_cons, List.map_nil, Bool.and_self, Bool.and_true, Bool.true_and, Bool.not_true, Bool.not_false, Bool.or_false, Bool.false_or, cond_true, cond_false, okPack, okPut, okPutBlks, okPutCells, q_isP, q_isAg, q_isBox, q_isArr, q_int, q_bool, q_str, q_sl, q_nils, e_exit, e_ret, e_nrm, e_ret_exit, e_exit_ret, e_nrm_exit, e_nrm_ret, e_exit_nrm, e_ret_nrm, Nat.zero_add, Nat.reduceAdd, noslR, noslP, noslB, noslA, List.all_cons, List.all_nil]
    rw [src_zero]
    have hL : (t.take 600).length ≤ 600 := by simp; omega
    obtain ⟨x, s, k1, hk1, hx, hxl, hxt, hB⟩ := c_Book (L := t.take 600) (k := 0) hL (by omega) 16 (by omega)
    rw [hB]
    simp only [bnd_some, ctl_true, ctl_false, ctl_and, ctl_or', ctl_or2, x_toPV, x_toCs, x_toCs2, x_toEs, x_bEs, x_bCs, x_aPV, x_aCs, x_int, x_bool, x_str, x_es, x_esn, nth_0, nth_1, nth_2, nth_3, nth_4, nth_5, nth_6, nth_7, nth_8, nth_9, y_nil, y_int, y_bool, y_str, y_sl, y_nils, y_agg, y_ownp, y_own, z_nil, z_int, z_bool, z_str, z_sl, z_nils, b_nil, b_arr, b_box1, b_box2, b_box3, b_box4, List.map_cons, List.map_nil, Bool.and_self, Bool.and_true, Bool.true_and, Bool.not_true, Bool.not_false, Bool.or_false, Bool.false_or, cond_true, cond_false, okPack, okPut, okPutBlks, okPutCells, q_isP, q_isAg, q_isBox, q_isArr, q_int, q_bool, q_str, q_sl, q_nils, e_exit, e_ret, e_nrm, e_ret_exit, e_exit_ret, e_nrm_exit, e_nrm_ret, e_exit_nrm, e_ret_nrm, Nat.zero_add, Nat.reduceAdd, noslR, noslP, noslB, noslA, List.all_cons, List.all_nil]
    rw [w64 (n := a) (by omega), w64 (n := b) (by omega), w64 (n := c) (by omega)]
    obtain ⟨f, hf⟩ : ∃ f, a.tmod 30 = f := ⟨_, rfl⟩
    obtain ⟨g, hg⟩ : ∃ g, b.tmod 30 = g := ⟨_, rfl⟩
    obtain ⟨h, hh⟩ : ∃ h, c.tmod 30 = h := ⟨_, rfl⟩
    have fb : 0 ≤ f ∧ f < 30 := by rw [← hf, Int.tmod_eq_emod_of_nonneg ha.1]; omega
    have gb : 0 ≤ g ∧ g < 30 := by rw [← hg, Int.tmod_eq_emod_of_nonneg hb.1]; omega
    have hb' : 0 ≤ h ∧ h < 30 := by rw [← hh, Int.tmod_eq_emod_of_nonneg hc.1]; omega
    rw [hf, hg, hh, w64 (n := f + g) (by omega), w64 (n := f + g + h) (by omega)]
    obtain ⟨m, hm⟩ : ∃ m, f + g = m := ⟨_, rfl⟩
    obtain ⟨e, he⟩ : ∃ e, m + h = e := ⟨_, rfl⟩
    rw [hm, he]
    have z1 := spanE_ok hx (f := f) (t := m) (by omega)
    have z2 := spanE_ok hx (f := m) (t := e) (by omega)
    have z3 := spanE_ok hx (f := f) (t := e) (by omega)
    have o1 := c_Of x s f m (checkP_ws hx)
    have o2 := c_Of x s m e (checkP_ws hx)
    have o3 := c_Of x s f e (checkP_ws hx)
    unfold ofR at o1 o2 o3
    rw [if_pos z1] at o1
    rw [if_pos z2] at o2
    rw [if_pos z3] at o3
    have tk : ∀ lev, tick4 (spanL x s 1 f m) lev + tick4 (spanL x s 1 m e) lev = tick4 (spanL x s 1 f e) lev ∧ (0 ≤ tick4 (spanL x s 1 f m) lev ∧ tick4 (spanL x s 1 f m) lev ≤ 100) ∧ (0 ≤ tick4 (spanL x s 1 m e) lev ∧ tick4 (spanL x s 1 m e) lev ≤ 100) := by
      intro lev
      rw [tick4_gl lev (spanL_gl z1), tick4_gl lev (spanL_gl z2), tick4_gl lev (spanL_gl z3), show (e - f).toNat = (m - f).toNat + (e - m).toNat by omega, cntA_app, show f + (((m - f).toNat : Nat) : Int) = m by omega]
      have r1 := cntA_rng (aF x 1) lev (m - f).toNat f
      have r2 := cntA_rng (aF x 1) lev (e - m).toNat m
      omega
    obtain ⟨t0, u0', v0⟩ := tk 0
    obtain ⟨t1, u1', v1⟩ := tk 1
    obtain ⟨t2, u2', v2⟩ := tk 2
    obtain ⟨t3, u3', v3⟩ := tk 3
    have hsort := tkB_sorted hx
    have htl : (tkB x).length ≤ 200 := by have := checkP_len hx; simpa [tkB] using this
    have n4 := ofKind_add 4 (f := f) (m := m) (t := e) (by omega) (by omega) (tkB x)
    have n41 := ofKind_len_le 4 f m (tkB x)
    have n42 := ofKind_len_le 4 m e (tkB x)
    have s8 := ofKind_split 8 (f := f) (m := m) (t := e) (by omega) (by omega) (tkB x) hsort
    have n8 := noDup_app (ofKind (tkB x) 8 f m) (ofKind (tkB x) 8 m e) fun y hy z hz => by
      have := ofKind_mem hy
      have := ofKind_mem hz
      omega
    rw [← s8] at n8
    have n81 := noDup_le (ofKind (tkB x) 8 f m)
    have n82 := noDup_le (ofKind (tkB x) 8 m e)
    have n83 := ofKind_len_le 8 f m (tkB x)
    have n84 := ofKind_len_le 8 m e (tkB x)
    have hw := wst_add u1'.1 u2'.1 u3'.1 v1.1 v2.1 v3.1
    rw [t1, t2, t3] at hw
    rw [o1]
    simp only [bnd_some, ctl_true, ctl_false, ctl_and, ctl_or', ctl_or2, x_toPV, x_toCs, x_toCs2, x_toEs, x_bEs, x_bCs, x_aPV, x_aCs, x_int, x_bool, x_str, x_es, x_esn, nth_0, nth_1, nth_2, nth_3, nth_4, nth_5, nth_6, nth_7, nth_8, nth_9, y_nil, y_int, y_bool, y_str, y_sl, y_nils, y_agg, y_ownp, y_own, z_nil, z_int, z_bool, z_str, z_sl, z_nils, b_nil, b_arr, b_box1, b_box2, b_box3, b_box4, List.map_cons, List.map_nil, Bool.and_self, Bool.and_true, Bool.true_and, Bool.not_true, Bool.not_false, Bool.or_false, Bool.false_or, cond_true, cond_false, okPack, okPut, okPutBlks, okPutCells, q_isP, q_isAg, q_isBox, q_isArr, q_int, q_bool, q_str, q_sl, q_nils, e_exit, e_ret, e_nrm, e_ret_exit, e_exit_ret, e_nrm_exit, e_nrm_ret, e_exit_nrm, e_ret_nrm, Nat.zero_add, Nat.reduceAdd, noslR, noslP, noslB, noslA, List.all_cons, List.all_nil]
    rw [o2]
    simp only [bnd_some, ctl_true, ctl_false, ctl_and, ctl_or', ctl_or2, x_toPV, x_toCs, x_toCs2, x_toEs, x_bEs, x_bCs, x_aPV, x_aCs, x_int, x_bool, x_str, x_es, x_esn, nth_0, nth_1, nth_2, nth_3, nth_4, nth_5, nth_6, nth_7, nth_8, nth_9, y_nil, y_int, y_bool, y_str, y_sl, y_nils, y_agg, y_ownp, y_own, z_nil, z_int, z_bool, z_str, z_sl, z_nils, b_nil, b_arr, b_box1, b_box2, b_box3, b_box4, List.map_cons, List.map_nil, Bool.and_self, Bool.and_true, Bool.true_and, Bool.not_true, Bool.not_false, Bool.or_false, Bool.false_or, cond_true, cond_false, okPack, okPut, okPutBlks, okPutCells, q_isP, q_isAg, q_isBox, q_isArr, q_int, q_bool, q_str, q_sl, q_nils, e_exit, e_ret, e_nrm, e_ret_exit, e_exit_ret, e_nrm_exit, e_nrm_ret, e_exit_nrm, e_ret_nrm, Nat.zero_add, Nat.reduceAdd, noslR, noslP, noslB, noslA, List.all_cons, List.all_nil]
    rw [o3]
    have z : ((0 : Int) == 0) = true := rfl
    simp only [z, bnd_some, ctl_true, ctl_false, ctl_and, ctl_or', ctl_or2, x_toPV, x_toCs, x_toCs2, x_toEs, x_bEs, x_bCs, x_aPV, x_aCs, x_int, x_bool, x_str, x_es, x_esn, nth_0, nth_1, nth_2, nth_3, nth_4, nth_5, nth_6, nth_7, nth_8, nth_9, y_nil, y_int, y_bool, y_str, y_sl, y_nils, y_agg, y_ownp, y_own, z_nil, z_int, z_bool, z_str, z_sl, z_nils, b_nil, b_arr, b_box1, b_box2, b_box3, b_box4, List.map_cons, List.map_nil, Bool.and_self, Bool.and_true, Bool.true_and, Bool.not_true, Bool.not_false, Bool.or_false, Bool.false_or, cond_true, cond_false, okPack, okPut, okPutBlks, okPutCells, q_isP, q_isAg, q_isBox, q_isArr, q_int, q_bool, q_str, q_sl, q_nils, e_exit, e_ret, e_nrm, e_ret_exit, e_exit_ret, e_nrm_exit, e_nrm_ret, e_exit_nrm, e_ret_nrm, Nat.zero_add, Nat.reduceAdd, noslR, noslP, noslB, noslA, List.all_cons, List.all_nil]
    rw [c_Add, hw]
    clear o1 o2 o3 s8 hsort hB hw tk
    generalize tick4 (spanL x s 1 f m) 0 = p0 at *
    generalize tick4 (spanL x s 1 f m) 1 = p1 at *
    generalize tick4 (spanL x s 1 f m) 2 = p2 at *
    generalize tick4 (spanL x s 1 f m) 3 = p3 at *
    generalize tick4 (spanL x s 1 m e) 0 = p4 at *
    generalize tick4 (spanL x s 1 m e) 1 = p5 at *
    generalize tick4 (spanL x s 1 m e) 2 = p6 at *
    generalize tick4 (spanL x s 1 m e) 3 = p7 at *
    rw [w64 (n := p0 + p4) (by omega), w64 (n := p1 + p5) (by omega), w64 (n := p2 + p6) (by omega), w64 (n := p3 + p7) (by omega), t0, t1, t2, t3]
    have q4 : IntKind.i64.wrap ((((ofKind (tkB x) 4 f m).length : Nat) : Int) + (((ofKind (tkB x) 4 m e).length : Nat) : Int)) = (((ofKind (tkB x) 4 f e).length : Nat) : Int) := by rw [w64 (by omega)]; omega
    have q8 : IntKind.i64.wrap ((((noDup (ofKind (tkB x) 8 f m)).length : Nat) : Int) + (((noDup (ofKind (tkB x) 8 m e)).length : Nat) : Int)) = (((noDup (ofKind (tkB x) 8 f e)).length : Nat) : Int) := by rw [w64 (by omega)]; omega
    rw [q4, q8]
    simp only [beq_self_eq_true, bnd_some, ctl_true, ctl_false, ctl_and, ctl_or', ctl_or2, x_toPV, x_toCs, x_toCs2, x_toEs, x_bEs, x_bCs, x_aPV, x_aCs, x_int, x_bool, x_str, x_es, x_esn, nth_0, nth_1, nth_2, nth_3, nth_4, nth_5, nth_6, nth_7, nth_8, nth_9, y_nil, y_int, y_bool, y_str, y_sl, y_nils, y_agg, y_ownp, y_own, z_nil, z_int, z_bool, z_str, z_sl, z_nils, b_nil, b_arr, b_box1, b_box2, b_box3, b_box4, List.map_cons, List.map_nil, Bool.and_self, Bool.and_true, Bool.true_and, Bool.not_true, Bool.not_false, Bool.or_false, Bool.false_or, cond_true, cond_false, okPack, okPut, okPutBlks, okPutCells, q_isP, q_isAg, q_isBox, q_isArr, q_int, q_bool, q_str, q_sl, q_nils, e_exit, e_ret, e_nrm, e_ret_exit, e_exit_ret, e_nrm_exit, e_nrm_ret, e_exit_nrm, e_ret_nrm, Nat.zero_add, Nat.reduceAdd, noslR, noslP, noslB, noslA, List.all_cons, List.all_nil]
    rw [c_sane40]
    rfl

end Go.Proofs.YtgdeaamklodkkaaDoor.Vm
