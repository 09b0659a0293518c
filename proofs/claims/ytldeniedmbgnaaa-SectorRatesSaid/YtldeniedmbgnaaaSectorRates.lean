/- The law SectorRates comes to true. -/
import Derived.Test.YtldeniedmbgnaaaSectorS
import Derived.Test.YtldeniedmbgnaaaRawRates
namespace Go.Proofs.Ytldeniedmbgnaaa.Vm
set_option linter.unusedVariables false
set_option linter.unusedSimpArgs false

theorem ratedF_spec {lo hi last rate : Int} (hb : badR lo hi last rate = false) (hr : 0 ≤ rate) (hh : lo ≤ hi) :
    (ratedF lo hi last rate).1 ≤ (ratedF lo hi last rate).2 ∧ lo ≤ (ratedF lo hi last rate).1 ∧ (ratedF lo hi last rate).2 ≤ hi ∧
    (last + rate < lo → (ratedF lo hi last rate).1 = lo ∧ (ratedF lo hi last rate).2 = lo) ∧ (hi < last - rate → (ratedF lo hi last rate).1 = hi ∧ (ratedF lo hi last rate).2 = hi) ∧
    (lo ≤ last + rate → last - rate ≤ hi → last - rate ≤ (ratedF lo hi last rate).1 ∧ (ratedF lo hi last rate).2 ≤ last + rate ∧ ((ratedF lo hi last rate).1 = lo ∨ (ratedF lo hi last rate).1 = last - rate) ∧ ((ratedF lo hi last rate).2 = hi ∨ (ratedF lo hi last rate).2 = last + rate)) := by
  unfold ratedF
  rw [hb]
  simp only [Bool.false_eq_true, if_false]
  have ha : lo ≤ maxI (last - rate) lo ∧ last - rate ≤ maxI (last - rate) lo ∧ (maxI (last - rate) lo = lo ∨ maxI (last - rate) lo = last - rate) := by unfold maxI; split <;> omega
  have hc : minI (last + rate) hi ≤ hi ∧ minI (last + rate) hi ≤ last + rate ∧ (minI (last + rate) hi = hi ∨ minI (last + rate) hi = last + rate) := by unfold minI; split <;> omega
  generalize maxI (last - rate) lo = a at *
  generalize minI (last + rate) hi = b at *
  obtain ⟨a1, a2, a3⟩ := ha
  obtain ⟨c1, c2, c3⟩ := hc
  split
  · refine ⟨?_, ?_, ?_, fun x1 => ?_, fun x1 => ?_, fun x1 x2 => ?_⟩ <;> simp only <;> rcases a3 with a3 | a3 <;> rcases c3 with c3 | c3 <;> (first | omega | (refine ⟨?_, ?_⟩ <;> first | rfl | omega) | (refine ⟨?_, ?_, ?_, ?_⟩ <;> omega) | exact ⟨trivial, trivial⟩)
  · split
    · refine ⟨?_, ?_, ?_, fun x1 => ?_, fun x1 => ?_, fun x1 x2 => ?_⟩ <;> simp only <;> rcases a3 with a3 | a3 <;> rcases c3 with c3 | c3 <;> (first | omega | (refine ⟨?_, ?_⟩ <;> first | rfl | omega) | (refine ⟨?_, ?_, ?_, ?_⟩ <;> omega) | exact ⟨trivial, trivial⟩)
    · refine ⟨?_, ?_, ?_, fun x1 => ?_, fun x1 => ?_, fun x1 x2 => ?_⟩ <;> simp only <;> rcases a3 with a3 | a3 <;> rcases c3 with c3 | c3 <;> (first | omega | (refine ⟨?_, ?_⟩ <;> first | rfl | omega) | (refine ⟨?_, ?_, ?_, ?_⟩ <;> omega) | exact ⟨trivial, trivial⟩)

theorem d_SectorRates (t : List Int) (_ : t.length ≤ maxLen) (_ : ∀ n ∈ t, -9223372036854775808 ≤ n ∧ n ≤ 9223372036854775807) :
    denC E 7 [AV.sl 1 (intsK .i64 t)] [] = some ([RV.p (PV.bool true)], []) := by
  rw [denC_eq, r7, c_New]
  have hL : (t.take 600).length ≤ 600 := by simp; omega
  generalize t.take 600 = L at hL
  have h0 : (0 : Nat) ≤ 600 := by omega
  have h1 : at' L 0 ≤ 600 := at'_le hL h0
  have h2 := at'_le hL h1
  have h3 := at'_le hL h2
  simp only [bnd_some, ctl_true, ctl_false, ctl_and, ctl_or', ctl_or2, x_toPV, x_toCs, x_toCs2, x_toEs, x_bEs, x_bCs, x_aPV, x_aCs, x_int, x_bool, x_str, x_es, x_esn, nth_0, nth_1, nth_2, nth_3, nth_4, nth_5, nth_6, nth_7, nth_8, nth_9, y_nil, y_int, y_bool, y_str, y_sl, y_nils, y_agg, y_ownp, y_own, z_nil, z_int, z_bool, z_str, z_sl, z_nils, b_nil, b_arr, b_box1, b_box2, b_box3, b_box4, List.map_cons, List.map_nil, Bool.and_self, Bool.and_true, Bool.true_and, Bool.not_true, Bool.not_false, Bool.or_false, Bool.false_or, cond_true, cond_false, okPack, okPut, okPutBlks, okPutCells, q_isP, q_isAg, q_isBox, q_isArr, q_int, q_bool, q_str, q_sl, q_nils, e_exit, e_ret, e_nrm, e_ret_exit, e_exit_ret, e_nrm_exit, e_nrm_ret, e_exit_nrm, e_ret_nrm, Nat.zero_add, Nat.reduceAdd, noslR, noslP, noslB, noslA, List.all_cons, List.all_nil]
  have b0 := vRange_bounds (L := L) (k := 0) (lo := -30) (hi := 10) (by decide)
  have b1 := vN_bounds (L := L) (k := at' L 0) (n := 40) (by decide)
  have b2 := vRange_bounds (L := L) (k := at' L (at' L 0)) (lo := -60) (hi := 60) (by decide)
  have b3 := vN_bounds (L := L) (k := at' L (at' L (at' L 0))) (n := 20) (by decide)
  rw [src_zero, c_Range hL h0 (by decide)]
  simp only [bnd_some, ctl_true, ctl_false, ctl_and, ctl_or', ctl_or2, x_toPV, x_toCs, x_toCs2, x_toEs, x_bEs, x_bCs, x_aPV, x_aCs, x_int, x_bool, x_str, x_es, x_esn, nth_0, nth_1, nth_2, nth_3, nth_4, nth_5, nth_6, nth_7, nth_8, nth_9, y_nil, y_int, y_bool, y_str, y_sl, y_nils, y_agg, y_ownp, y_own, z_nil, z_int, z_bool, z_str, z_sl, z_nils, b_nil, b_arr, b_box1, b_box2, b_box3, b_box4, List.map_cons, List.map_nil, Bool.and_self, Bool.and_true, Bool.true_and, Bool.not_true, Bool.not_false, Bool.or_false, Bool.false_or, cond_true, cond_false, okPack, okPut, okPutBlks, okPutCells, q_isP, q_isAg, q_isBox, q_isArr, q_int, q_bool, q_str, q_sl, q_nils, e_exit, e_ret, e_nrm, e_ret_exit, e_exit_ret, e_nrm_exit, e_nrm_ret, e_exit_nrm, e_ret_nrm, Nat.zero_add, Nat.reduceAdd, noslR, noslP, noslB, noslA, List.all_cons, List.all_nil]
  rw [c_N hL h1 40 (by decide)]
  simp only [bnd_some, ctl_true, ctl_false, ctl_and, ctl_or', ctl_or2, x_toPV, x_toCs, x_toCs2, x_toEs, x_bEs, x_bCs, x_aPV, x_aCs, x_int, x_bool, x_str, x_es, x_esn, nth_0, nth_1, nth_2, nth_3, nth_4, nth_5, nth_6, nth_7, nth_8, nth_9, y_nil, y_int, y_bool, y_str, y_sl, y_nils, y_agg, y_ownp, y_own, z_nil, z_int, z_bool, z_str, z_sl, z_nils, b_nil, b_arr, b_box1, b_box2, b_box3, b_box4, List.map_cons, List.map_nil, Bool.and_self, Bool.and_true, Bool.true_and, Bool.not_true, Bool.not_false, Bool.or_false, Bool.false_or, cond_true, cond_false, okPack, okPut, okPutBlks, okPutCells, q_isP, q_isAg, q_isBox, q_isArr, q_int, q_bool, q_str, q_sl, q_nils, e_exit, e_ret, e_nrm, e_ret_exit, e_exit_ret, e_nrm_exit, e_nrm_ret, e_exit_nrm, e_ret_nrm, Nat.zero_add, Nat.reduceAdd, noslR, noslP, noslB, noslA, List.all_cons, List.all_nil]
  rw [c_Range hL h2 (by decide)]
  simp only [bnd_some, ctl_true, ctl_false, ctl_and, ctl_or', ctl_or2, x_toPV, x_toCs, x_toCs2, x_toEs, x_bEs, x_bCs, x_aPV, x_aCs, x_int, x_bool, x_str, x_es, x_esn, nth_0, nth_1, nth_2, nth_3, nth_4, nth_5, nth_6, nth_7, nth_8, nth_9, y_nil, y_int, y_bool, y_str, y_sl, y_nils, y_agg, y_ownp, y_own, z_nil, z_int, z_bool, z_str, z_sl, z_nils, b_nil, b_arr, b_box1, b_box2, b_box3, b_box4, List.map_cons, List.map_nil, Bool.and_self, Bool.and_true, Bool.true_and, Bool.not_true, Bool.not_false, Bool.or_false, Bool.false_or, cond_true, cond_false, okPack, okPut, okPutBlks, okPutCells, q_isP, q_isAg, q_isBox, q_isArr, q_int, q_bool, q_str, q_sl, q_nils, e_exit, e_ret, e_nrm, e_ret_exit, e_exit_ret, e_nrm_exit, e_nrm_ret, e_exit_nrm, e_ret_nrm, Nat.zero_add, Nat.reduceAdd, noslR, noslP, noslB, noslA, List.all_cons, List.all_nil]
  rw [c_N hL h3 20 (by decide)]
  simp only [bnd_some, ctl_true, ctl_false, ctl_and, ctl_or', ctl_or2, x_toPV, x_toCs, x_toCs2, x_toEs, x_bEs, x_bCs, x_aPV, x_aCs, x_int, x_bool, x_str, x_es, x_esn, nth_0, nth_1, nth_2, nth_3, nth_4, nth_5, nth_6, nth_7, nth_8, nth_9, y_nil, y_int, y_bool, y_str, y_sl, y_nils, y_agg, y_ownp, y_own, z_nil, z_int, z_bool, z_str, z_sl, z_nils, b_nil, b_arr, b_box1, b_box2, b_box3, b_box4, List.map_cons, List.map_nil, Bool.and_self, Bool.and_true, Bool.true_and, Bool.not_true, Bool.not_false, Bool.or_false, Bool.false_or, cond_true, cond_false, okPack, okPut, okPutBlks, okPutCells, q_isP, q_isAg, q_isBox, q_isArr, q_int, q_bool, q_str, q_sl, q_nils, e_exit, e_ret, e_nrm, e_ret_exit, e_exit_ret, e_nrm_exit, e_nrm_ret, e_exit_nrm, e_ret_nrm, Nat.zero_add, Nat.reduceAdd, noslR, noslP, noslB, noslA, List.all_cons, List.all_nil]
  generalize vRange L 0 (-30) 10 = lo at *
  generalize vN L (at' L 0) 40 = n at *
  generalize vRange L (at' L (at' L 0)) (-60) 60 = last at *
  generalize vN L (at' L (at' L (at' L 0))) 20 = rate at *
  rw [w64 (n := lo + n) (by omega), w64 (n := last + rate) (by omega), w64 (n := last - rate) (by omega)]
  simp only [bnd_some, ctl_true, ctl_false, ctl_and, ctl_or', ctl_or2, x_toPV, x_toCs, x_toCs2, x_toEs, x_bEs, x_bCs, x_aPV, x_aCs, x_int, x_bool, x_str, x_es, x_esn, nth_0, nth_1, nth_2, nth_3, nth_4, nth_5, nth_6, nth_7, nth_8, nth_9, y_nil, y_int, y_bool, y_str, y_sl, y_nils, y_agg, y_ownp, y_own, z_nil, z_int, z_bool, z_str, z_sl, z_nils, b_nil, b_arr, b_box1, b_box2, b_box3, b_box4, List.map_cons, List.map_nil, Bool.and_self, Bool.and_true, Bool.true_and, Bool.not_true, Bool.not_false, Bool.or_false, Bool.false_or, cond_true, cond_false, okPack, okPut, okPutBlks, okPutCells, q_isP, q_isAg, q_isBox, q_isArr, q_int, q_bool, q_str, q_sl, q_nils, e_exit, e_ret, e_nrm, e_ret_exit, e_exit_ret, e_nrm_exit, e_nrm_ret, e_exit_nrm, e_ret_nrm, Nat.zero_add, Nat.reduceAdd, noslR, noslP, noslB, noslA, List.all_cons, List.all_nil, c_Rated, c_sane]
  have hb : badR lo (lo + n) last rate = false := badR_iff.2 (by omega)
  have hs := ratedF_spec hb b3.1 (by omega)
  generalize (ratedF lo (lo + n) last rate).1 = a at *
  generalize (ratedF lo (lo + n) last rate).2 = b at *
  generalize lo + n = hi at *
  obtain ⟨s1, s2, s3, s4, s5, s6⟩ := hs
  have f1 : (ltB b a || ltB a lo || ltB hi b) = false := by simp only [Bool.or_eq_false_iff, decide_eq_false_iff_not]; omega
  rw [f1, ctl_false]
  by_cases g1 : last + rate < lo
  · have f2 : (ltB (last + rate) lo || ltB hi (last - rate)) = true := by simp only [Bool.or_eq_true, decide_eq_true_eq]; omega
    obtain ⟨ea, eb⟩ := s4 g1
    have f3 : ltB last lo = true := by simp only [decide_eq_true_eq]; omega
    rw [f2, f3, ea, eb]
    simp only [beq_self_eq_true, ctl_true, Bool.true_or, bnd_some]
  · by_cases g2 : hi < last - rate
    · have f2 : (ltB (last + rate) lo || ltB hi (last - rate)) = true := by simp only [Bool.or_eq_true, decide_eq_true_eq]; omega
      obtain ⟨ea, eb⟩ := s5 g2
      have f3 : ltB hi last = true := by simp only [decide_eq_true_eq]; omega
      rw [f2, f3, ea, eb]
      simp only [beq_self_eq_true, ctl_true, Bool.and_self, Bool.or_true, bnd_some]
      cases (hi == lo) <;> rfl
    · have f2 : (ltB (last + rate) lo || ltB hi (last - rate)) = false := by simp only [Bool.or_eq_false_iff, decide_eq_false_iff_not]; omega
      obtain ⟨q1, q2, q3, q4⟩ := s6 (by omega) (by omega)
      have f3 : (leB (last - rate) a && leB b (last + rate) && (a == lo || a == last - rate) && (b == hi || b == last + rate)) = true := by
        simp only [Bool.and_eq_true, Bool.or_eq_true, decide_eq_true_eq, beq_iff_eq]; omega
      rw [f2, f3]
      rfl

end Go.Proofs.Ytldeniedmbgnaaa.Vm
