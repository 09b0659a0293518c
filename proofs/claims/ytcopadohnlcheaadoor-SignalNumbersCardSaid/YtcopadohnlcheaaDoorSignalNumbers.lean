/- The law SignalNumbers. -/
import Derived.Test.YtcopadohnlcheaaDoorSigG
import Derived.Test.YtcopadohnlcheaaDoorRawNumbers
namespace Go.Proofs.YtcopadohnlcheaaDoor.Vm
set_option linter.unusedVariables false
set_option linter.unusedSimpArgs false

theorem dec_inj {u v : Nat} (h : Lib.decDigits u = Lib.decDigits v) : u = v := by
  have h1 := (dec_spec u).2.1
  have h2 := (dec_spec v).2.1
  rw [h] at h1
  omega
theorem dec_no45 (u : Nat) (l : List UInt8) : Lib.decDigits u ≠ 45 :: l := fun h => by
  have h1 := (dec_spec u).1
  rw [h] at h1
  simp only [List.all_cons, Bool.and_eq_true] at h1
  exact absurd h1.1 (by decide)
theorem itoa_inj {n m : Int} (h : Lib.itoa n = Lib.itoa m) : n = m := by
  unfold Lib.itoa at h
  split at h <;> split at h
  · have := dec_inj (List.cons.inj h).2; omega
  · exact absurd h.symm (dec_no45 _ _)
  · exact absurd h (dec_no45 _ _)
  · have := dec_inj h; omega

theorem numI_b (s : List UInt8) : -9223372036854775808 ≤ numI s ∧ numI s ≤ 9223372036854775807 := by
  cases h : numB s with
  | true => have := itoa_num h; omega
  | false =>
    unfold numB at h
    unfold numI
    cases hn : num s with
    | none => exact ⟨by decide, by decide⟩
    | some n => rw [hn] at h; cases h

theorem d_SignalNumbers (n : Int) (hn : -9223372036854775808 ≤ n ∧ n ≤ 9223372036854775807) (a : List UInt8) (_ : a.length ≤ maxLen) (b : List UInt8) (_ : b.length ≤ maxLen) :
    denC E 6 [AV.int .i64 n, AV.str a, AV.str b] [] = some ([RV.p (PV.bool true)], []) := by
  rw [denC_eq, r6, c_sane6]
  by_cases h1 : a.length ≤ 30
  · by_cases h2 : b.length ≤ 30
    · have e1 : ltB 30 (a.length : Int) = false := decide_eq_false (by omega)
      have e2 : ltB 30 (b.length : Int) = false := decide_eq_false (by omega)
      have hl := itoa_len hn
      rw [e1, e2, c_STx n hn]
      simp only [bnd_some, ctl_true, ctl_false, ctl_and, ctl_or', ctl_or2, x_toPV, x_toCs, x_toCs2, x_toEs, x_bEs, x_bCs, x_aPV, x_aCs, x_int, x_bool, x_str, x_es, x_esn, nth_0, nth_1, nth_2, nth_3, nth_4, nth_5, nth_6, nth_7, nth_8, nth_9, y_nil, y_int, y_bool, y_str, y_sl, y_nils, y_agg, y_ownp, y_own, z_nil, z_int, z_bool, z_str, z_sl, z_nils, b_nil, b_arr, b_box1, b_box2, b_box3, b_box4, List.map_cons, List.map_nil, Bool.and_self, Bool.and_true, Bool.true_and, Bool.not_true, Bool.not_false, Bool.or_false, Bool.false_or, cond_true, cond_false, okPack, okPut, okPutBlks, okPutCells, q_isP, q_isAg, q_isBox, q_isArr, q_int, q_bool, q_str, q_sl, q_nils, e_exit, e_ret, e_nrm, e_ret_exit, e_exit_ret, e_nrm_exit, e_nrm_ret, e_exit_nrm, e_ret_nrm, Nat.zero_add, Nat.reduceAdd, noslR, noslP, noslB, noslA, List.all_cons, List.all_nil]
      rw [c_Number _ (by omega), c_Number a (by omega), c_Number b (by omega)]
      simp only [bnd_some, ctl_true, ctl_false, ctl_and, ctl_or', ctl_or2, x_toPV, x_toCs, x_toCs2, x_toEs, x_bEs, x_bCs, x_aPV, x_aCs, x_int, x_bool, x_str, x_es, x_esn, nth_0, nth_1, nth_2, nth_3, nth_4, nth_5, nth_6, nth_7, nth_8, nth_9, y_nil, y_int, y_bool, y_str, y_sl, y_nils, y_agg, y_ownp, y_own, z_nil, z_int, z_bool, z_str, z_sl, z_nils, b_nil, b_arr, b_box1, b_box2, b_box3, b_box4, List.map_cons, List.map_nil, Bool.and_self, Bool.and_true, Bool.true_and, Bool.not_true, Bool.not_false, Bool.or_false, Bool.false_or, cond_true, cond_false, okPack, okPut, okPutBlks, okPutCells, q_isP, q_isAg, q_isBox, q_isArr, q_int, q_bool, q_str, q_sl, q_nils, e_exit, e_ret, e_nrm, e_ret_exit, e_exit_ret, e_nrm_exit, e_nrm_ret, e_exit_nrm, e_ret_nrm, Nat.zero_add, Nat.reduceAdd, noslR, noslP, noslB, noslA, List.all_cons, List.all_nil]
      rw [c_STx _ (numI_b a)]
      simp only [bnd_some, ctl_true, ctl_false, ctl_and, ctl_or', ctl_or2, x_toPV, x_toCs, x_toCs2, x_toEs, x_bEs, x_bCs, x_aPV, x_aCs, x_int, x_bool, x_str, x_es, x_esn, nth_0, nth_1, nth_2, nth_3, nth_4, nth_5, nth_6, nth_7, nth_8, nth_9, y_nil, y_int, y_bool, y_str, y_sl, y_nils, y_agg, y_ownp, y_own, z_nil, z_int, z_bool, z_str, z_sl, z_nils, b_nil, b_arr, b_box1, b_box2, b_box3, b_box4, List.map_cons, List.map_nil, Bool.and_self, Bool.and_true, Bool.true_and, Bool.not_true, Bool.not_false, Bool.or_false, Bool.false_or, cond_true, cond_false, okPack, okPut, okPutBlks, okPutCells, q_isP, q_isAg, q_isBox, q_isArr, q_int, q_bool, q_str, q_sl, q_nils, e_exit, e_ret, e_nrm, e_ret_exit, e_exit_ret, e_nrm_exit, e_nrm_ret, e_exit_nrm, e_ret_nrm, Nat.zero_add, Nat.reduceAdd, noslR, noslP, noslB, noslA, List.all_cons, List.all_nil]
      have k1 : (ltB (-10000000000) n && ltB n 10000000000) = numB (Lib.itoa n) ∧ (numB (Lib.itoa n) = true → numI (Lib.itoa n) = n) := by
        by_cases hf : -10000000000 < n ∧ n < 10000000000
        · have := num_itoa hf
          unfold numB numI
          rw [this, show ltB (-10000000000) n = true from decide_eq_true hf.1, show ltB n 10000000000 = true from decide_eq_true hf.2]
          exact ⟨rfl, fun _ => rfl⟩
        · have hnb : numB (Lib.itoa n) = false := by
            cases hb : numB (Lib.itoa n) with
            | false => rfl
            | true =>
              obtain ⟨i1, i2⟩ := itoa_num hb
              rw [itoa_inj i1] at i2
              exact absurd i2 hf
          rw [hnb]
          refine ⟨?_, fun h => by cases h⟩
          by_cases hf1 : -10000000000 < n
          · rw [show ltB n 10000000000 = false from decide_eq_false (fun h => hf ⟨hf1, h⟩), Bool.and_false]
          · rw [show ltB (-10000000000) n = false from decide_eq_false hf1, Bool.false_and]
      obtain ⟨k2, k3⟩ := k1
      rw [k2]
      have k4 : (!(numB (Lib.itoa n) == numB (Lib.itoa n)) || numB (Lib.itoa n) && numI (Lib.itoa n) != n) = false := by
        rw [beq_self_eq_true]
        cases hb : numB (Lib.itoa n) with
        | false => rfl
        | true => rw [k3 hb]; simp
      rw [k4]
      simp only [bnd_some, ctl_true, ctl_false, ctl_and, ctl_or', ctl_or2, x_toPV, x_toCs, x_toCs2, x_toEs, x_bEs, x_bCs, x_aPV, x_aCs, x_int, x_bool, x_str, x_es, x_esn, nth_0, nth_1, nth_2, nth_3, nth_4, nth_5, nth_6, nth_7, nth_8, nth_9, y_nil, y_int, y_bool, y_str, y_sl, y_nils, y_agg, y_ownp, y_own, z_nil, z_int, z_bool, z_str, z_sl, z_nils, b_nil, b_arr, b_box1, b_box2, b_box3, b_box4, List.map_cons, List.map_nil, Bool.and_self, Bool.and_true, Bool.true_and, Bool.not_true, Bool.not_false, Bool.or_false, Bool.false_or, cond_true, cond_false, okPack, okPut, okPutBlks, okPutCells, q_isP, q_isAg, q_isBox, q_isArr, q_int, q_bool, q_str, q_sl, q_nils, e_exit, e_ret, e_nrm, e_ret_exit, e_exit_ret, e_nrm_exit, e_nrm_ret, e_exit_nrm, e_ret_nrm, Nat.zero_add, Nat.reduceAdd, noslR, noslP, noslB, noslA, List.all_cons, List.all_nil]
      have k5 : numB a = true → (Lib.itoa (numI a) == a) = true := fun h => by rw [(itoa_num h).1]; simp
      have k6 : numB a = true → numB b = true → numI a = numI b → a = b := fun ha hb hab => by
        rw [← (itoa_num ha).1, ← (itoa_num hb).1, hab]
      cases ha : numB a with
      | false => rfl
      | true =>
        rw [k5 ha]
        cases hb : numB b with
        | false => rfl
        | true =>
          by_cases hab : numI a = numI b
          · rw [k6 ha hb hab, bne_self_eq_false, beq_self_eq_true]; rfl
          · have : (numI a != numI b) = true := by simpa using hab
            rw [this]; rfl
    · have e2 : ltB 30 (b.length : Int) = true := decide_eq_true (by omega)
      rw [e2]
      simp only [Bool.true_or, Bool.or_true, bnd_some, ctl_true, ctl_false, ctl_and, ctl_or', ctl_or2, x_toPV, x_toCs, x_toCs2, x_toEs, x_bEs, x_bCs, x_aPV, x_aCs, x_int, x_bool, x_str, x_es, x_esn, nth_0, nth_1, nth_2, nth_3, nth_4, nth_5, nth_6, nth_7, nth_8, nth_9, y_nil, y_int, y_bool, y_str, y_sl, y_nils, y_agg, y_ownp, y_own, z_nil, z_int, z_bool, z_str, z_sl, z_nils, b_nil, b_arr, b_box1, b_box2, b_box3, b_box4, List.map_cons, List.map_nil, Bool.and_self, Bool.and_true, Bool.true_and, Bool.not_true, Bool.not_false, Bool.or_false, Bool.false_or, cond_true, cond_false, okPack, okPut, okPutBlks, okPutCells, q_isP, q_isAg, q_isBox, q_isArr, q_int, q_bool, q_str, q_sl, q_nils, e_exit, e_ret, e_nrm, e_ret_exit, e_exit_ret, e_nrm_exit, e_nrm_ret, e_exit_nrm, e_ret_nrm, Nat.zero_add, Nat.reduceAdd, noslR, noslP, noslB, noslA, List.all_cons, List.all_nil]
  · have e1 : ltB 30 (a.length : Int) = true := decide_eq_true (by omega)
    rw [e1]
    simp only [Bool.true_or, Bool.or_true, bnd_some, ctl_true, ctl_false, ctl_and, ctl_or', ctl_or2, x_toPV, x_toCs, x_toCs2, x_toEs, x_bEs, x_bCs, x_aPV, x_aCs, x_int, x_bool, x_str, x_es, x_esn, nth_0, nth_1, nth_2, nth_3, nth_4, nth_5, nth_6, nth_7, nth_8, nth_9, y_nil, y_int, y_bool, y_str, y_sl, y_nils, y_agg, y_ownp, y_own, z_nil, z_int, z_bool, z_str, z_sl, z_nils, b_nil, b_arr, b_box1, b_box2, b_box3, b_box4, List.map_cons, List.map_nil, Bool.and_self, Bool.and_true, Bool.true_and, Bool.not_true, Bool.not_false, Bool.or_false, Bool.false_or, cond_true, cond_false, okPack, okPut, okPutBlks, okPutCells, q_isP, q_isAg, q_isBox, q_isArr, q_int, q_bool, q_str, q_sl, q_nils, e_exit, e_ret, e_nrm, e_ret_exit, e_exit_ret, e_nrm_exit, e_nrm_ret, e_exit_nrm, e_ret_nrm, Nat.zero_add, Nat.reduceAdd, noslR, noslP, noslB, noslA, List.all_cons, List.all_nil]

end Go.Proofs.YtcopadohnlcheaaDoor.Vm
