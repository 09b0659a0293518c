/- Chapter 05: the example of the chapter; streams made from numbers. -/
import Derived.Test.YtmlhemkadoadaaaDoorStrmC
namespace Go.Proofs.YtmlhemkadoadaaaDoor.Vm
set_option linter.unusedVariables false
set_option linter.unusedSimpArgs false

theorem fmap_one (x y : List UInt8) : fldK [[x, y]] = [[PV.sl 1 (strsK [x, y])]] := rfl

theorem run_ex : (run ⟨[], 0, [], 0⟩ [120, 120, 36, 65, 44, 49, 42, 53, 67, 13, 10, 36, 65]).rest = [36, 65] ∧ (run ⟨[], 0, [], 0⟩ [120, 120, 36, 65, 44, 49, 42, 53, 67, 13, 10, 36, 65]).ss.length = 1 ∧
    (run ⟨[], 0, [], 0⟩ [120, 120, 36, 65, 44, 49, 42, 53, 67, 13, 10, 36, 65]).lost = 2 := by decide +kernel

theorem c_sane05 : denC E 10 [] [] = some ([RV.p (PV.bool true)], []) := by
  rw [denC_eq, r10]
  have e1 : ([[PV.int IntKind.u8 120], [PV.int IntKind.u8 120], [PV.int IntKind.u8 36], [PV.int IntKind.u8 65], [PV.int IntKind.u8 44], [PV.int IntKind.u8 49], [PV.int IntKind.u8 42], [PV.int IntKind.u8 53], [PV.int IntKind.u8 67], [PV.int IntKind.u8 13], [PV.int IntKind.u8 10], [PV.int IntKind.u8 36], [PV.int IntKind.u8 65]] : List (List PV)) =
      byteEs [120, 120, 36, 65, 44, 49, 42, 53, 67, 13, 10, 36, 65] := rfl
  have e0 : ([] : List (List PV)) = byteEs [] := rfl
  obtain ⟨h1, h2, h3⟩ := run_ex
  have hf := c_SFeed [] [120, 120, 36, 65, 44, 49, 42, 53, 67, 13, 10, 36, 65] (by simp) (by simp)
  rw [show ini [] = ⟨[], 0, [], 0⟩ from rfl, h1, h3] at hf
  rw [e1]
  rw [show (AV.agg [PV.sl 1 []]) = AV.agg [PV.sl 1 (byteEs [])] from rfl, hf]
  simp only [bnd_some, ctl_true, ctl_false, ctl_and, ctl_or', ctl_or2, x_toPV, x_toCs, x_toCs2, x_toEs, x_bEs, x_bCs, x_aPV, x_aCs, x_int, x_bool, x_str, x_es, x_esn, nth_0, nth_1, nth_2, nth_3, nth_4, nth_5, nth_6, nth_7, nth_8, nth_9, y_nil, y_int, y_bool, y_str, y_sl, y_nils, y_agg, y_ownp, y_own, z_nil, z_int, z_bool, z_str, z_sl, z_nils, b_nil, b_arr, b_box1, b_box2, b_box3, b_box4, List.map_cons, List.map_nil, Bool.and_self, Bool.and_true, Bool.true_and, Bool.not_true, Bool.not_false, Bool.or_false, Bool.false_or, cond_true, cond_false, okPack, okPut, okPutBlks, okPutCells, q_isP, q_isAg, q_isBox, q_isArr, q_int, q_bool, q_str, q_sl, q_nils, e_exit, e_ret, e_nrm, e_ret_exit, e_exit_ret, e_nrm_exit, e_nrm_ret, e_exit_nrm, e_ret_nrm, Nat.zero_add, Nat.reduceAdd, noslR, noslP, noslB, noslA, List.all_cons, List.all_nil]
  rw [fldK_length, h2]
  simp only [Int.natCast_one, beq_self_eq_true, bnd_some, ctl_true, ctl_false, ctl_and, ctl_or', ctl_or2, x_toPV, x_toCs, x_toCs2, x_toEs, x_bEs, x_bCs, x_aPV, x_aCs, x_int, x_bool, x_str, x_es, x_esn, nth_0, nth_1, nth_2, nth_3, nth_4, nth_5, nth_6, nth_7, nth_8, nth_9, y_nil, y_int, y_bool, y_str, y_sl, y_nils, y_agg, y_ownp, y_own, z_nil, z_int, z_bool, z_str, z_sl, z_nils, b_nil, b_arr, b_box1, b_box2, b_box3, b_box4, List.map_cons, List.map_nil, Bool.and_self, Bool.and_true, Bool.true_and, Bool.not_true, Bool.not_false, Bool.or_false, Bool.false_or, cond_true, cond_false, okPack, okPut, okPutBlks, okPutCells, q_isP, q_isAg, q_isBox, q_isArr, q_int, q_bool, q_str, q_sl, q_nils, e_exit, e_ret, e_nrm, e_ret_exit, e_exit_ret, e_nrm_exit, e_nrm_ret, e_exit_nrm, e_ret_nrm, Nat.zero_add, Nat.reduceAdd, noslR, noslP, noslB, noslA, List.all_cons, List.all_nil]
  rw [bytesOk_byteEs, toBytes_byteEs]
  simp only [beq_self_eq_true, bnd_some, ctl_true, ctl_false, ctl_and, ctl_or', ctl_or2, x_toPV, x_toCs, x_toCs2, x_toEs, x_bEs, x_bCs, x_aPV, x_aCs, x_int, x_bool, x_str, x_es, x_esn, nth_0, nth_1, nth_2, nth_3, nth_4, nth_5, nth_6, nth_7, nth_8, nth_9, y_nil, y_int, y_bool, y_str, y_sl, y_nils, y_agg, y_ownp, y_own, z_nil, z_int, z_bool, z_str, z_sl, z_nils, b_nil, b_arr, b_box1, b_box2, b_box3, b_box4, List.map_cons, List.map_nil, Bool.and_self, Bool.and_true, Bool.true_and, Bool.not_true, Bool.not_false, Bool.or_false, Bool.false_or, cond_true, cond_false, okPack, okPut, okPutBlks, okPutCells, q_isP, q_isAg, q_isBox, q_isArr, q_int, q_bool, q_str, q_sl, q_nils, e_exit, e_ret, e_nrm, e_ret_exit, e_exit_ret, e_nrm_exit, e_nrm_ret, e_exit_nrm, e_ret_nrm, Nat.zero_add, Nat.reduceAdd, noslR, noslP, noslB, noslA, List.all_cons, List.all_nil]
  rw [c_SIdle _ (by simp), c_SIdle _ (by simp)]
  rfl

theorem cutI_byteEs (s : List UInt8) (lo hi : Int) : cutI (byteEs s) lo hi = byteEs (cutI s lo hi) := by
  unfold cutI byteEs
  rw [List.map_drop, List.map_take]
theorem cutI_le {α : Type} (l : List α) (lo hi : Int) : (cutI l lo hi).length ≤ l.length := by
  unfold cutI
  simp
  omega

/-- A sentence made from numbers, with its text. -/
theorem c_form {L : List Int} {k : Nat} (hL : L.length ≤ 600) (hk : k ≤ 600) : validB (vFields L k) = true ∧ (txt (Lib.join (vFields L k) [44])).length ≤ 26 ∧
    denC E 16 [AV.agg [PV.sl 1 (strsK (vFields L k))]] [] = some ([RV.p (PV.sl 1 (byteEs (txt (Lib.join (vFields L k) [44])))), RV.p (PV.int .i64 0)], []) := by
  obtain ⟨h1, h2, h3⟩ := vFields_ok L k
  have h4 := txt_fields L k
  refine ⟨h1, h4, ?_⟩
  rw [c_rFormat _ (by omega), frm_ok h1 (by omega)]

theorem l_bytes {L : List Int} (hL : L.length ≤ 600) : ∀ (n k : Nat) (done : List UInt8), k ≤ 600 → n ≤ 100 → done.length + 40 * n ≤ 100000 →
    ∃ (X : List UInt8) (k' : Nat), X.length ≤ done.length + 40 * n ∧ k' ≤ 600 ∧ lp E (denC E) 12 1 [] 0 { vals := [AV.int .i64 n], blks := [src L k, Blk.arr 1 (byteEs done)] } =
      some (Ex.exit 0, { vals := [], blks := [src L k', Blk.arr 1 (byteEs X)] })
  | 0, k, done, hk, _, _ => by
    refine ⟨done, k, by omega, hk, ?_⟩
    rw [r12_0, ctl_dec, if_neg (by simp)]
  | n + 1, k, done, hk, hn, hd => by
    have q1 := atNoise_le (m := 5) hL hk
    have q2 := vNoise_len L k (m := 5) (by omega)
    have q3 := atFields_le hL q1
    obtain ⟨f1, f2, f3⟩ := c_form (k := atNoise L k 5) hL q1
    have q4 := at'_le hL q3
    rw [r12_0, ctl_dec, if_pos (by omega), c_Noise hL hk (by omega)]
    simp only [bnd_some, ctl_true, ctl_false, ctl_and, ctl_or', ctl_or2, x_toPV, x_toCs, x_toCs2, x_toEs, x_bEs, x_bCs, x_aPV, x_aCs, x_int, x_bool, x_str, x_es, x_esn, nth_0, nth_1, nth_2, nth_3, nth_4, nth_5, nth_6, nth_7, nth_8, nth_9, y_nil, y_int, y_bool, y_str, y_sl, y_nils, y_agg, y_ownp, y_own, z_nil, z_int, z_bool, z_str, z_sl, z_nils, b_nil, b_arr, b_box1, b_box2, b_box3, b_box4, List.map_cons, List.map_nil, Bool.and_self, Bool.and_true, Bool.true_and, Bool.not_true, Bool.not_false, Bool.or_false, Bool.false_or, cond_true, cond_false, okPack, okPut, okPutBlks, okPutCells, q_isP, q_isAg, q_isBox, q_isArr, q_int, q_bool, q_str, q_sl, q_nils, e_exit, e_ret, e_nrm, e_ret_exit, e_exit_ret, e_nrm_exit, e_nrm_ret, e_exit_nrm, e_ret_nrm, Nat.zero_add, Nat.reduceAdd, noslR, noslP, noslB, noslA, List.all_cons, List.all_nil]
    rw [byteEs_length, byteEs_length, show leN ((done.length + (vNoise L k 5).length) * 1) 140737488355328 = true from decide_eq_true (by omega), ctl_true, c_SFields hL q1]
    simp only [bnd_some, ctl_true, ctl_false, ctl_and, ctl_or', ctl_or2, x_toPV, x_toCs, x_toCs2, x_toEs, x_bEs, x_bCs, x_aPV, x_aCs, x_int, x_bool, x_str, x_es, x_esn, nth_0, nth_1, nth_2, nth_3, nth_4, nth_5, nth_6, nth_7, nth_8, nth_9, y_nil, y_int, y_bool, y_str, y_sl, y_nils, y_agg, y_ownp, y_own, z_nil, z_int, z_bool, z_str, z_sl, z_nils, b_nil, b_arr, b_box1, b_box2, b_box3, b_box4, List.map_cons, List.map_nil, Bool.and_self, Bool.and_true, Bool.true_and, Bool.not_true, Bool.not_false, Bool.or_false, Bool.false_or, cond_true, cond_false, okPack, okPut, okPutBlks, okPutCells, q_isP, q_isAg, q_isBox, q_isArr, q_int, q_bool, q_str, q_sl, q_nils, e_exit, e_ret, e_nrm, e_ret_exit, e_exit_ret, e_nrm_exit, e_nrm_ret, e_exit_nrm, e_ret_nrm, Nat.zero_add, Nat.reduceAdd, noslR, noslP, noslB, noslA, List.all_cons, List.all_nil]
    rw [f3]
    simp only [bnd_some, ctl_true, ctl_false, ctl_and, ctl_or', ctl_or2, x_toPV, x_toCs, x_toCs2, x_toEs, x_bEs, x_bCs, x_aPV, x_aCs, x_int, x_bool, x_str, x_es, x_esn, nth_0, nth_1, nth_2, nth_3, nth_4, nth_5, nth_6, nth_7, nth_8, nth_9, y_nil, y_int, y_bool, y_str, y_sl, y_nils, y_agg, y_ownp, y_own, z_nil, z_int, z_bool, z_str, z_sl, z_nils, b_nil, b_arr, b_box1, b_box2, b_box3, b_box4, List.map_cons, List.map_nil, Bool.and_self, Bool.and_true, Bool.true_and, Bool.not_true, Bool.not_false, Bool.or_false, Bool.false_or, cond_true, cond_false, okPack, okPut, okPutBlks, okPutCells, q_isP, q_isAg, q_isBox, q_isArr, q_int, q_bool, q_str, q_sl, q_nils, e_exit, e_ret, e_nrm, e_ret_exit, e_exit_ret, e_nrm_exit, e_nrm_ret, e_exit_nrm, e_ret_nrm, Nat.zero_add, Nat.reduceAdd, noslR, noslP, noslB, noslA, List.all_cons, List.all_nil]
    rw [c_N hL q3 4 (by omega)]
    simp only [bnd_some, ctl_true, ctl_false, ctl_and, ctl_or', ctl_or2, x_toPV, x_toCs, x_toCs2, x_toEs, x_bEs, x_bCs, x_aPV, x_aCs, x_int, x_bool, x_str, x_es, x_esn, nth_0, nth_1, nth_2, nth_3, nth_4, nth_5, nth_6, nth_7, nth_8, nth_9, y_nil, y_int, y_bool, y_str, y_sl, y_nils, y_agg, y_ownp, y_own, z_nil, z_int, z_bool, z_str, z_sl, z_nils, b_nil, b_arr, b_box1, b_box2, b_box3, b_box4, List.map_cons, List.map_nil, Bool.and_self, Bool.and_true, Bool.true_and, Bool.not_true, Bool.not_false, Bool.or_false, Bool.false_or, cond_true, cond_false, okPack, okPut, okPutBlks, okPutCells, q_isP, q_isAg, q_isBox, q_isArr, q_int, q_bool, q_str, q_sl, q_nils, e_exit, e_ret, e_nrm, e_ret_exit, e_exit_ret, e_nrm_exit, e_nrm_ret, e_exit_nrm, e_ret_nrm, Nat.zero_add, Nat.reduceAdd, noslR, noslP, noslB, noslA, List.all_cons, List.all_nil]
    rw [w64 (n := ((n + 1 : Nat) : Int) - 1) (by omega), show ((n + 1 : Nat) : Int) - 1 = (n : Int) by omega, ← byteEs_app, byteEs_length, byteEs_length]
    cases hc : vN L (atFields L (atNoise L k 5)) 4 == 3 with
    | true =>
      rw [ctl_true, w64 (by omega), c_N hL q4 _ (by omega)]
      simp only [bnd_some, ctl_true, ctl_false, ctl_and, ctl_or', ctl_or2, x_toPV, x_toCs, x_toCs2, x_toEs, x_bEs, x_bCs, x_aPV, x_aCs, x_int, x_bool, x_str, x_es, x_esn, nth_0, nth_1, nth_2, nth_3, nth_4, nth_5, nth_6, nth_7, nth_8, nth_9, y_nil, y_int, y_bool, y_str, y_sl, y_nils, y_agg, y_ownp, y_own, z_nil, z_int, z_bool, z_str, z_sl, z_nils, b_nil, b_arr, b_box1, b_box2, b_box3, b_box4, List.map_cons, List.map_nil, Bool.and_self, Bool.and_true, Bool.true_and, Bool.not_true, Bool.not_false, Bool.or_false, Bool.false_or, cond_true, cond_false, okPack, okPut, okPutBlks, okPutCells, q_isP, q_isAg, q_isBox, q_isArr, q_int, q_bool, q_str, q_sl, q_nils, e_exit, e_ret, e_nrm, e_ret_exit, e_exit_ret, e_nrm_exit, e_nrm_ret, e_exit_nrm, e_ret_nrm, Nat.zero_add, Nat.reduceAdd, noslR, noslP, noslB, noslA, List.all_cons, List.all_nil]
      have b1 := vN_bounds (L := L) (k := at' L (atFields L (atNoise L k 5))) (n := ((txt (Lib.join (vFields L (atNoise L k 5)) [44])).length : Int) + 1) (by omega)
      have b2 := cutI_le (txt (Lib.join (vFields L (atNoise L k 5)) [44])) 0 (vN L (at' L (atFields L (atNoise L k 5))) (((txt (Lib.join (vFields L (atNoise L k 5)) [44])).length : Int) + 1))
      rw [show leB 0 (vN L (at' L (atFields L (atNoise L k 5))) (((txt (Lib.join (vFields L (atNoise L k 5)) [44])).length : Int) + 1)) = true from decide_eq_true b1.1,
        show leB (vN L (at' L (atFields L (atNoise L k 5))) (((txt (Lib.join (vFields L (atNoise L k 5)) [44])).length : Int) + 1)) ((txt (Lib.join (vFields L (atNoise L k 5)) [44])).length : Int) = true from decide_eq_true (by omega)]
      simp only [bnd_some, ctl_true, ctl_false, ctl_and, ctl_or', ctl_or2, x_toPV, x_toCs, x_toCs2, x_toEs, x_bEs, x_bCs, x_aPV, x_aCs, x_int, x_bool, x_str, x_es, x_esn, nth_0, nth_1, nth_2, nth_3, nth_4, nth_5, nth_6, nth_7, nth_8, nth_9, y_nil, y_int, y_bool, y_str, y_sl, y_nils, y_agg, y_ownp, y_own, z_nil, z_int, z_bool, z_str, z_sl, z_nils, b_nil, b_arr, b_box1, b_box2, b_box3, b_box4, List.map_cons, List.map_nil, Bool.and_self, Bool.and_true, Bool.true_and, Bool.not_true, Bool.not_false, Bool.or_false, Bool.false_or, cond_true, cond_false, okPack, okPut, okPutBlks, okPutCells, q_isP, q_isAg, q_isBox, q_isArr, q_int, q_bool, q_str, q_sl, q_nils, e_exit, e_ret, e_nrm, e_ret_exit, e_exit_ret, e_nrm_exit, e_nrm_ret, e_exit_nrm, e_ret_nrm, Nat.zero_add, Nat.reduceAdd, noslR, noslP, noslB, noslA, List.all_cons, List.all_nil]
      rw [cutI_byteEs, byteEs_length, ← byteEs_app]
      have q5 := at'_le hL q4
      obtain ⟨X, k', g1, g2, g3⟩ := l_bytes hL n (at' L (at' L (atFields L (atNoise L k 5)))) (done ++ vNoise L k 5 ++ cutI (txt (Lib.join (vFields L (atNoise L k 5)) [44])) 0 (vN L (at' L (atFields L (atNoise L k 5))) (((txt (Lib.join (vFields L (atNoise L k 5)) [44])).length : Int) + 1))) q5 (by omega)
        (by simp only [List.length_append]; omega)
      refine ⟨X, k', by simp only [List.length_append] at g1; omega, g2, ?_⟩
      rw [show leN (((done ++ vNoise L k 5).length + (cutI (txt (Lib.join (vFields L (atNoise L k 5)) [44])) 0 (vN L (at' L (atFields L (atNoise L k 5))) (((txt (Lib.join (vFields L (atNoise L k 5)) [44])).length : Int) + 1))).length) * 1) 140737488355328 = true from
        decide_eq_true (by simp only [List.length_append]; omega), ctl_true]
      exact g3
    | false =>
      obtain ⟨X, k', g1, g2, g3⟩ := l_bytes hL n (at' L (atFields L (atNoise L k 5))) (done ++ vNoise L k 5 ++ txt (Lib.join (vFields L (atNoise L k 5)) [44])) q4 (by omega) (by simp only [List.length_append]; omega)
      refine ⟨X, k', by simp only [List.length_append] at g1; omega, g2, ?_⟩
      rw [ctl_false, ← byteEs_app, show leN (((done ++ vNoise L k 5).length + (txt (Lib.join (vFields L (atNoise L k 5)) [44])).length) * 1) 140737488355328 = true from
        decide_eq_true (by simp only [List.length_append]; omega), ctl_true]
      exact g3

theorem c_bytes {L : List Int} {k : Nat} (hL : L.length ≤ 600) (hk : k ≤ 600) : ∃ (X : List UInt8) (k' : Nat), X.length ≤ 1000 ∧ k' ≤ 600 ∧
    denC E 12 [AV.t (.ptr 0 0)] [src L k] = some ([RV.p (PV.sl 1 (byteEs X))], [src L k']) := by
  have hb := vN_bounds (L := L) (k := k) (n := 6) (by omega)
  obtain ⟨m, hm⟩ : ∃ m : Nat, vN L k 6 = m := ⟨(vN L k 6).toNat, by omega⟩
  obtain ⟨X, k', h1, h2, h3⟩ := l_bytes hL m (at' L k) [] (at'_le hL hk) (by omega) (by simp; omega)
  have q2 := vNoise_len L k' (m := 4) (by omega)
  simp only [List.length_nil] at h1
  refine ⟨X ++ vNoise L k' 4, atNoise L k' 4, by simp only [List.length_append]; omega, atNoise_le hL h2, ?_⟩
  rw [denC_eq, r12, c_N hL hk 6 (by omega)]
  simp only [bnd_some, ctl_true, ctl_false, ctl_and, ctl_or', ctl_or2, x_toPV, x_toCs, x_toCs2, x_toEs, x_bEs, x_bCs, x_aPV, x_aCs, x_int, x_bool, x_str, x_es, x_esn, nth_0, nth_1, nth_2, nth_3, nth_4, nth_5, nth_6, nth_7, nth_8, nth_9, y_nil, y_int, y_bool, y_str, y_sl, y_nils, y_agg, y_ownp, y_own, z_nil, z_int, z_bool, z_str, z_sl, z_nils, b_nil, b_arr, b_box1, b_box2, b_box3, b_box4, List.map_cons, List.map_nil, Bool.and_self, Bool.and_true, Bool.true_and, Bool.not_true, Bool.not_false, Bool.or_false, Bool.false_or, cond_true, cond_false, okPack, okPut, okPutBlks, okPutCells, q_isP, q_isAg, q_isBox, q_isArr, q_int, q_bool, q_str, q_sl, q_nils, e_exit, e_ret, e_nrm, e_ret_exit, e_exit_ret, e_nrm_exit, e_nrm_ret, e_exit_nrm, e_ret_nrm, Nat.zero_add, Nat.reduceAdd, noslR, noslP, noslB, noslA, List.all_cons, List.all_nil]
  rw [hm, show ([] : List (List PV)) = byteEs [] from rfl, h3]
  simp only [bnd_some, ctl_true, ctl_false, ctl_and, ctl_or', ctl_or2, x_toPV, x_toCs, x_toCs2, x_toEs, x_bEs, x_bCs, x_aPV, x_aCs, x_int, x_bool, x_str, x_es, x_esn, nth_0, nth_1, nth_2, nth_3, nth_4, nth_5, nth_6, nth_7, nth_8, nth_9, y_nil, y_int, y_bool, y_str, y_sl, y_nils, y_agg, y_ownp, y_own, z_nil, z_int, z_bool, z_str, z_sl, z_nils, b_nil, b_arr, b_box1, b_box2, b_box3, b_box4, List.map_cons, List.map_nil, Bool.and_self, Bool.and_true, Bool.true_and, Bool.not_true, Bool.not_false, Bool.or_false, Bool.false_or, cond_true, cond_false, okPack, okPut, okPutBlks, okPutCells, q_isP, q_isAg, q_isBox, q_isArr, q_int, q_bool, q_str, q_sl, q_nils, e_exit, e_ret, e_nrm, e_ret_exit, e_exit_ret, e_nrm_exit, e_nrm_ret, e_exit_nrm, e_ret_nrm, Nat.zero_add, Nat.reduceAdd, noslR, noslP, noslB, noslA, List.all_cons, List.all_nil]
  rw [c_Noise hL h2 (by omega)]
  simp only [bnd_some, ctl_true, ctl_false, ctl_and, ctl_or', ctl_or2, x_toPV, x_toCs, x_toCs2, x_toEs, x_bEs, x_bCs, x_aPV, x_aCs, x_int, x_bool, x_str, x_es, x_esn, nth_0, nth_1, nth_2, nth_3, nth_4, nth_5, nth_6, nth_7, nth_8, nth_9, y_nil, y_int, y_bool, y_str, y_sl, y_nils, y_agg, y_ownp, y_own, z_nil, z_int, z_bool, z_str, z_sl, z_nils, b_nil, b_arr, b_box1, b_box2, b_box3, b_box4, List.map_cons, List.map_nil, Bool.and_self, Bool.and_true, Bool.true_and, Bool.not_true, Bool.not_false, Bool.or_false, Bool.false_or, cond_true, cond_false, okPack, okPut, okPutBlks, okPutCells, q_isP, q_isAg, q_isBox, q_isArr, q_int, q_bool, q_str, q_sl, q_nils, e_exit, e_ret, e_nrm, e_ret_exit, e_exit_ret, e_nrm_exit, e_nrm_ret, e_exit_nrm, e_ret_nrm, Nat.zero_add, Nat.reduceAdd, noslR, noslP, noslB, noslA, List.all_cons, List.all_nil]
  rw [byteEs_length, byteEs_length, show leN ((X.length + (vNoise L k' 4).length) * 1) 140737488355328 = true from decide_eq_true (by omega), ctl_true, byteEs_app]

theorem Lle5 {t : List Int} : (t.take 600).length ≤ 600 := by simp; omega

/-- The lists of fields are short. -/
theorem pf_len {b : List UInt8} {l : List (List UInt8)} (h : pf b = some l) : l.length ≤ 100000 := by
  unfold pf at h
  split at h
  · cases h
  · split at h
    · cases h
    · split at h
      · rename_i hv
        split at h
        · cases h
          have := (tot_valid hv).1
          omega
        · cases h
      · cases h
theorem run_flds : ∀ (bs : List UInt8) (c : Cu), (∀ x ∈ c.ss, x.length ≤ 100000) → ∀ x ∈ (run c bs).ss, x.length ≤ 100000
  | [], c, h => h
  | b :: bs, c, h => by
    refine run_flds bs (stp c b) ?_
    unfold stp
    cases b == 36 with
    | true => exact h
    | false =>
      simp only [cond_false]
      cases c.rest.isEmpty with
      | true => exact h
      | false =>
        simp only [cond_false]
        cases b == 10 with
        | true =>
          simp only [cond_true]
          split
          · rename_i l hl
            intro x hx
            simp only [List.mem_append, List.mem_singleton] at hx
            rcases hx with hx | rfl
            · exact h x hx
            · exact pf_len hl
          · exact h
        | false =>
          simp only [cond_false]
          cases leB 200 ((c.rest ++ [b]).length : Int) <;> exact h

end Go.Proofs.YtmlhemkadoadaaaDoor.Vm
