/- The law StreamLimits. -/
import Derived.Test.YtmlhemkadoadaaaDoorStrmD
import Derived.Test.YtmlhemkadoadaaaDoorRawLimits
namespace Go.Proofs.YtmlhemkadoadaaaDoor.Vm
set_option linter.unusedVariables false
set_option linter.unusedSimpArgs false

theorem l_limits (m : Nat) (hm : m ≤ 255) : ∀ (n : Nat) (i : Nat), i + n = m → lp E (denC E) 3 0 [] 0 { vals := [AV.int .u8 m, AV.int .i64 i], blks := [Blk.arr 1 (byteEs (36 :: List.replicate i 120))] } =
    some (Ex.exit 0, { vals := [], blks := [Blk.arr 1 (byteEs (36 :: List.replicate m 120))] })
  | 0, i, h => by
    have : i = m := by omega
    subst this
    rw [r3_0, w64 (by omega), ctl_dec, if_neg (by omega)]
  | n + 1, i, h => by
    have := l_limits m hm n (i + 1) (by omega)
    rw [r3_0, w64 (by omega), ctl_dec, if_pos (by omega), byteEs_length, show leN (((36 :: List.replicate i (120 : UInt8)).length + 1) * 1) 140737488355328 = true from decide_eq_true (by simp; omega), ctl_true]
    rw [w64 (by omega), show ((i : Int) + 1) = ((i + 1 : Nat) : Int) by omega]
    have e : byteEs (36 :: List.replicate i 120) ++ [[PV.int IntKind.u8 120]] = byteEs (36 :: List.replicate (i + 1) 120) := by
      rw [List.replicate_succ', ← List.cons_append, byteEs_app]
      rfl
    rw [e]
    exact this

theorem run_limits (m : Nat) : run ⟨[], 0, [], 0⟩ (36 :: List.replicate m 120) = bif leN (m + 1) 199 then ⟨36 :: List.replicate m 120, 0, [], 0⟩ else ⟨[], 0, [], (m + 1 : Nat)⟩ := by
  have e : stp ⟨[], 0, [], 0⟩ 36 = ⟨[36], 0, [], 0⟩ := rfl
  rw [run_cons, e]
  by_cases hm : m + 1 ≤ 199
  · rw [show leN (m + 1) 199 = true from decide_eq_true hm, cond_true, run_mid _ _ (by simp) (by simp; omega) fun b hb => by
      have := List.eq_of_mem_replicate hb
      subst this
      decide]
    rfl
  · rw [show leN (m + 1) 199 = false from decide_eq_false hm, cond_false]
    obtain ⟨j, hj⟩ : ∃ j, j = 198 := ⟨198, rfl⟩
    obtain ⟨k, rfl⟩ : ∃ k, m = j + (k + 1) := ⟨m - 199, by omega⟩
    have e1 : List.replicate (j + (k + 1)) (120 : UInt8) = List.replicate j 120 ++ (120 :: List.replicate k 120) := by
      rw [← List.replicate_append_replicate, List.replicate_succ]
    rw [e1, run_app, run_mid (List.replicate j 120) ⟨[36], 0, [], 0⟩ (by simp) (by simp; omega) fun b hb => by
      have := List.eq_of_mem_replicate hb
      subst this
      decide]
    have e2 : stp ⟨[36] ++ List.replicate j 120, 0, [], 0⟩ 120 = ⟨[], 0, [], 200⟩ := by
      have hlen : (([36] : List UInt8) ++ List.replicate j 120 ++ [120]).length = 200 := by simp; omega
      have c1 : ((120 : UInt8) == 36) = false := rfl
      have c2 : (([36] : List UInt8) ++ List.replicate j 120).isEmpty = false := rfl
      have c3 : ((120 : UInt8) == 10) = false := rfl
      have c4 : leB 200 ((200 : Nat) : Int) = true := rfl
      unfold stp
      simp only [c1, c2, c3, hlen, c4, cond_true, cond_false]
      rfl
    rw [run_cons]
    show run (stp ⟨[36] ++ List.replicate j 120, 0, [], 0⟩ 120) _ = _
    rw [e2, run_garb _ _ rfl fun b hb => by
      have := List.eq_of_mem_replicate hb
      subst this
      decide]
    simp only [List.length_replicate, Cu.mk.injEq, true_and]
    omega

theorem d_StreamLimits (n : Int) (hn : 0 ≤ n ∧ n ≤ 255) : denC E 3 [AV.int .u8 n] [] = some ([RV.p (PV.bool true)], []) := by
  obtain ⟨m, rfl⟩ : ∃ m : Nat, n = m := ⟨n.toNat, by omega⟩
  have hl := l_limits m (by omega) m 0 (by omega)
  rw [denC_eq, r3]
  rw [show ([[PV.int IntKind.u8 36]] : List (List PV)) = byteEs (36 :: List.replicate 0 120) from rfl, show (AV.int IntKind.i64 0) = AV.int .i64 ((0 : Nat) : Int) from rfl, hl]
  simp only [bnd_some, ctl_true, ctl_false, ctl_and, ctl_or', ctl_or2, x_toPV, x_toCs, x_toCs2, x_toEs, x_bEs, x_bCs, x_aPV, x_aCs, x_int, x_bool, x_str, x_es, x_esn, nth_0, nth_1, nth_2, nth_3, nth_4, nth_5, nth_6, nth_7, nth_8, nth_9, y_nil, y_int, y_bool, y_str, y_sl, y_nils, y_agg, y_ownp, y_own, z_nil, z_int, z_bool, z_str, z_sl, z_nils, b_nil, b_arr, b_box1, b_box2, b_box3, b_box4, List.map_cons, List.map_nil, Bool.and_self, Bool.and_true, Bool.true_and, Bool.not_true, Bool.not_false, Bool.or_false, Bool.false_or, cond_true, cond_false, okPack, okPut, okPutBlks, okPutCells, q_isP, q_isAg, q_isBox, q_isArr, q_int, q_bool, q_str, q_sl, q_nils, e_exit, e_ret, e_nrm, e_ret_exit, e_exit_ret, e_nrm_exit, e_nrm_ret, e_exit_nrm, e_ret_nrm, Nat.zero_add, Nat.reduceAdd, noslR, noslP, noslB, noslA, List.all_cons, List.all_nil]
  have hf := c_SFeed [] (36 :: List.replicate m 120) (by simp) (by simp; omega)
  rw [show ini [] = ⟨[], 0, [], 0⟩ from rfl, run_limits] at hf
  rw [show (AV.agg [PV.sl 1 []]) = AV.agg [PV.sl 1 (byteEs [])] from rfl, hf]
  simp only [bnd_some, ctl_true, ctl_false, ctl_and, ctl_or', ctl_or2, x_toPV, x_toCs, x_toCs2, x_toEs, x_bEs, x_bCs, x_aPV, x_aCs, x_int, x_bool, x_str, x_es, x_esn, nth_0, nth_1, nth_2, nth_3, nth_4, nth_5, nth_6, nth_7, nth_8, nth_9, y_nil, y_int, y_bool, y_str, y_sl, y_nils, y_agg, y_ownp, y_own, z_nil, z_int, z_bool, z_str, z_sl, z_nils, b_nil, b_arr, b_box1, b_box2, b_box3, b_box4, List.map_cons, List.map_nil, Bool.and_self, Bool.and_true, Bool.true_and, Bool.not_true, Bool.not_false, Bool.or_false, Bool.false_or, cond_true, cond_false, okPack, okPut, okPutBlks, okPutCells, q_isP, q_isAg, q_isBox, q_isArr, q_int, q_bool, q_str, q_sl, q_nils, e_exit, e_ret, e_nrm, e_ret_exit, e_exit_ret, e_nrm_exit, e_nrm_ret, e_exit_nrm, e_ret_nrm, Nat.zero_add, Nat.reduceAdd, noslR, noslP, noslB, noslA, List.all_cons, List.all_nil]
  have hlen : (36 :: List.replicate m (120 : UInt8)).length = m + 1 := by simp
  by_cases hm : m + 1 ≤ 199
  · rw [show leN (m + 1) 199 = true from decide_eq_true hm]
    simp only [cond_true]
    rw [byteEs_length, hlen, show (fldK []).length = 0 from rfl]
    have a1 : leB 200 ((m + 1 : Nat) : Int) = false := decide_eq_false (by omega)
    have a2 : ltB ((m + 1 : Nat) : Int) 200 = true := decide_eq_true (by omega)
    have a3 : (((m + 1 : Nat) : Int) == 0) = false := by simp; omega
    have hbg : bg (36 :: List.replicate m 120) = true := by
      show ((36 : UInt8) == 36 && leB (((List.replicate m (120 : UInt8)).length + 1 : Nat) : Int) 199 && (List.replicate m (120 : UInt8)).all fun x => !(x == 36) && !(x == 10)) = true
      have h1 : leB (((List.replicate m (120 : UInt8)).length + 1 : Nat) : Int) 199 = true := decide_eq_true (by simp; omega)
      rw [h1]
      simp only [Bool.and_true, beq_self_eq_true, Bool.true_and]
      refine List.all_eq_true.2 fun b hb => ?_
      have := List.eq_of_mem_replicate hb
      subst this
      decide
    rw [a1, a2, a3, c_SIdle _ (by rw [hlen]; omega), hbg, c_sane05]
    simp [ctl, bnd, okR, okB, okP, RV.toPV, PV.toBool, nth]
  · rw [show leN (m + 1) 199 = false from decide_eq_false hm]
    simp only [cond_false]
    rw [byteEs_length, byteEs_length, hlen, show (fldK []).length = 0 from rfl]
    have a1 : leB 200 ((m + 1 : Nat) : Int) = true := decide_eq_true (by omega)
    have a2 : ltB ((m + 1 : Nat) : Int) 200 = false := decide_eq_false (by omega)
    have a3 : (((([] : List UInt8).length : Nat) : Int) == ((m + 1 : Nat) : Int)) = false := by simp; omega
    rw [a1, a2, a3, c_SIdle _ (by simp), c_sane05]
    simp [ctl, bnd, okR, okB, okP, RV.toPV, PV.toBool, nth, bg, show leB 200 0 = false from rfl]

end Go.Proofs.YtmlhemkadoadaaaDoor.Vm
