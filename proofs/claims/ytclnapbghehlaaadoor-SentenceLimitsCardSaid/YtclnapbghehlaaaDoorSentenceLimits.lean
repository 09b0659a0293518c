/- The law SentenceLimits. -/
import Derived.Test.YtclnapbghehlaaaDoorSentG
import Derived.Test.YtclnapbghehlaaaDoorRawLimits
namespace Go.Proofs.YtclnapbghehlaaaDoor.Vm
set_option linter.unusedVariables false
set_option linter.unusedSimpArgs false

theorem cnt (n m : Int) (hn : 0 ≤ n ∧ n ≤ 255) (hm : 1 ≤ m ∧ m ≤ 24) : ∃ c : Nat, IntKind.i64.wrap (1 + (IntKind.i64.wrap n).tmod m) = (c : Int) ∧ 1 ≤ c ∧ (c : Int) ≤ m := by
  rw [w64 (n := n) (by omega), Int.tmod_eq_emod_of_nonneg hn.1]
  have h1 := Int.emod_nonneg n (b := m) (by omega)
  have h2 := Int.emod_lt_of_pos n (b := m) (by omega)
  rw [w64 (by omega)]
  exact ⟨(1 + n % m).toNat, by omega, by omega, by omega⟩

theorem l_LimF (c0 : List (List PV)) (count i : Int) (long : Nat) (hl : long ≤ 1000) : ∀ d j : Nat, j + d = long → lp E (denC E) 7 0 [] 2 { vals := [AV.int .i64 count, AV.int .i64 long, AV.int .i64 i, AV.str (List.replicate j 120)], blks := [Blk.arr 1 c0] } =
    some (Ex.exit 2, { vals := [AV.int .i64 count, AV.int .i64 long, AV.int .i64 i, AV.str (List.replicate long 120)], blks := [Blk.arr 1 c0] }) := by
  intro d
  induction d with
  | zero =>
    intro j h
    obtain rfl : j = long := by omega
    rw [r7_2, ctl_dec, if_neg (by simp)]
  | succ d ih =>
    intro j h
    rw [r7_2, ctl_dec, if_pos (by simp; omega), ctl_dec, if_pos (by simp; omega)]
    have : List.replicate j (120 : UInt8) ++ [120] = List.replicate (j + 1) 120 := by rw [List.replicate_succ']
    rw [this, ih (j + 1) (by omega)]

theorem l_Lim (count long : Nat) (hl : long ≤ 1000) (hc : count ≤ 1000) : ∀ d j : Nat, j + d = count → lp E (denC E) 7 0 [] 0 { vals := [AV.int .i64 count, AV.int .i64 long, AV.int .i64 j], blks := [Blk.arr 1 (strsK (List.replicate j (List.replicate long 120)))] } =
    some (Ex.exit 0, { vals := [AV.int .i64 count, AV.int .i64 long], blks := [Blk.arr 1 (strsK (List.replicate count (List.replicate long 120)))] }) := by
  intro d
  induction d with
  | zero =>
    intro j h
    obtain rfl : j = count := by omega
    rw [r7_0, ctl_dec, if_neg (by simp)]
  | succ d ih =>
    intro j h
    have hlp := l_LimF (strsK (List.replicate j (List.replicate long 120))) count j long hl long 0 (by omega)
    simp only [List.replicate_zero] at hlp
    rw [r7_0, ctl_dec, if_pos (by omega), hlp]
    simp only [bnd_some, ctl_true, ctl_false, ctl_and, ctl_or', ctl_or2, x_toPV, x_toCs, x_toCs2, x_toEs, x_bEs, x_bCs, x_aPV, x_aCs, x_int, x_bool, x_str, x_es, x_esn, nth_0, nth_1, nth_2, nth_3, nth_4, nth_5, nth_6, nth_7, nth_8, nth_9, y_nil, y_int, y_bool, y_str, y_sl, y_nils, y_agg, y_ownp, y_own, z_nil, z_int, z_bool, z_str, z_sl, z_nils, b_nil, b_arr, b_box1, b_box2, b_box3, b_box4, List.map_cons, List.map_nil, Bool.and_self, Bool.and_true, Bool.true_and, Bool.not_true, Bool.not_false, Bool.or_false, Bool.false_or, cond_true, cond_false, okPack, okPut, okPutBlks, okPutCells, q_isP, q_isAg, q_isBox, q_isArr, q_int, q_bool, q_str, q_sl, q_nils, e_exit, e_ret, e_nrm, e_ret_exit, e_exit_ret, e_nrm_exit, e_nrm_ret, e_exit_nrm, e_ret_nrm, Nat.zero_add, Nat.reduceAdd, noslR, noslP, noslB, noslA, List.all_cons, List.all_nil]
    have e : strsK (List.replicate j (List.replicate long (120 : UInt8))) ++ [[PV.str (List.replicate long 120)]] = strsK (List.replicate (j + 1) (List.replicate long 120)) := by
      rw [List.replicate_succ' (n := j)]; simp [strsK]
    rw [e, ctl_dec, if_pos (by rw [strsK_length, List.length_replicate]; omega), w64 (by omega), show ((j : Int) + 1) = ((j + 1 : Nat) : Int) by omega, ih (j + 1) (by omega)]

theorem fld_rep (m : Nat) : fldB (List.replicate m 120) = decide (m ≤ 20) := by
  unfold fldB
  rw [List.length_replicate]
  have h1 : (List.replicate m (120 : UInt8)).all (fun b => !badB b) = true := List.all_eq_true.2 fun b hb => by
    rw [(List.mem_replicate.1 hb).2]; rfl
  rw [h1, Bool.and_true]
  by_cases h : m ≤ 20
  · have : ltB 20 (m : Int) = false := decide_eq_false (by omega)
    rw [this]; simp [h]
  · have : ltB 20 (m : Int) = true := decide_eq_true (by omega)
    rw [this]; simp [h]
theorem valid_rep (c m : Nat) (hc : 1 ≤ c) (hm : 1 ≤ m) : validB (List.replicate c (List.replicate m 120)) = (decide (c ≤ 16) && decide (m ≤ 20)) := by
  unfold validB
  rw [List.length_replicate]
  have h1 : leB 1 (c : Int) = true := decide_eq_true (by omega)
  have h2 : leB (c : Int) 16 = decide (c ≤ 16) := by
    by_cases h : c ≤ 16
    · rw [show leB (c : Int) 16 = true from decide_eq_true (by omega)]; simp [h]
    · rw [show leB (c : Int) 16 = false from decide_eq_false (by omega)]; simp [h]
  obtain ⟨c, rfl⟩ : ∃ c', c = c' + 1 := ⟨c - 1, by omega⟩
  have h3 : (List.replicate (c + 1) (List.replicate m (120 : UInt8))).all fldB = decide (m ≤ 20) := by
    rw [← fld_rep m, Bool.eq_iff_iff, List.all_eq_true]
    refine ⟨fun h => h _ (by simp [List.replicate_succ]), fun h x hx => ?_⟩
    rw [(List.mem_replicate.1 hx).2]; exact h
  have h4 : (List.replicate (c + 1) (List.replicate m (120 : UInt8)) == [[]]) = false := by
    rw [beq_eq_false_iff_ne]
    intro h
    rw [List.replicate_succ] at h
    have := (List.cons.inj h).1
    have := congrArg List.length this
    simp at this; omega
  rw [h1, h2, h3, h4, Bool.true_and, Bool.not_false, Bool.and_true]
theorem join_rep (c m : Nat) (hc : 1 ≤ c) : (Lib.join (List.replicate c (List.replicate m (120 : UInt8))) [44]).length + 1 = c * (m + 1) := by
  obtain ⟨c, rfl⟩ : ∃ c', c = c' + 1 := ⟨c - 1, by omega⟩
  rw [List.replicate_succ, Lib.join_cons]
  have : ∀ c : Nat, (Lib.joinTail [44] (List.replicate c (List.replicate m (120 : UInt8)))).length = c * (m + 1) := fun c => by
    induction c with
    | zero => simp [Lib.joinTail]
    | succ c ih =>
      simp only [Lib.joinTail, List.replicate_succ, List.map_cons, List.flatten_cons, List.length_append] at ih ⊢
      simp only [ih]
      simp
      rw [Nat.succ_mul]; omega
  rw [List.length_append, this, List.length_replicate, Nat.succ_mul]; omega

theorem d_SentenceLimits (n : Int) (hn : 0 ≤ n ∧ n ≤ 255) (k : Int) (hk : 0 ≤ k ∧ k ≤ 255) : denC E 7 [AV.int .u8 n, AV.int .u8 k] [] = some ([RV.p (PV.bool true)], []) := by
  obtain ⟨c, ec, hc1, hc2⟩ := cnt n 20 hn (by omega)
  obtain ⟨m, em, hm1, hm2⟩ := cnt k 24 hk (by omega)
  have hlp := l_Lim c m (by omega) (by omega) c 0 (by omega)
  simp only [List.replicate_zero, Int.natCast_zero] at hlp
  have hv := valid_rep c m hc1 hm1
  have hj := join_rep c m hc1
  have hlen : (List.replicate c (List.replicate m (120 : UInt8))).length ≤ 100000 := by rw [List.length_replicate]; omega
  have hmul : c * (m + 1) ≤ 20 * 25 := Nat.mul_le_mul (by omega) (by omega)
  rw [denC_eq, r7, ec, em, show (Blk.arr 1 []) = Blk.arr 1 (strsK []) from rfl, hlp]
  simp only [bnd_some, ctl_true, ctl_false, ctl_and, ctl_or', ctl_or2, x_toPV, x_toCs, x_toCs2, x_toEs, x_bEs, x_bCs, x_aPV, x_aCs, x_int, x_bool, x_str, x_es, x_esn, nth_0, nth_1, nth_2, nth_3, nth_4, nth_5, nth_6, nth_7, nth_8, nth_9, y_nil, y_int, y_bool, y_str, y_sl, y_nils, y_agg, y_ownp, y_own, z_nil, z_int, z_bool, z_str, z_sl, z_nils, b_nil, b_arr, b_box1, b_box2, b_box3, b_box4, List.map_cons, List.map_nil, Bool.and_self, Bool.and_true, Bool.true_and, Bool.not_true, Bool.not_false, Bool.or_false, Bool.false_or, cond_true, cond_false, okPack, okPut, okPutBlks, okPutCells, q_isP, q_isAg, q_isBox, q_isArr, q_int, q_bool, q_str, q_sl, q_nils, e_exit, e_ret, e_nrm, e_ret_exit, e_exit_ret, e_nrm_exit, e_nrm_ret, e_exit_nrm, e_ret_nrm, Nat.zero_add, Nat.reduceAdd, noslR, noslP, noslB, noslA, List.all_cons, List.all_nil]
  rw [c_Format _ hlen, c_Valid _ hlen, hv]
  simp only [bnd_some, ctl_true, ctl_false, ctl_and, ctl_or', ctl_or2, x_toPV, x_toCs, x_toCs2, x_toEs, x_bEs, x_bCs, x_aPV, x_aCs, x_int, x_bool, x_str, x_es, x_esn, nth_0, nth_1, nth_2, nth_3, nth_4, nth_5, nth_6, nth_7, nth_8, nth_9, y_nil, y_int, y_bool, y_str, y_sl, y_nils, y_agg, y_ownp, y_own, z_nil, z_int, z_bool, z_str, z_sl, z_nils, b_nil, b_arr, b_box1, b_box2, b_box3, b_box4, List.map_cons, List.map_nil, Bool.and_self, Bool.and_true, Bool.true_and, Bool.not_true, Bool.not_false, Bool.or_false, Bool.false_or, cond_true, cond_false, okPack, okPut, okPutBlks, okPutCells, q_isP, q_isAg, q_isBox, q_isArr, q_int, q_bool, q_str, q_sl, q_nils, e_exit, e_ret, e_nrm, e_ret_exit, e_exit_ret, e_nrm_exit, e_nrm_ret, e_exit_nrm, e_ret_nrm, Nat.zero_add, Nat.reduceAdd, noslR, noslP, noslB, noslA, List.all_cons, List.all_nil]
  rw [c_sane]
  simp only [bnd_some, ctl_true, ctl_false, ctl_and, ctl_or', ctl_or2, x_toPV, x_toCs, x_toCs2, x_toEs, x_bEs, x_bCs, x_aPV, x_aCs, x_int, x_bool, x_str, x_es, x_esn, nth_0, nth_1, nth_2, nth_3, nth_4, nth_5, nth_6, nth_7, nth_8, nth_9, y_nil, y_int, y_bool, y_str, y_sl, y_nils, y_agg, y_ownp, y_own, z_nil, z_int, z_bool, z_str, z_sl, z_nils, b_nil, b_arr, b_box1, b_box2, b_box3, b_box4, List.map_cons, List.map_nil, Bool.and_self, Bool.and_true, Bool.true_and, Bool.not_true, Bool.not_false, Bool.or_false, Bool.false_or, cond_true, cond_false, okPack, okPut, okPutBlks, okPutCells, q_isP, q_isAg, q_isBox, q_isArr, q_int, q_bool, q_str, q_sl, q_nils, e_exit, e_ret, e_nrm, e_ret_exit, e_exit_ret, e_nrm_exit, e_nrm_ret, e_exit_nrm, e_ret_nrm, Nat.zero_add, Nat.reduceAdd, noslR, noslP, noslB, noslA, List.all_cons, List.all_nil]
  have hcast : ((c : Int) * ((m : Int) + 1)) = ((c * (m + 1) : Nat) : Int) := by simp
  have e1 : IntKind.i64.wrap (IntKind.i64.wrap ((c : Int) * IntKind.i64.wrap ((m : Int) + 1)) + 5) = ((c * (m + 1) + 5 : Nat) : Int) := by
    rw [w64 (n := (m : Int) + 1) (by omega), hcast, w64 (n := ((c * (m + 1) : Nat) : Int)) (by omega), w64 (by omega)]; omega
  rw [e1]
  have hl : (txt (Lib.join (List.replicate c (List.replicate m (120 : UInt8))) [44])).length = c * (m + 1) + 5 := by rw [txt_length]; omega
  unfold frm
  rw [hv, hl]
  by_cases h1 : c ≤ 16
  · by_cases h2 : m ≤ 20
    · have a1 : leB (c : Int) 16 = true := decide_eq_true (by omega)
      have a2 : leB (m : Int) 20 = true := decide_eq_true (by omega)
      have b1 : decide (c ≤ 16) = true := decide_eq_true h1
      have b2 : decide (m ≤ 20) = true := decide_eq_true h2
      rw [a1, a2, b1, b2]
      by_cases h3 : 200 < c * (m + 1) + 5
      · have a3 : ltB 200 ((c * (m + 1) + 5 : Nat) : Int) = true := decide_eq_true (by omega)
        rw [a3]
        simp only [Bool.and_self, if_true, if_pos h3, beq_self_eq_true, bnd_some, ctl_true, ctl_false, ctl_and, ctl_or', ctl_or2, x_toPV, x_toCs, x_toCs2, x_toEs, x_bEs, x_bCs, x_aPV, x_aCs, x_int, x_bool, x_str, x_es, x_esn, nth_0, nth_1, nth_2, nth_3, nth_4, nth_5, nth_6, nth_7, nth_8, nth_9, y_nil, y_int, y_bool, y_str, y_sl, y_nils, y_agg, y_ownp, y_own, z_nil, z_int, z_bool, z_str, z_sl, z_nils, b_nil, b_arr, b_box1, b_box2, b_box3, b_box4, List.map_cons, List.map_nil, Bool.and_self, Bool.and_true, Bool.true_and, Bool.not_true, Bool.not_false, Bool.or_false, Bool.false_or, cond_true, cond_false, okPack, okPut, okPutBlks, okPutCells, q_isP, q_isAg, q_isBox, q_isArr, q_int, q_bool, q_str, q_sl, q_nils, e_exit, e_ret, e_nrm, e_ret_exit, e_exit_ret, e_nrm_exit, e_nrm_ret, e_exit_nrm, e_ret_nrm, Nat.zero_add, Nat.reduceAdd, noslR, noslP, noslB, noslA, List.all_cons, List.all_nil]
      · have a3 : ltB 200 ((c * (m + 1) + 5 : Nat) : Int) = false := decide_eq_false (by omega)
        rw [a3]
        simp only [Bool.and_self, if_true, if_neg h3, beq_self_eq_true, bnd_some, ctl_true, ctl_false, ctl_and, ctl_or', ctl_or2, x_toPV, x_toCs, x_toCs2, x_toEs, x_bEs, x_bCs, x_aPV, x_aCs, x_int, x_bool, x_str, x_es, x_esn, nth_0, nth_1, nth_2, nth_3, nth_4, nth_5, nth_6, nth_7, nth_8, nth_9, y_nil, y_int, y_bool, y_str, y_sl, y_nils, y_agg, y_ownp, y_own, z_nil, z_int, z_bool, z_str, z_sl, z_nils, b_nil, b_arr, b_box1, b_box2, b_box3, b_box4, List.map_cons, List.map_nil, Bool.and_self, Bool.and_true, Bool.true_and, Bool.not_true, Bool.not_false, Bool.or_false, Bool.false_or, cond_true, cond_false, okPack, okPut, okPutBlks, okPutCells, q_isP, q_isAg, q_isBox, q_isArr, q_int, q_bool, q_str, q_sl, q_nils, e_exit, e_ret, e_nrm, e_ret_exit, e_exit_ret, e_nrm_exit, e_nrm_ret, e_exit_nrm, e_ret_nrm, Nat.zero_add, Nat.reduceAdd, noslR, noslP, noslB, noslA, List.all_cons, List.all_nil]
    · have a1 : leB (c : Int) 16 = true := decide_eq_true (by omega)
      have a2 : leB (m : Int) 20 = false := decide_eq_false (by omega)
      have b1 : decide (c ≤ 16) = true := decide_eq_true h1
      have b2 : decide (m ≤ 20) = false := decide_eq_false h2
      rw [a1, a2, b1, b2]
      simp only [Bool.and_false, Bool.false_eq_true, if_false, beq_self_eq_true, bnd_some, ctl_true, ctl_false, ctl_and, ctl_or', ctl_or2, x_toPV, x_toCs, x_toCs2, x_toEs, x_bEs, x_bCs, x_aPV, x_aCs, x_int, x_bool, x_str, x_es, x_esn, nth_0, nth_1, nth_2, nth_3, nth_4, nth_5, nth_6, nth_7, nth_8, nth_9, y_nil, y_int, y_bool, y_str, y_sl, y_nils, y_agg, y_ownp, y_own, z_nil, z_int, z_bool, z_str, z_sl, z_nils, b_nil, b_arr, b_box1, b_box2, b_box3, b_box4, List.map_cons, List.map_nil, Bool.and_self, Bool.and_true, Bool.true_and, Bool.not_true, Bool.not_false, Bool.or_false, Bool.false_or, cond_true, cond_false, okPack, okPut, okPutBlks, okPutCells, q_isP, q_isAg, q_isBox, q_isArr, q_int, q_bool, q_str, q_sl, q_nils, e_exit, e_ret, e_nrm, e_ret_exit, e_exit_ret, e_nrm_exit, e_nrm_ret, e_exit_nrm, e_ret_nrm, Nat.zero_add, Nat.reduceAdd, noslR, noslP, noslB, noslA, List.all_cons, List.all_nil]
  · have a1 : leB (c : Int) 16 = false := decide_eq_false (by omega)
    have b1 : decide (c ≤ 16) = false := decide_eq_false h1
    rw [a1, b1]
    simp only [Bool.false_and, Bool.false_eq_true, if_false, beq_self_eq_true, bnd_some, ctl_true, ctl_false, ctl_and, ctl_or', ctl_or2, x_toPV, x_toCs, x_toCs2, x_toEs, x_bEs, x_bCs, x_aPV, x_aCs, x_int, x_bool, x_str, x_es, x_esn, nth_0, nth_1, nth_2, nth_3, nth_4, nth_5, nth_6, nth_7, nth_8, nth_9, y_nil, y_int, y_bool, y_str, y_sl, y_nils, y_agg, y_ownp, y_own, z_nil, z_int, z_bool, z_str, z_sl, z_nils, b_nil, b_arr, b_box1, b_box2, b_box3, b_box4, List.map_cons, List.map_nil, Bool.and_self, Bool.and_true, Bool.true_and, Bool.not_true, Bool.not_false, Bool.or_false, Bool.false_or, cond_true, cond_false, okPack, okPut, okPutBlks, okPutCells, q_isP, q_isAg, q_isBox, q_isArr, q_int, q_bool, q_str, q_sl, q_nils, e_exit, e_ret, e_nrm, e_ret_exit, e_exit_ret, e_nrm_exit, e_nrm_ret, e_exit_nrm, e_ret_nrm, Nat.zero_add, Nat.reduceAdd, noslR, noslP, noslB, noslA, List.all_cons, List.all_nil]

end Go.Proofs.YtclnapbghehlaaaDoor.Vm
