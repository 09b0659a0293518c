/- The law StreamFinds. -/
import Derived.Test.YtmlhemkadoadaaaDoorStrmD
import Derived.Test.YtmlhemkadoadaaaDoorRawFinds
namespace Go.Proofs.YtmlhemkadoadaaaDoor.Vm
set_option linter.unusedVariables false
set_option linter.unusedSimpArgs false

def garb : List Int := [65, 42, 10, 13, 0, 44]
theorem garb_b : ∀ x ∈ garb, ∃ b : UInt8, IntKind.u8.wrap x = (b.toNat : Int) ∧ b ≠ 36 := by
  intro x hx
  refine ⟨x.toNat.toUInt8, ?_⟩
  revert x
  decide +kernel

theorem garb_e : ([[PV.int IntKind.i64 65], [PV.int IntKind.i64 42], [PV.int IntKind.i64 10], [PV.int IntKind.i64 13], [PV.int IntKind.i64 0], [PV.int IntKind.i64 44]] : List (List PV)) = intsK .i64 garb := rfl

/-- Bytes of garbage. -/
theorem l_garb {L : List Int} (hL : L.length ≤ 600) (q : Int) (W : List (List PV)) : ∀ (n k : Nat) (g : Int) (done : List UInt8), k ≤ 600 → n ≤ 100 → 0 ≤ g ∧ g + n ≤ 100000 → done.length + n ≤ 100000 →
    ∃ (s : List UInt8) (k' : Nat), s.length = n ∧ (∀ b ∈ s, b ≠ 36) ∧ k' ≤ 600 ∧ lp E (denC E) 7 0 [] 2 { vals := [AV.int .i64 g, AV.int .i64 q, AV.int .i64 n], blks := [src L k, Blk.arr 1 (byteEs done), Blk.arr 1 W] } =
      some (Ex.exit 2, { vals := [AV.int .i64 (g + n), AV.int .i64 q], blks := [src L k', Blk.arr 1 (byteEs (done ++ s)), Blk.arr 1 W] })
  | 0, k, g, done, hk, _, _, _ => by
    refine ⟨[], k, rfl, (fun b hb => by cases hb), hk, ?_⟩
    rw [r7_2, ctl_dec, if_neg (by simp)]
    simp
  | n + 1, k, g, done, hk, hn, hg, hd => by
    have hm := vPick_mem L k (l := garb) (by decide)
    obtain ⟨b, hb1, hb2⟩ := garb_b _ hm
    obtain ⟨s, k', s1, s2, s3, s4⟩ := l_garb hL q W n (at' L k) (g + 1) (done ++ [b]) (at'_le hL hk) (by omega) (by omega) (by simp; omega)
    refine ⟨b :: s, k', by simp [s1], fun x hx => ?_, s3, ?_⟩
    · rcases List.mem_cons.1 hx with rfl | hx
      · exact hb2
      · exact s2 x hx
    · rw [r7_2, ctl_dec, if_pos (by omega), garb_e, c_Pick hL hk (by decide)]
      simp only [bnd_some, ctl_true, ctl_false, ctl_and, ctl_or', ctl_or2, x_toPV, x_toCs, x_toCs2, x_toEs, x_bEs, x_bCs, x_aPV, x_aCs, x_int, x_bool, x_str, x_es, x_esn, nth_0, nth_1, nth_2, nth_3, nth_4, nth_5, nth_6, nth_7, nth_8, nth_9, y_nil, y_int, y_bool, y_str, y_sl, y_nils, y_agg, y_ownp, y_own, z_nil, z_int, z_bool, z_str, z_sl, z_nils, b_nil, b_arr, b_box1, b_box2, b_box3, b_box4, List.map_cons, List.map_nil, Bool.and_self, Bool.and_true, Bool.true_and, Bool.not_true, Bool.not_false, Bool.or_false, Bool.false_or, cond_true, cond_false, okPack, okPut, okPutBlks, okPutCells, q_isP, q_isAg, q_isBox, q_isArr, q_int, q_bool, q_str, q_sl, q_nils, e_exit, e_ret, e_nrm, e_ret_exit, e_exit_ret, e_nrm_exit, e_nrm_ret, e_exit_nrm, e_ret_nrm, Nat.zero_add, Nat.reduceAdd, noslR, noslP, noslB, noslA, List.all_cons, List.all_nil]
      rw [hb1, byteEs_length, show leN ((done.length + 1) * 1) 140737488355328 = true from decide_eq_true (by omega), ctl_true, byteEs_snoc, w64 (by omega), w64 (by omega)]
      rw [show ((n + 1 : Nat) : Int) - 1 = (n : Int) by omega, s4]
      rw [show g + 1 + (n : Int) = g + ((n + 1 : Nat) : Int) by omega, List.append_assoc]
      rfl

theorem l_finds {L : List Int} (hL : L.length ≤ 600) : ∀ (n k : Nat) (g : Int) (B : List UInt8) (W : List (List (List UInt8))), k ≤ 600 → n ≤ 10 → 0 ≤ g ∧ g + 10 * n ≤ 1000 → B.length + 40 * n ≤ 10000 → W.length + n ≤ 100 → (∀ x ∈ W, x.length ≤ 100000) → run ⟨[], 0, [], 0⟩ B = ⟨[], 0, W, g⟩ →
    ∃ (B' : List UInt8) (W' : List (List (List UInt8))) (g' : Int), B'.length ≤ 10000 ∧ W'.length ≤ 100 ∧ (∀ x ∈ W', x.length ≤ 100000) ∧ run ⟨[], 0, [], 0⟩ B' = ⟨[], 0, W', g'⟩ ∧
      lp E (denC E) 7 0 [] 0 { vals := [AV.int .i64 g, AV.int .i64 n], blks := [src L k, Blk.arr 1 (byteEs B), Blk.arr 1 (fldK W)] } = some (Ex.exit 0, { vals := [AV.int .i64 g'], blks := [Blk.arr 1 (byteEs B'), Blk.arr 1 (fldK W')] })
  | 0, k, g, B, W, hk, _, hg, hB, hW, hx, hr => by
    refine ⟨B, W, g, by omega, by omega, hx, hr, ?_⟩
    rw [r7_0, ctl_dec, if_neg (by simp)]
  | n + 1, k, g, B, W, hk, hn, hg, hB, hW, hx, hr => by
    have hb := vN_bounds (L := L) (k := k) (n := 5) (by omega)
    obtain ⟨m, hm⟩ : ∃ m : Nat, vN L k 5 = m := ⟨(vN L k 5).toNat, by omega⟩
    obtain ⟨s, k1, s1, s2, s3, s4⟩ := l_garb hL ((n + 1 : Nat) : Int) (fldK W) m (at' L k) g B (at'_le hL hk) (by omega) (by omega) (by omega)
    obtain ⟨f1, f2, f3⟩ := c_form (k := k1) hL s3
    have q1 := atFields_le hL s3
    have hrun : run ⟨[], 0, [], 0⟩ (B ++ s ++ txt (Lib.join (vFields L k1) [44])) = ⟨[], 0, W ++ [vFields L k1], g + m⟩ := by
      rw [run_app, run_app, hr, run_garb _ _ rfl s2, run_txt f1 (by omega), s1]
      simp
    obtain ⟨B', W', g', e1, e2, e3, e4, e5⟩ := l_finds hL n (atFields L k1) (g + m) (B ++ s ++ txt (Lib.join (vFields L k1) [44])) (W ++ [vFields L k1]) q1 (by omega) (by omega) (by simp only [List.length_append, s1]; omega) (by simp; omega)
      (fun x hxx => by
        rcases List.mem_append.1 hxx with h | h
        · exact hx x h
        · simp only [List.mem_singleton] at h; subst h; have := (tot_valid f1).1; omega) hrun
    refine ⟨B', W', g', e1, e2, e3, e4, ?_⟩
    rw [r7_0, ctl_dec, if_pos (by omega), c_N hL hk 5 (by omega)]
    simp only [bnd_some, ctl_true, ctl_false, ctl_and, ctl_or', ctl_or2, x_toPV, x_toCs, x_toCs2, x_toEs, x_bEs, x_bCs, x_aPV, x_aCs, x_int, x_bool, x_str, x_es, x_esn, nth_0, nth_1, nth_2, nth_3, nth_4, nth_5, nth_6, nth_7, nth_8, nth_9, y_nil, y_int, y_bool, y_str, y_sl, y_nils, y_agg, y_ownp, y_own, z_nil, z_int, z_bool, z_str, z_sl, z_nils, b_nil, b_arr, b_box1, b_box2, b_box3, b_box4, List.map_cons, List.map_nil, Bool.and_self, Bool.and_true, Bool.true_and, Bool.not_true, Bool.not_false, Bool.or_false, Bool.false_or, cond_true, cond_false, okPack, okPut, okPutBlks, okPutCells, q_isP, q_isAg, q_isBox, q_isArr, q_int, q_bool, q_str, q_sl, q_nils, e_exit, e_ret, e_nrm, e_ret_exit, e_exit_ret, e_nrm_exit, e_nrm_ret, e_exit_nrm, e_ret_nrm, Nat.zero_add, Nat.reduceAdd, noslR, noslP, noslB, noslA, List.all_cons, List.all_nil]
    rw [hm, s4]
    simp only [bnd_some, ctl_true, ctl_false, ctl_and, ctl_or', ctl_or2, x_toPV, x_toCs, x_toCs2, x_toEs, x_bEs, x_bCs, x_aPV, x_aCs, x_int, x_bool, x_str, x_es, x_esn, nth_0, nth_1, nth_2, nth_3, nth_4, nth_5, nth_6, nth_7, nth_8, nth_9, y_nil, y_int, y_bool, y_str, y_sl, y_nils, y_agg, y_ownp, y_own, z_nil, z_int, z_bool, z_str, z_sl, z_nils, b_nil, b_arr, b_box1, b_box2, b_box3, b_box4, List.map_cons, List.map_nil, Bool.and_self, Bool.and_true, Bool.true_and, Bool.not_true, Bool.not_false, Bool.or_false, Bool.false_or, cond_true, cond_false, okPack, okPut, okPutBlks, okPutCells, q_isP, q_isAg, q_isBox, q_isArr, q_int, q_bool, q_str, q_sl, q_nils, e_exit, e_ret, e_nrm, e_ret_exit, e_exit_ret, e_nrm_exit, e_nrm_ret, e_exit_nrm, e_ret_nrm, Nat.zero_add, Nat.reduceAdd, noslR, noslP, noslB, noslA, List.all_cons, List.all_nil]
    rw [c_SFields hL s3]
    simp only [bnd_some, ctl_true, ctl_false, ctl_and, ctl_or', ctl_or2, x_toPV, x_toCs, x_toCs2, x_toEs, x_bEs, x_bCs, x_aPV, x_aCs, x_int, x_bool, x_str, x_es, x_esn, nth_0, nth_1, nth_2, nth_3, nth_4, nth_5, nth_6, nth_7, nth_8, nth_9, y_nil, y_int, y_bool, y_str, y_sl, y_nils, y_agg, y_ownp, y_own, z_nil, z_int, z_bool, z_str, z_sl, z_nils, b_nil, b_arr, b_box1, b_box2, b_box3, b_box4, List.map_cons, List.map_nil, Bool.and_self, Bool.and_true, Bool.true_and, Bool.not_true, Bool.not_false, Bool.or_false, Bool.false_or, cond_true, cond_false, okPack, okPut, okPutBlks, okPutCells, q_isP, q_isAg, q_isBox, q_isArr, q_int, q_bool, q_str, q_sl, q_nils, e_exit, e_ret, e_nrm, e_ret_exit, e_exit_ret, e_nrm_exit, e_nrm_ret, e_exit_nrm, e_ret_nrm, Nat.zero_add, Nat.reduceAdd, noslR, noslP, noslB, noslA, List.all_cons, List.all_nil]
    rw [f3]
    simp only [bnd_some, ctl_true, ctl_false, ctl_and, ctl_or', ctl_or2, x_toPV, x_toCs, x_toCs2, x_toEs, x_bEs, x_bCs, x_aPV, x_aCs, x_int, x_bool, x_str, x_es, x_esn, nth_0, nth_1, nth_2, nth_3, nth_4, nth_5, nth_6, nth_7, nth_8, nth_9, y_nil, y_int, y_bool, y_str, y_sl, y_nils, y_agg, y_ownp, y_own, z_nil, z_int, z_bool, z_str, z_sl, z_nils, b_nil, b_arr, b_box1, b_box2, b_box3, b_box4, List.map_cons, List.map_nil, Bool.and_self, Bool.and_true, Bool.true_and, Bool.not_true, Bool.not_false, Bool.or_false, Bool.false_or, cond_true, cond_false, okPack, okPut, okPutBlks, okPutCells, q_isP, q_isAg, q_isBox, q_isArr, q_int, q_bool, q_str, q_sl, q_nils, e_exit, e_ret, e_nrm, e_ret_exit, e_exit_ret, e_nrm_exit, e_nrm_ret, e_exit_nrm, e_ret_nrm, Nat.zero_add, Nat.reduceAdd, noslR, noslP, noslB, noslA, List.all_cons, List.all_nil]
    rw [byteEs_length, byteEs_length, fldK_length, show leN (((B ++ s).length + (txt (Lib.join (vFields L k1) [44])).length) * 1) 140737488355328 = true from decide_eq_true (by simp only [List.length_append, s1]; omega),
      show leN ((W.length + 1) * 24) 140737488355328 = true from decide_eq_true (by omega)]
    simp only [bnd_some, ctl_true, ctl_false, ctl_and, ctl_or', ctl_or2, x_toPV, x_toCs, x_toCs2, x_toEs, x_bEs, x_bCs, x_aPV, x_aCs, x_int, x_bool, x_str, x_es, x_esn, nth_0, nth_1, nth_2, nth_3, nth_4, nth_5, nth_6, nth_7, nth_8, nth_9, y_nil, y_int, y_bool, y_str, y_sl, y_nils, y_agg, y_ownp, y_own, z_nil, z_int, z_bool, z_str, z_sl, z_nils, b_nil, b_arr, b_box1, b_box2, b_box3, b_box4, List.map_cons, List.map_nil, Bool.and_self, Bool.and_true, Bool.true_and, Bool.not_true, Bool.not_false, Bool.or_false, Bool.false_or, cond_true, cond_false, okPack, okPut, okPutBlks, okPutCells, q_isP, q_isAg, q_isBox, q_isArr, q_int, q_bool, q_str, q_sl, q_nils, e_exit, e_ret, e_nrm, e_ret_exit, e_exit_ret, e_nrm_exit, e_nrm_ret, e_exit_nrm, e_ret_nrm, Nat.zero_add, Nat.reduceAdd, noslR, noslP, noslB, noslA, List.all_cons, List.all_nil]
    rw [← byteEs_app, fldK_snoc, w64 (by omega), show ((n + 1 : Nat) : Int) - 1 = (n : Int) by omega]
    exact e5

theorem d_StreamFinds (t : List Int) (_ : t.length ≤ maxLen) (_ : ∀ n ∈ t, -9223372036854775808 ≤ n ∧ n ≤ 9223372036854775807) :
    denC E 7 [AV.sl 1 (intsK .i64 t)] [] = some ([RV.p (PV.bool true)], []) := by
  rw [denC_eq, r7, c_New]
  simp only [bnd_some, ctl_true, ctl_false, ctl_and, ctl_or', ctl_or2, x_toPV, x_toCs, x_toCs2, x_toEs, x_bEs, x_bCs, x_aPV, x_aCs, x_int, x_bool, x_str, x_es, x_esn, nth_0, nth_1, nth_2, nth_3, nth_4, nth_5, nth_6, nth_7, nth_8, nth_9, y_nil, y_int, y_bool, y_str, y_sl, y_nils, y_agg, y_ownp, y_own, z_nil, z_int, z_bool, z_str, z_sl, z_nils, b_nil, b_arr, b_box1, b_box2, b_box3, b_box4, List.map_cons, List.map_nil, Bool.and_self, Bool.and_true, Bool.true_and, Bool.not_true, Bool.not_false, Bool.or_false, Bool.false_or, cond_true, cond_false, okPack, okPut, okPutBlks, okPutCells, q_isP, q_isAg, q_isBox, q_isArr, q_int, q_bool, q_str, q_sl, q_nils, e_exit, e_ret, e_nrm, e_ret_exit, e_exit_ret, e_nrm_exit, e_nrm_ret, e_exit_nrm, e_ret_nrm, Nat.zero_add, Nat.reduceAdd, noslR, noslP, noslB, noslA, List.all_cons, List.all_nil]
  rw [src_zero, c_N Lle5 (by omega) 8 (by omega)]
  simp only [bnd_some, ctl_true, ctl_false, ctl_and, ctl_or', ctl_or2, x_toPV, x_toCs, x_toCs2, x_toEs, x_bEs, x_bCs, x_aPV, x_aCs, x_int, x_bool, x_str, x_es, x_esn, nth_0, nth_1, nth_2, nth_3, nth_4, nth_5, nth_6, nth_7, nth_8, nth_9, y_nil, y_int, y_bool, y_str, y_sl, y_nils, y_agg, y_ownp, y_own, z_nil, z_int, z_bool, z_str, z_sl, z_nils, b_nil, b_arr, b_box1, b_box2, b_box3, b_box4, List.map_cons, List.map_nil, Bool.and_self, Bool.and_true, Bool.true_and, Bool.not_true, Bool.not_false, Bool.or_false, Bool.false_or, cond_true, cond_false, okPack, okPut, okPutBlks, okPutCells, q_isP, q_isAg, q_isBox, q_isArr, q_int, q_bool, q_str, q_sl, q_nils, e_exit, e_ret, e_nrm, e_ret_exit, e_exit_ret, e_nrm_exit, e_nrm_ret, e_exit_nrm, e_ret_nrm, Nat.zero_add, Nat.reduceAdd, noslR, noslP, noslB, noslA, List.all_cons, List.all_nil]
  have hb := vN_bounds (L := t.take 600) (k := 0) (n := 8) (by omega)
  obtain ⟨m, hm⟩ : ∃ m : Nat, vN (t.take 600) 0 8 = m := ⟨(vN (t.take 600) 0 8).toNat, by omega⟩
  obtain ⟨B', W', g', e1, e2, e3, e4, e5⟩ := l_finds (Lle5 (t := t)) m (at' (t.take 600) 0) 0 [] [] (at'_le Lle5 (by omega)) (by omega) (by omega) (by simp; omega) (by simp; omega) (fun x hx => by cases hx) rfl
  rw [show fldK [] = [] from rfl, show byteEs [] = [] from rfl] at e5
  rw [hm, e5]
  simp only [bnd_some, ctl_true, ctl_false, ctl_and, ctl_or', ctl_or2, x_toPV, x_toCs, x_toCs2, x_toEs, x_bEs, x_bCs, x_aPV, x_aCs, x_int, x_bool, x_str, x_es, x_esn, nth_0, nth_1, nth_2, nth_3, nth_4, nth_5, nth_6, nth_7, nth_8, nth_9, y_nil, y_int, y_bool, y_str, y_sl, y_nils, y_agg, y_ownp, y_own, z_nil, z_int, z_bool, z_str, z_sl, z_nils, b_nil, b_arr, b_box1, b_box2, b_box3, b_box4, List.map_cons, List.map_nil, Bool.and_self, Bool.and_true, Bool.true_and, Bool.not_true, Bool.not_false, Bool.or_false, Bool.false_or, cond_true, cond_false, okPack, okPut, okPutBlks, okPutCells, q_isP, q_isAg, q_isBox, q_isArr, q_int, q_bool, q_str, q_sl, q_nils, e_exit, e_ret, e_nrm, e_ret_exit, e_exit_ret, e_nrm_exit, e_nrm_ret, e_exit_nrm, e_ret_nrm, Nat.zero_add, Nat.reduceAdd, noslR, noslP, noslB, noslA, List.all_cons, List.all_nil]
  rw [c_SAll _ (by omega), e4]
  simp only [bnd_some, ctl_true, ctl_false, ctl_and, ctl_or', ctl_or2, x_toPV, x_toCs, x_toCs2, x_toEs, x_bEs, x_bCs, x_aPV, x_aCs, x_int, x_bool, x_str, x_es, x_esn, nth_0, nth_1, nth_2, nth_3, nth_4, nth_5, nth_6, nth_7, nth_8, nth_9, y_nil, y_int, y_bool, y_str, y_sl, y_nils, y_agg, y_ownp, y_own, z_nil, z_int, z_bool, z_str, z_sl, z_nils, b_nil, b_arr, b_box1, b_box2, b_box3, b_box4, List.map_cons, List.map_nil, Bool.and_self, Bool.and_true, Bool.true_and, Bool.not_true, Bool.not_false, Bool.or_false, Bool.false_or, cond_true, cond_false, okPack, okPut, okPutBlks, okPutCells, q_isP, q_isAg, q_isBox, q_isArr, q_int, q_bool, q_str, q_sl, q_nils, e_exit, e_ret, e_nrm, e_ret_exit, e_exit_ret, e_nrm_exit, e_nrm_ret, e_exit_nrm, e_ret_nrm, Nat.zero_add, Nat.reduceAdd, noslR, noslP, noslB, noslA, List.all_cons, List.all_nil]
  rw [c_SSame _ _ (by omega) e3]
  simp only [beq_self_eq_true, bnd_some, ctl_true, ctl_false, ctl_and, ctl_or', ctl_or2, x_toPV, x_toCs, x_toCs2, x_toEs, x_bEs, x_bCs, x_aPV, x_aCs, x_int, x_bool, x_str, x_es, x_esn, nth_0, nth_1, nth_2, nth_3, nth_4, nth_5, nth_6, nth_7, nth_8, nth_9, y_nil, y_int, y_bool, y_str, y_sl, y_nils, y_agg, y_ownp, y_own, z_nil, z_int, z_bool, z_str, z_sl, z_nils, b_nil, b_arr, b_box1, b_box2, b_box3, b_box4, List.map_cons, List.map_nil, Bool.and_self, Bool.and_true, Bool.true_and, Bool.not_true, Bool.not_false, Bool.or_false, Bool.false_or, cond_true, cond_false, okPack, okPut, okPutBlks, okPutCells, q_isP, q_isAg, q_isBox, q_isArr, q_int, q_bool, q_str, q_sl, q_nils, e_exit, e_ret, e_nrm, e_ret_exit, e_exit_ret, e_nrm_exit, e_nrm_ret, e_exit_nrm, e_ret_nrm, Nat.zero_add, Nat.reduceAdd, noslR, noslP, noslB, noslA, List.all_cons, List.all_nil]
  rw [c_sane05]
  simp only [bnd_some, ctl_true, ctl_false, ctl_and, ctl_or', ctl_or2, x_toPV, x_toCs, x_toCs2, x_toEs, x_bEs, x_bCs, x_aPV, x_aCs, x_int, x_bool, x_str, x_es, x_esn, nth_0, nth_1, nth_2, nth_3, nth_4, nth_5, nth_6, nth_7, nth_8, nth_9, y_nil, y_int, y_bool, y_str, y_sl, y_nils, y_agg, y_ownp, y_own, z_nil, z_int, z_bool, z_str, z_sl, z_nils, b_nil, b_arr, b_box1, b_box2, b_box3, b_box4, List.map_cons, List.map_nil, Bool.and_self, Bool.and_true, Bool.true_and, Bool.not_true, Bool.not_false, Bool.or_false, Bool.false_or, cond_true, cond_false, okPack, okPut, okPutBlks, okPutCells, q_isP, q_isAg, q_isBox, q_isArr, q_int, q_bool, q_str, q_sl, q_nils, e_exit, e_ret, e_nrm, e_ret_exit, e_exit_ret, e_nrm_exit, e_nrm_ret, e_exit_nrm, e_ret_nrm, Nat.zero_add, Nat.reduceAdd, noslR, noslP, noslB, noslA, List.all_cons, List.all_nil]

end Go.Proofs.YtmlhemkadoadaaaDoor.Vm
