/- The law SharePrice comes to true. -/
import Derived.Test.YtbacfgghneknjaaShareP
import Derived.Test.YtbacfgghneknjaaRawX
namespace Go.Proofs.Ytbacfgghneknjaa.Vm
set_option linter.unusedVariables false
set_option linter.unusedSimpArgs false

abbrev sm4 : Shr := ⟨-9, 20, 4⟩

theorem same_loop {L : List Int} (hL : L.length ≤ 600) (total : Int) : ∀ (m i k : Nat) (acc : List (List PV)), i + m ≤ 100 → k ≤ 600 → acc.length = i →
    lp E (denC E) 6 0 [] 0 { vals := [AV.int .i64 total, AV.int .i64 ((i + m : Nat) : Int), AV.int .i64 (i : Int)], blks := [src L k, Blk.arr 3 acc] } =
      some (Ex.exit 0, { vals := [AV.int .i64 total, AV.int .i64 ((i + m : Nat) : Int)], blks := [Blk.arr 3 (acc ++ shK (List.replicate m sm4))] })
  | 0, i, k, acc, h, hk, ha => by
    rw [r6_0, ctl_dec, if_neg (by omega)]
    simp [shK]
  | m + 1, i, k, acc, h, hk, ha => by
    rw [r6_0, ctl_dec, if_pos (by omega)]
    have e1 : denC E 21 [AV.t (.ptr 0 0), AV.sl 1 [[PV.int .i64 4]]] [src L k] = _ := c_Pick hL hk (l := [4]) (by decide)
    have e4 : vPick L k [4] = 4 := by
      have := vPick_mem L k (l := [4]) (by decide)
      simpa using this
    rw [e4] at e1
    rw [e1]
    simp only [bnd_some, ctl_true, ctl_false, ctl_and, ctl_or', ctl_or2, x_toPV, x_toCs, x_toCs2, x_toEs, x_bEs, x_bCs, x_aPV, x_aCs, x_int, x_bool, x_str, x_es, x_esn, nth_0, nth_1, nth_2, nth_3, nth_4, nth_5, nth_6, nth_7, nth_8, nth_9, y_nil, y_int, y_bool, y_str, y_sl, y_nils, y_agg, y_ownp, y_own, z_nil, z_int, z_bool, z_str, z_sl, z_nils, b_nil, b_arr, b_box1, b_box2, b_box3, b_box4, List.map_cons, List.map_nil, Bool.and_self, Bool.and_true, Bool.true_and, Bool.not_true, Bool.not_false, Bool.or_false, Bool.false_or, cond_true, cond_false, okPack, okPut, okPutBlks, okPutCells, q_isP, q_isAg, q_isBox, q_isArr, q_int, q_bool, q_str, q_sl, q_nils, e_exit, e_ret, e_nrm, e_ret_exit, e_exit_ret, e_nrm_exit, e_nrm_ret, e_exit_nrm, e_ret_nrm, Nat.zero_add, Nat.reduceAdd, noslR, noslP, noslB, noslA, List.all_cons, List.all_nil]
    have hroom : (leN ((acc.length + 1) * 24) 140737488355328) = true := by simp; omega
    rw [hroom, ctl_true, w64 (n := (i : Int) + 1) (by omega)]
    have ih := same_loop hL total m (i + 1) (at' L k) (acc ++ [shC sm4]) (by omega) (at'_le hL hk) (by simp [ha])
    have e2 : ((i : Int) + 1) = ((i + 1 : Nat) : Int) := by omega
    have e3 : i + 1 + m = i + (m + 1) := by omega
    rw [e3] at ih
    unfold shC at ih
    rw [e2, ih]
    simp [shK, shC, List.replicate_succ]

theorem fill_const {r k : Int} {s : Shr} (h : ¬ (0 < k ∧ nP r s = nP (r - 1) s + 1)) : ∀ n : Nat, fillK r (List.replicate n s) k = List.replicate n (nP (r - 1) s)
  | 0 => rfl
  | n + 1 => by simp only [List.replicate_succ, fillK, if_neg h, fill_const h n]

theorem fill_same {r : Int} {s : Shr} : ∀ (n : Nat) (k : Int), ∃ j m, fillK r (List.replicate n s) k = List.replicate j (nP r s) ++ List.replicate m (nP (r - 1) s) ∧ j + m = n ∧ (j ≠ 0 → nP r s = nP (r - 1) s + 1)
  | 0, _ => ⟨0, 0, rfl, rfl, fun h => absurd rfl h⟩
  | n + 1, k => by
    by_cases h : 0 < k ∧ nP r s = nP (r - 1) s + 1
    · obtain ⟨j, m, e, h1, h2⟩ := fill_same (r := r) (s := s) n (k - 1)
      refine ⟨j + 1, m, ?_, by omega, fun _ => h.2⟩
      simp only [List.replicate_succ, fillK, if_pos h, e, List.cons_append]
    · exact ⟨0, n + 1, by rw [fill_const h]; simp, by omega, fun h => absurd rfl h⟩

theorem same_last {r : Int} {s : Shr} {n : Nat} (k : Int) (hn : 1 ≤ n) : ∀ u ∈ fillK r (List.replicate n s) k, (fillK r (List.replicate n s) k).getD (n - 1) 0 ≤ u ∧ u ≤ (fillK r (List.replicate n s) k).getD (n - 1) 0 + 1 := by
  obtain ⟨j, m, e, h1, h2⟩ := fill_same (r := r) (s := s) n k
  rw [e]
  intro u hu
  simp only [List.mem_append, List.mem_replicate] at hu
  have hw : (List.replicate j (nP r s) ++ List.replicate m (nP (r - 1) s)).getD (n - 1) 0 = if m = 0 then nP r s else nP (r - 1) s := by
    by_cases hm : m = 0
    · subst hm
      rw [if_pos rfl]
      have : n - 1 < j := by omega
      simp [List.getD, this]
    · rw [if_neg hm]
      have h3 : ¬ n - 1 < j := by omega
      have h4 : n - 1 - j < m := by omega
      simp [List.getD, List.getElem?_append, h3, h4]
  rw [hw]
  by_cases hm : m = 0
  · rw [if_pos hm]
    rcases hu with ⟨_, hu⟩ | ⟨h, _⟩
    · omega
    · exact absurd hm h
  · rw [if_neg hm]
    rcases hu with ⟨h, hu⟩ | ⟨_, hu⟩
    · have := h2 h; omega
    · omega

theorem last_loop {m w : Int} {z : List Int} (hz : 1 ≤ z.length ∧ z.length ≤ 100) (hw : z.getD (z.length - 1) 0 = w) : ∀ (l d : List Int), d ++ l = z → (∀ u ∈ l, w ≤ u ∧ u ≤ w + 1) →
    lp E (denC E) 6 0 [] 2 { vals := [AV.int .i64 (z.length : Int), AV.sl 1 (intsK .i64 z), AV.int .i64 m, AV.sl 1 (intsK .i64 z), AV.int .i64 (z.length : Int), AV.int .i64 (d.length : Int)], blks := [] } =
      some (Ex.exit 2, { vals := [AV.sl 1 (intsK .i64 z), AV.int .i64 m], blks := [] })
  | [], d, hd, _ => by
    rw [r6_2, ctl_dec, if_neg (by rw [← hd]; simp)]
  | u :: l, d, hd, hu => by
    have hk := hu u (List.mem_cons_self ..)
    have hlt : d.length < z.length := by rw [← hd]; simp
    rw [r6_2, ctl_dec, if_pos (by omega), w64 (n := (z.length : Int) - 1) (by omega), getE_ints (by omega)]
    have e1 : z.getD ((d.length : Int)).toNat 0 = u := by rw [← hd]; simp [List.getD]
    have e2 : ((z.length : Int) - 1).toNat = z.length - 1 := by omega
    rw [e1]
    simp only [getE_ints (show 0 ≤ (z.length : Int) - 1 ∧ (z.length : Int) - 1 < z.length by omega), e2, hw, bnd_some, ctl_true, ctl_false, ctl_and, ctl_or', ctl_or2, x_toPV, x_toCs, x_toCs2, x_toEs, x_bEs, x_bCs, x_aPV, x_aCs, x_int, x_bool, x_str, x_es, x_esn, nth_0, nth_1, nth_2, nth_3, nth_4, nth_5, nth_6, nth_7, nth_8, nth_9, y_nil, y_int, y_bool, y_str, y_sl, y_nils, y_agg, y_ownp, y_own, z_nil, z_int, z_bool, z_str, z_sl, z_nils, b_nil, b_arr, b_box1, b_box2, b_box3, b_box4, List.map_cons, List.map_nil, Bool.and_self, Bool.and_true, Bool.true_and, Bool.not_true, Bool.not_false, Bool.or_false, Bool.false_or, cond_true, cond_false, okPack, okPut, okPutBlks, okPutCells, q_isP, q_isAg, q_isBox, q_isArr, q_int, q_bool, q_str, q_sl, q_nils, e_exit, e_ret, e_nrm, e_ret_exit, e_exit_ret, e_nrm_exit, e_nrm_ret, e_exit_nrm, e_ret_nrm, Nat.zero_add, Nat.reduceAdd, noslR, noslP, noslB, noslA, List.all_cons, List.all_nil]
    have ih := last_loop (m := m) hz hw l (d ++ [u]) (by rw [← hd]; simp) (fun v hv => hu v (List.mem_cons_of_mem _ hv))
    rw [w64 (n := u - w) (by omega), w64 (n := (d.length : Int) + 1) (by omega)]
    have k1 : ltB 1 (u - w) = false := by simp; omega
    have k2 : ltB u w = false := by simp; omega
    simp only [k1, k2, bnd_some, ctl_true, ctl_false, ctl_and, ctl_or', ctl_or2, x_toPV, x_toCs, x_toCs2, x_toEs, x_bEs, x_bCs, x_aPV, x_aCs, x_int, x_bool, x_str, x_es, x_esn, nth_0, nth_1, nth_2, nth_3, nth_4, nth_5, nth_6, nth_7, nth_8, nth_9, y_nil, y_int, y_bool, y_str, y_sl, y_nils, y_agg, y_ownp, y_own, z_nil, z_int, z_bool, z_str, z_sl, z_nils, b_nil, b_arr, b_box1, b_box2, b_box3, b_box4, List.map_cons, List.map_nil, Bool.and_self, Bool.and_true, Bool.true_and, Bool.not_true, Bool.not_false, Bool.or_false, Bool.false_or, cond_true, cond_false, okPack, okPut, okPutBlks, okPutCells, q_isP, q_isAg, q_isBox, q_isArr, q_int, q_bool, q_str, q_sl, q_nils, e_exit, e_ret, e_nrm, e_ret_exit, e_exit_ret, e_nrm_exit, e_nrm_ret, e_exit_nrm, e_ret_nrm, Nat.zero_add, Nat.reduceAdd, noslR, noslP, noslB, noslA, List.all_cons, List.all_nil]
    simp only [List.length_append, List.length_cons, List.length_nil] at ih
    have e3 : ((d.length : Int) + 1) = ((d.length + (0 + 1) : Nat) : Int) := by omega
    rw [e3, ih]

theorem clamp_id {x lo hi : Int} (h : lo ≤ x ∧ x ≤ hi) : clamp x lo hi = x := by
  rw [clamp_eq]; split <;> split <;> omega

theorem d_SharePrice (t : List Int) (_ : t.length ≤ maxLen) (_ : ∀ n ∈ t, -9223372036854775808 ≤ n ∧ n ≤ 9223372036854775807) :
    denC E 6 [AV.sl 1 (intsK .i64 t)] [] = some ([RV.p (PV.bool true)], []) := by
  rw [denC_eq, r6, c_New]
  have hL : (t.take 600).length ≤ 600 := by simp; omega
  generalize t.take 600 = L at hL
  have h0 : (0 : Nat) ≤ 600 := by omega
  simp only [bnd_some, ctl_true, ctl_false, ctl_and, ctl_or', ctl_or2, x_toPV, x_toCs, x_toCs2, x_toEs, x_bEs, x_bCs, x_aPV, x_aCs, x_int, x_bool, x_str, x_es, x_esn, nth_0, nth_1, nth_2, nth_3, nth_4, nth_5, nth_6, nth_7, nth_8, nth_9, y_nil, y_int, y_bool, y_str, y_sl, y_nils, y_agg, y_ownp, y_own, z_nil, z_int, z_bool, z_str, z_sl, z_nils, b_nil, b_arr, b_box1, b_box2, b_box3, b_box4, List.map_cons, List.map_nil, Bool.and_self, Bool.and_true, Bool.true_and, Bool.not_true, Bool.not_false, Bool.or_false, Bool.false_or, cond_true, cond_false, okPack, okPut, okPutBlks, okPutCells, q_isP, q_isAg, q_isBox, q_isArr, q_int, q_bool, q_str, q_sl, q_nils, e_exit, e_ret, e_nrm, e_ret_exit, e_exit_ret, e_nrm_exit, e_nrm_ret, e_exit_nrm, e_ret_nrm, Nat.zero_add, Nat.reduceAdd, noslR, noslP, noslB, noslA, List.all_cons, List.all_nil]
  rw [src_zero, c_Shares hL h0 (by decide)]
  have hok := (shN_ok L 0 (most := 5) (by decide)).1
  have hat := shAt_le hL h0 5
  generalize shN L 0 5 = l at hok
  generalize shAt L 0 5 = k at hat
  have he := ends_in hok.2
  have h8 := hok.1
  simp only [bnd_some, ctl_true, ctl_false, ctl_and, ctl_or', ctl_or2, x_toPV, x_toCs, x_toCs2, x_toEs, x_bEs, x_bCs, x_aPV, x_aCs, x_int, x_bool, x_str, x_es, x_esn, nth_0, nth_1, nth_2, nth_3, nth_4, nth_5, nth_6, nth_7, nth_8, nth_9, y_nil, y_int, y_bool, y_str, y_sl, y_nils, y_agg, y_ownp, y_own, z_nil, z_int, z_bool, z_str, z_sl, z_nils, b_nil, b_arr, b_box1, b_box2, b_box3, b_box4, List.map_cons, List.map_nil, Bool.and_self, Bool.and_true, Bool.true_and, Bool.not_true, Bool.not_false, Bool.or_false, Bool.false_or, cond_true, cond_false, okPack, okPut, okPutBlks, okPutCells, q_isP, q_isAg, q_isBox, q_isArr, q_int, q_bool, q_str, q_sl, q_nils, e_exit, e_ret, e_nrm, e_ret_exit, e_exit_ret, e_nrm_exit, e_nrm_ret, e_exit_nrm, e_ret_nrm, Nat.zero_add, Nat.reduceAdd, noslR, noslP, noslB, noslA, List.all_cons, List.all_nil]
  rw [c_RReach hok]
  simp only [bnd_some, ctl_true, ctl_false, ctl_and, ctl_or', ctl_or2, x_toPV, x_toCs, x_toCs2, x_toEs, x_bEs, x_bCs, x_aPV, x_aCs, x_int, x_bool, x_str, x_es, x_esn, nth_0, nth_1, nth_2, nth_3, nth_4, nth_5, nth_6, nth_7, nth_8, nth_9, y_nil, y_int, y_bool, y_str, y_sl, y_nils, y_agg, y_ownp, y_own, z_nil, z_int, z_bool, z_str, z_sl, z_nils, b_nil, b_arr, b_box1, b_box2, b_box3, b_box4, List.map_cons, List.map_nil, Bool.and_self, Bool.and_true, Bool.true_and, Bool.not_true, Bool.not_false, Bool.or_false, Bool.false_or, cond_true, cond_false, okPack, okPut, okPutBlks, okPutCells, q_isP, q_isAg, q_isBox, q_isArr, q_int, q_bool, q_str, q_sl, q_nils, e_exit, e_ret, e_nrm, e_ret_exit, e_exit_ret, e_nrm_exit, e_nrm_ret, e_exit_nrm, e_ret_nrm, Nat.zero_add, Nat.reduceAdd, noslR, noslP, noslB, noslA, List.all_cons, List.all_nil]
  rw [c_Range hL hat (by omega)]
  have hb := vRange_bounds (L := L) (k := k) (lo := lows l) (hi := highs l) (by omega)
  generalize vRange L k (lows l) (highs l) = total at hb
  have hat1 := at'_le hL hat
  have hm : total ≤ minI (highs l) (total + 3) ∧ minI (highs l) (total + 3) ≤ highs l := by unfold minI; split <;> omega
  obtain ⟨r, hr, e1⟩ := c_Divide hok (total := total) (by omega)
  obtain ⟨r', hr', e2⟩ := c_Divide hok (total := minI (highs l) (total + 3)) (by omega)
  simp only [bnd_some, ctl_true, ctl_false, ctl_and, ctl_or', ctl_or2, x_toPV, x_toCs, x_toCs2, x_toEs, x_bEs, x_bCs, x_aPV, x_aCs, x_int, x_bool, x_str, x_es, x_esn, nth_0, nth_1, nth_2, nth_3, nth_4, nth_5, nth_6, nth_7, nth_8, nth_9, y_nil, y_int, y_bool, y_str, y_sl, y_nils, y_agg, y_ownp, y_own, z_nil, z_int, z_bool, z_str, z_sl, z_nils, b_nil, b_arr, b_box1, b_box2, b_box3, b_box4, List.map_cons, List.map_nil, Bool.and_self, Bool.and_true, Bool.true_and, Bool.not_true, Bool.not_false, Bool.or_false, Bool.false_or, cond_true, cond_false, okPack, okPut, okPutBlks, okPutCells, q_isP, q_isAg, q_isBox, q_isArr, q_int, q_bool, q_str, q_sl, q_nils, e_exit, e_ret, e_nrm, e_ret_exit, e_exit_ret, e_nrm_exit, e_nrm_ret, e_exit_nrm, e_ret_nrm, Nat.zero_add, Nat.reduceAdd, noslR, noslP, noslB, noslA, List.all_cons, List.all_nil]
  rw [w64 (n := total + 3) (by omega)]
  generalize minI (highs l) (total + 3) = T' at *
  rw [clamp_id (by omega)] at hr e1
  rw [clamp_id (by omega)] at hr' e2
  have hup := divL_up hok hb ⟨by omega, hm.2⟩ hm.1 hr hr'
  have hpx := divL_price hok total r
  have hmono := prS_up (low := 0) (high := 0) (low' := 0) (high' := 0) (less := false) (more := false) (less' := false) (more' := false) hok.2 hup (fun h => by cases h) (fun h => by cases h)
  have hpp : ∀ x, prS 0 0 false false l x = prc l x := fun x => rfl
  rw [hpp, hpp] at hmono
  generalize divL l total r = x at *
  generalize divL l T' r' = y at *
  rw [e1]
  simp only [bnd_some, ctl_true, ctl_false, ctl_and, ctl_or', ctl_or2, x_toPV, x_toCs, x_toCs2, x_toEs, x_bEs, x_bCs, x_aPV, x_aCs, x_int, x_bool, x_str, x_es, x_esn, nth_0, nth_1, nth_2, nth_3, nth_4, nth_5, nth_6, nth_7, nth_8, nth_9, y_nil, y_int, y_bool, y_str, y_sl, y_nils, y_agg, y_ownp, y_own, z_nil, z_int, z_bool, z_str, z_sl, z_nils, b_nil, b_arr, b_box1, b_box2, b_box3, b_box4, List.map_cons, List.map_nil, Bool.and_self, Bool.and_true, Bool.true_and, Bool.not_true, Bool.not_false, Bool.or_false, Bool.false_or, cond_true, cond_false, okPack, okPut, okPutBlks, okPutCells, q_isP, q_isAg, q_isBox, q_isArr, q_int, q_bool, q_str, q_sl, q_nils, e_exit, e_ret, e_nrm, e_ret_exit, e_exit_ret, e_nrm_exit, e_nrm_ret, e_exit_nrm, e_ret_nrm, Nat.zero_add, Nat.reduceAdd, noslR, noslP, noslB, noslA, List.all_cons, List.all_nil]
  rw [e2]
  simp only [bnd_some, ctl_true, ctl_false, ctl_and, ctl_or', ctl_or2, x_toPV, x_toCs, x_toCs2, x_toEs, x_bEs, x_bCs, x_aPV, x_aCs, x_int, x_bool, x_str, x_es, x_esn, nth_0, nth_1, nth_2, nth_3, nth_4, nth_5, nth_6, nth_7, nth_8, nth_9, y_nil, y_int, y_bool, y_str, y_sl, y_nils, y_agg, y_ownp, y_own, z_nil, z_int, z_bool, z_str, z_sl, z_nils, b_nil, b_arr, b_box1, b_box2, b_box3, b_box4, List.map_cons, List.map_nil, Bool.and_self, Bool.and_true, Bool.true_and, Bool.not_true, Bool.not_false, Bool.or_false, Bool.false_or, cond_true, cond_false, okPack, okPut, okPutBlks, okPutCells, q_isP, q_isAg, q_isBox, q_isArr, q_int, q_bool, q_str, q_sl, q_nils, e_exit, e_ret, e_nrm, e_ret_exit, e_exit_ret, e_nrm_exit, e_nrm_ret, e_exit_nrm, e_ret_nrm, Nat.zero_add, Nat.reduceAdd, noslR, noslP, noslB, noslA, List.all_cons, List.all_nil]
  rw [c_Price hok hup.left]
  simp only [bnd_some, ctl_true, ctl_false, ctl_and, ctl_or', ctl_or2, x_toPV, x_toCs, x_toCs2, x_toEs, x_bEs, x_bCs, x_aPV, x_aCs, x_int, x_bool, x_str, x_es, x_esn, nth_0, nth_1, nth_2, nth_3, nth_4, nth_5, nth_6, nth_7, nth_8, nth_9, y_nil, y_int, y_bool, y_str, y_sl, y_nils, y_agg, y_ownp, y_own, z_nil, z_int, z_bool, z_str, z_sl, z_nils, b_nil, b_arr, b_box1, b_box2, b_box3, b_box4, List.map_cons, List.map_nil, Bool.and_self, Bool.and_true, Bool.true_and, Bool.not_true, Bool.not_false, Bool.or_false, Bool.false_or, cond_true, cond_false, okPack, okPut, okPutBlks, okPutCells, q_isP, q_isAg, q_isBox, q_isArr, q_int, q_bool, q_str, q_sl, q_nils, e_exit, e_ret, e_nrm, e_ret_exit, e_exit_ret, e_nrm_exit, e_nrm_ret, e_exit_nrm, e_ret_nrm, Nat.zero_add, Nat.reduceAdd, noslR, noslP, noslB, noslA, List.all_cons, List.all_nil]
  rw [c_Price hok hup.right]
  simp only [bnd_some, ctl_true, ctl_false, ctl_and, ctl_or', ctl_or2, x_toPV, x_toCs, x_toCs2, x_toEs, x_bEs, x_bCs, x_aPV, x_aCs, x_int, x_bool, x_str, x_es, x_esn, nth_0, nth_1, nth_2, nth_3, nth_4, nth_5, nth_6, nth_7, nth_8, nth_9, y_nil, y_int, y_bool, y_str, y_sl, y_nils, y_agg, y_ownp, y_own, z_nil, z_int, z_bool, z_str, z_sl, z_nils, b_nil, b_arr, b_box1, b_box2, b_box3, b_box4, List.map_cons, List.map_nil, Bool.and_self, Bool.and_true, Bool.true_and, Bool.not_true, Bool.not_false, Bool.or_false, Bool.false_or, cond_true, cond_false, okPack, okPut, okPutBlks, okPutCells, q_isP, q_isAg, q_isBox, q_isArr, q_int, q_bool, q_str, q_sl, q_nils, e_exit, e_ret, e_nrm, e_ret_exit, e_exit_ret, e_nrm_exit, e_nrm_ret, e_exit_nrm, e_ret_nrm, Nat.zero_add, Nat.reduceAdd, noslR, noslP, noslB, noslA, List.all_cons, List.all_nil]
  generalize prc l x = A at *
  generalize prc l y = B at *
  obtain ⟨a, b, le, mo⟩ := A
  obtain ⟨c, d, le', mo'⟩ := B
  simp only at hpx hmono
  have z : ((0 : Int) != 0) = false := rfl
  have K1 : ((le && mo) && ltB (bif le && mo then b else 0) (bif le && mo then a else 0)) = false := by
    cases le <;> cases mo <;> simp at hpx ⊢
    omega
  have K2 : ((le && mo) && ((le' && mo') && (ltB (bif le' && mo' then c else 0) (bif le && mo then a else 0) || ltB (bif le' && mo' then d else 0) (bif le && mo then b else 0)))) = false := by
    cases le <;> cases mo <;> cases le' <;> cases mo' <;> simp at hmono ⊢
    omega
  simp only [z, K1, K2, bnd_some, ctl_true, ctl_false, ctl_and, ctl_or', ctl_or2, x_toPV, x_toCs, x_toCs2, x_toEs, x_bEs, x_bCs, x_aPV, x_aCs, x_int, x_bool, x_str, x_es, x_esn, nth_0, nth_1, nth_2, nth_3, nth_4, nth_5, nth_6, nth_7, nth_8, nth_9, y_nil, y_int, y_bool, y_str, y_sl, y_nils, y_agg, y_ownp, y_own, z_nil, z_int, z_bool, z_str, z_sl, z_nils, b_nil, b_arr, b_box1, b_box2, b_box3, b_box4, List.map_cons, List.map_nil, Bool.and_self, Bool.and_true, Bool.true_and, Bool.not_true, Bool.not_false, Bool.or_false, Bool.false_or, cond_true, cond_false, okPack, okPut, okPutBlks, okPutCells, q_isP, q_isAg, q_isBox, q_isArr, q_int, q_bool, q_str, q_sl, q_nils, e_exit, e_ret, e_nrm, e_ret_exit, e_exit_ret, e_nrm_exit, e_nrm_ret, e_exit_nrm, e_ret_nrm, Nat.zero_add, Nat.reduceAdd, noslR, noslP, noslB, noslA, List.all_cons, List.all_nil]
  rw [c_Range hL hat1 (lo := 1) (hi := 6) (by decide)]
  have hn := vRange_bounds (L := L) (k := at' L k) (lo := 1) (hi := 6) (by omega)
  generalize vRange L (at' L k) 1 6 = n at hn
  simp only [bnd_some, ctl_true, ctl_false, ctl_and, ctl_or', ctl_or2, x_toPV, x_toCs, x_toCs2, x_toEs, x_bEs, x_bCs, x_aPV, x_aCs, x_int, x_bool, x_str, x_es, x_esn, nth_0, nth_1, nth_2, nth_3, nth_4, nth_5, nth_6, nth_7, nth_8, nth_9, y_nil, y_int, y_bool, y_str, y_sl, y_nils, y_agg, y_ownp, y_own, z_nil, z_int, z_bool, z_str, z_sl, z_nils, b_nil, b_arr, b_box1, b_box2, b_box3, b_box4, List.map_cons, List.map_nil, Bool.and_self, Bool.and_true, Bool.true_and, Bool.not_true, Bool.not_false, Bool.or_false, Bool.false_or, cond_true, cond_false, okPack, okPut, okPutBlks, okPutCells, q_isP, q_isAg, q_isBox, q_isArr, q_int, q_bool, q_str, q_sl, q_nils, e_exit, e_ret, e_nrm, e_ret_exit, e_exit_ret, e_nrm_exit, e_nrm_ret, e_exit_nrm, e_ret_nrm, Nat.zero_add, Nat.reduceAdd, noslR, noslP, noslB, noslA, List.all_cons, List.all_nil]
  have hs := same_loop hL total n.toNat 0 (at' L (at' L k)) [] (by omega) (at'_le hL hat1) rfl
  rw [Nat.zero_add, Int.toNat_of_nonneg (by omega)] at hs
  have e0 : (((0 : Nat)) : Int) = 0 := rfl
  rw [e0] at hs
  rw [hs]
  simp only [bnd_some, ctl_true, ctl_false, ctl_and, ctl_or', ctl_or2, x_toPV, x_toCs, x_toCs2, x_toEs, x_bEs, x_bCs, x_aPV, x_aCs, x_int, x_bool, x_str, x_es, x_esn, nth_0, nth_1, nth_2, nth_3, nth_4, nth_5, nth_6, nth_7, nth_8, nth_9, y_nil, y_int, y_bool, y_str, y_sl, y_nils, y_agg, y_ownp, y_own, z_nil, z_int, z_bool, z_str, z_sl, z_nils, b_nil, b_arr, b_box1, b_box2, b_box3, b_box4, List.map_cons, List.map_nil, Bool.and_self, Bool.and_true, Bool.true_and, Bool.not_true, Bool.not_false, Bool.or_false, Bool.false_or, cond_true, cond_false, okPack, okPut, okPutBlks, okPutCells, q_isP, q_isAg, q_isBox, q_isArr, q_int, q_bool, q_str, q_sl, q_nils, e_exit, e_ret, e_nrm, e_ret_exit, e_exit_ret, e_nrm_exit, e_nrm_ret, e_exit_nrm, e_ret_nrm, Nat.zero_add, Nat.reduceAdd, noslR, noslP, noslB, noslA, List.all_cons, List.all_nil, List.nil_append]
  have ok2 : OkL (List.replicate n.toNat sm4) := ⟨by simp; omega, fun s hs => by rw [(List.mem_replicate.1 hs).2]; unfold OkS; decide⟩
  obtain ⟨r2, hr2, e3⟩ := c_Divide ok2 (total := total) (by omega)
  have he2 := ends_in ok2.2
  have hT2 := clamp_in (x := total) he2.2.1
  have hc : (total < lows (List.replicate n.toNat sm4) ∧ clamp total (lows (List.replicate n.toNat sm4)) (highs (List.replicate n.toNat sm4)) = lows (List.replicate n.toNat sm4)) ∨ clamp total (lows (List.replicate n.toNat sm4)) (highs (List.replicate n.toNat sm4)) = total ∨ (highs (List.replicate n.toNat sm4) < total ∧ clamp total (lows (List.replicate n.toNat sm4)) (highs (List.replicate n.toNat sm4)) = highs (List.replicate n.toNat sm4)) := by
    rcases Int.lt_or_le total (lows (List.replicate n.toNat sm4)) with c | c
    · left; refine ⟨c, ?_⟩; rw [clamp_eq]; split <;> split <;> omega
    · rcases Int.lt_or_le (highs (List.replicate n.toNat sm4)) total with d | d
      · right; right; refine ⟨d, ?_⟩; rw [clamp_eq]; split <;> split <;> omega
      · right; left; exact clamp_id ⟨c, d⟩
  have hdd : ∀ T, divL (List.replicate n.toNat sm4) T r2 = fillK r2 (List.replicate n.toNat sm4) (T - SP (List.replicate n.toNat sm4) (r2 - 1)) := fun T => divL_eq ok2 T r2
  generalize clamp total (lows (List.replicate n.toNat sm4)) (highs (List.replicate n.toNat sm4)) = T2 at *
  have hup2 := divL_up ok2 hT2 hT2 (Int.le_refl _) hr2 hr2
  have hsum2 := divL_sum ok2 hT2 hr2
  have hlen2 := divL_length ok2 T2 r2
  have hlast := same_last (r := r2) (s := sm4) (n := n.toNat) (T2 - SP (List.replicate n.toNat sm4) (r2 - 1)) (by omega)
  rw [← hdd] at hlast
  rw [List.length_replicate] at hlen2
  have hnear := hup2.near (m := total - T2) (fun h => by omega) (fun h => by omega)
  generalize divL (List.replicate n.toNat sm4) T2 r2 = zz at *
  rw [e3]
  have hzl : (zz.length : Int) = n := by omega
  have k5 : ((zz.length : Int) != n) = false := by simp [hzl]
  simp only [bnd_some, ctl_true, ctl_false, ctl_and, ctl_or', ctl_or2, x_toPV, x_toCs, x_toCs2, x_toEs, x_bEs, x_bCs, x_aPV, x_aCs, x_int, x_bool, x_str, x_es, x_esn, nth_0, nth_1, nth_2, nth_3, nth_4, nth_5, nth_6, nth_7, nth_8, nth_9, y_nil, y_int, y_bool, y_str, y_sl, y_nils, y_agg, y_ownp, y_own, z_nil, z_int, z_bool, z_str, z_sl, z_nils, b_nil, b_arr, b_box1, b_box2, b_box3, b_box4, List.map_cons, List.map_nil, Bool.and_self, Bool.and_true, Bool.true_and, Bool.not_true, Bool.not_false, Bool.or_false, Bool.false_or, cond_true, cond_false, okPack, okPut, okPutBlks, okPutCells, q_isP, q_isAg, q_isBox, q_isArr, q_int, q_bool, q_str, q_sl, q_nils, e_exit, e_ret, e_nrm, e_ret_exit, e_exit_ret, e_nrm_exit, e_nrm_ret, e_exit_nrm, e_ret_nrm, Nat.zero_add, Nat.reduceAdd, noslR, noslP, noslB, noslA, List.all_cons, List.all_nil, z, intsK_length, k5]
  have hlo := last_loop (m := total - T2) (z := zz) (by omega) rfl zz [] rfl (by rw [hlen2]; exact hlast)
  simp only [List.length_nil] at hlo
  rw [e0, hzl] at hlo
  rw [hzl, hlo]
  simp only [bnd_some, ctl_true, ctl_false, ctl_and, ctl_or', ctl_or2, x_toPV, x_toCs, x_toCs2, x_toEs, x_bEs, x_bCs, x_aPV, x_aCs, x_int, x_bool, x_str, x_es, x_esn, nth_0, nth_1, nth_2, nth_3, nth_4, nth_5, nth_6, nth_7, nth_8, nth_9, y_nil, y_int, y_bool, y_str, y_sl, y_nils, y_agg, y_ownp, y_own, z_nil, z_int, z_bool, z_str, z_sl, z_nils, b_nil, b_arr, b_box1, b_box2, b_box3, b_box4, List.map_cons, List.map_nil, Bool.and_self, Bool.and_true, Bool.true_and, Bool.not_true, Bool.not_false, Bool.or_false, Bool.false_or, cond_true, cond_false, okPack, okPut, okPutBlks, okPutCells, q_isP, q_isAg, q_isBox, q_isArr, q_int, q_bool, q_str, q_sl, q_nils, e_exit, e_ret, e_nrm, e_ret_exit, e_exit_ret, e_nrm_exit, e_nrm_ret, e_exit_nrm, e_ret_nrm, Nat.zero_add, Nat.reduceAdd, noslR, noslP, noslB, noslA, List.all_cons, List.all_nil]
  rw [getE_ints (by omega), getE_ints (by omega)]
  simp only [bnd_some, ctl_true, ctl_false, ctl_and, ctl_or', ctl_or2, x_toPV, x_toCs, x_toCs2, x_toEs, x_bEs, x_bCs, x_aPV, x_aCs, x_int, x_bool, x_str, x_es, x_esn, nth_0, nth_1, nth_2, nth_3, nth_4, nth_5, nth_6, nth_7, nth_8, nth_9, y_nil, y_int, y_bool, y_str, y_sl, y_nils, y_agg, y_ownp, y_own, z_nil, z_int, z_bool, z_str, z_sl, z_nils, b_nil, b_arr, b_box1, b_box2, b_box3, b_box4, List.map_cons, List.map_nil, Bool.and_self, Bool.and_true, Bool.true_and, Bool.not_true, Bool.not_false, Bool.or_false, Bool.false_or, cond_true, cond_false, okPack, okPut, okPutBlks, okPutCells, q_isP, q_isAg, q_isBox, q_isArr, q_int, q_bool, q_str, q_sl, q_nils, e_exit, e_ret, e_nrm, e_ret_exit, e_exit_ret, e_nrm_exit, e_nrm_ret, e_exit_nrm, e_ret_nrm, Nat.zero_add, Nat.reduceAdd, noslR, noslP, noslB, noslA, List.all_cons, List.all_nil]
  have hfin : (total - T2 == 0 || zz.getD (Int.toNat 0) 0 == -9 || zz.getD (Int.toNat 0) 0 == 20) = true := by
    obtain ⟨n', hn'⟩ : ∃ n', n.toNat = n' + 1 := ⟨n.toNat - 1, by omega⟩
    rw [hn', List.replicate_succ] at hnear
    cases zz with
    | nil => exact hnear.elim
    | cons z0 zs =>
      obtain ⟨⟨_, _, _, q1, q2⟩, _⟩ := hnear
      have ez : (z0 :: zs).getD (Int.toNat 0) 0 = z0 := rfl
      rw [ez]
      simp only [Bool.or_eq_true, beq_iff_eq]
      rcases Int.lt_trichotomy (total - T2) 0 with c | c | c
      · exact Or.inl (Or.inr (q2 c))
      · exact Or.inl (Or.inl c)
      · exact Or.inr (q1 c)
  simp only [hfin, bnd_some, ctl_true, ctl_false, ctl_and, ctl_or', ctl_or2, x_toPV, x_toCs, x_toCs2, x_toEs, x_bEs, x_bCs, x_aPV, x_aCs, x_int, x_bool, x_str, x_es, x_esn, nth_0, nth_1, nth_2, nth_3, nth_4, nth_5, nth_6, nth_7, nth_8, nth_9, y_nil, y_int, y_bool, y_str, y_sl, y_nils, y_agg, y_ownp, y_own, z_nil, z_int, z_bool, z_str, z_sl, z_nils, b_nil, b_arr, b_box1, b_box2, b_box3, b_box4, List.map_cons, List.map_nil, Bool.and_self, Bool.and_true, Bool.true_and, Bool.not_true, Bool.not_false, Bool.or_false, Bool.false_or, cond_true, cond_false, okPack, okPut, okPutBlks, okPutCells, q_isP, q_isAg, q_isBox, q_isArr, q_int, q_bool, q_str, q_sl, q_nils, e_exit, e_ret, e_nrm, e_ret_exit, e_exit_ret, e_nrm_exit, e_nrm_ret, e_exit_nrm, e_ret_nrm, Nat.zero_add, Nat.reduceAdd, noslR, noslP, noslB, noslA, List.all_cons, List.all_nil, c_sane]

end Go.Proofs.Ytbacfgghneknjaa.Vm
