/- Contracts of chapter 06: the source's signals; the example. -/
import Derived.Test.YtcopadohnlcheaaDoorSigF
namespace Go.Proofs.YtcopadohnlcheaaDoor.Vm
set_option linter.unusedVariables false
set_option linter.unusedSimpArgs false

theorem inR_of {x lo hi : Int} (h : lo ≤ x ∧ x ≤ hi) : inR x lo hi = true := inR_iff.2 h
theorem bz : ((0 : Int) == 0) = true := rfl

theorem pick4 {L : List Int} {k : Nat} (l : List Int) (hl : 1 ≤ l.length) (lo hi : Int) (h : ∀ n ∈ l, lo ≤ n ∧ n ≤ hi) : lo ≤ vPick L k l ∧ vPick L k l ≤ hi := h _ (vPick_mem L k hl)

theorem val1 {s t a b c : Int} (h1 : 0 ≤ s ∧ s ≤ 99) (h2 : 0 ≤ t ∧ t ≤ 2147483648) (h3 : -100000000 ≤ a ∧ a ≤ 100000000) (h4 : -100000000 ≤ b ∧ b ≤ 100000000) (h5 : 1 ≤ c ∧ c ≤ 100000) : valS ⟨1, s, t, a, b, c⟩ = true :=
  (v_of 1 s t a b c true true true rfl (inR_of h3) (inR_of h4) (inR_of h5)).trans (by rw [inR_of h1, inR_of h2]; rfl)
theorem val2 {s t a : Int} (h1 : 0 ≤ s ∧ s ≤ 99) (h2 : 0 ≤ t ∧ t ≤ 2147483648) (h3 : 0 ≤ a ∧ a ≤ 3599) : valS ⟨2, s, t, a, 0, 0⟩ = true :=
  (v_of 2 s t a 0 0 true true true rfl (inR_of h3) rfl rfl).trans (by rw [inR_of h1, inR_of h2]; rfl)
theorem val3 {s t a b : Int} (h1 : 0 ≤ s ∧ s ≤ 99) (h2 : 0 ≤ t ∧ t ≤ 2147483648) (h3 : 0 ≤ a ∧ a ≤ 3599) (h4 : 0 ≤ b ∧ b ≤ 10000) : valS ⟨3, s, t, a, b, 0⟩ = true :=
  (v_of 3 s t a b 0 true true true rfl (inR_of h3) (inR_of h4) rfl).trans (by rw [inR_of h1, inR_of h2]; rfl)
theorem val4 {s t a b : Int} (h1 : 0 ≤ s ∧ s ≤ 99) (h2 : 0 ≤ t ∧ t ≤ 2147483648) (h3 : 0 ≤ a ∧ a ≤ 5000) (h4 : 0 ≤ b ∧ b ≤ 3599) : valS ⟨4, s, t, a, b, 0⟩ = true :=
  (v_of 4 s t a b 0 true true true rfl (inR_of h3) (inR_of h4) rfl).trans (by rw [inR_of h1, inR_of h2]; rfl)
theorem val5 {s t a : Int} (h1 : 0 ≤ s ∧ s ≤ 99) (h2 : 0 ≤ t ∧ t ≤ 2147483648) (h3 : 0 ≤ a ∧ a ≤ 1) : valS ⟨5, s, t, a, 0, 0⟩ = true :=
  (v_of 5 s t a 0 0 true true true rfl (inR_of h3) rfl rfl).trans (by rw [inR_of h1, inR_of h2]; rfl)
theorem val6 {s t a b c : Int} (h1 : 0 ≤ s ∧ s ≤ 99) (h2 : 0 ≤ t ∧ t ≤ 2147483648) (h3 : 0 ≤ a ∧ a ≤ 50000) (h4 : 0 ≤ b ∧ b ≤ 6000) (h5 : 0 ≤ c ∧ c ≤ 3599) : valS ⟨6, s, t, a, b, c⟩ = true :=
  (v_of 6 s t a b c true true true rfl (inR_of h3) (inR_of h4) (inR_of h5)).trans (by rw [inR_of h1, inR_of h2]; rfl)

theorem c_Signal {L : List Int} {k : Nat} (hL : L.length ≤ 600) (hk : k ≤ 600) : ∃ (x : Sig) (k' : Nat), valS x = true ∧ k' ≤ 600 ∧ denC E 8 [AV.t (.ptr 0 0)] [src L k] = some ([RV.agg (sgC x)], [src L k']) := by
  have hb := vRange_bounds (L := L) (k := k) (lo := 1) (hi := 6) (by omega)
  have k1 := at'_le hL hk
  have k2 := at'_le hL k1
  have k3 := at'_le hL k2
  have k4 := at'_le hL k3
  have k5 := at'_le hL k4
  have k6' := at'_le hL k5
  have l1 : ([[PV.int IntKind.i64 0], [PV.int IntKind.i64 1], [PV.int IntKind.i64 7], [PV.int IntKind.i64 99]] : List (List PV)) = intsK .i64 [0, 1, 7, 99] := rfl
  have l2 : ([[PV.int IntKind.i64 0], [PV.int IntKind.i64 1], [PV.int IntKind.i64 60], [PV.int IntKind.i64 2147483648]] : List (List PV)) = intsK .i64 [0, 1, 60, 2147483648] := rfl
  have l3 : ([[PV.int IntKind.i64 1], [PV.int IntKind.i64 50], [PV.int IntKind.i64 100000]] : List (List PV)) = intsK .i64 [1, 50, 100000] := rfl
  have p1 := pick4 (L := L) (k := at' L k) [0, 1, 7, 99] (by decide) 0 99 (by decide)
  have p2 := pick4 (L := L) (k := at' L (at' L k)) [0, 1, 60, 2147483648] (by decide) 0 2147483648 (by decide)
  rw [denC_eq, r8, c_Range hL hk (by omega)]
  simp only [bnd_some, ctl_true, ctl_false, ctl_and, ctl_or', ctl_or2, x_toPV, x_toCs, x_toCs2, x_toEs, x_bEs, x_bCs, x_aPV, x_aCs, x_int, x_bool, x_str, x_es, x_esn, nth_0, nth_1, nth_2, nth_3, nth_4, nth_5, nth_6, nth_7, nth_8, nth_9, y_nil, y_int, y_bool, y_str, y_sl, y_nils, y_agg, y_ownp, y_own, z_nil, z_int, z_bool, z_str, z_sl, z_nils, b_nil, b_arr, b_box1, b_box2, b_box3, b_box4, List.map_cons, List.map_nil, Bool.and_self, Bool.and_true, Bool.true_and, Bool.not_true, Bool.not_false, Bool.or_false, Bool.false_or, cond_true, cond_false, okPack, okPut, okPutBlks, okPutCells, q_isP, q_isAg, q_isBox, q_isArr, q_int, q_bool, q_str, q_sl, q_nils, e_exit, e_ret, e_nrm, e_ret_exit, e_exit_ret, e_nrm_exit, e_nrm_ret, e_exit_nrm, e_ret_nrm, Nat.zero_add, Nat.reduceAdd, noslR, noslP, noslB, noslA, List.all_cons, List.all_nil]
  rw [l1, c_Pick hL k1 (by decide)]
  simp only [bnd_some, ctl_true, ctl_false, ctl_and, ctl_or', ctl_or2, x_toPV, x_toCs, x_toCs2, x_toEs, x_bEs, x_bCs, x_aPV, x_aCs, x_int, x_bool, x_str, x_es, x_esn, nth_0, nth_1, nth_2, nth_3, nth_4, nth_5, nth_6, nth_7, nth_8, nth_9, y_nil, y_int, y_bool, y_str, y_sl, y_nils, y_agg, y_ownp, y_own, z_nil, z_int, z_bool, z_str, z_sl, z_nils, b_nil, b_arr, b_box1, b_box2, b_box3, b_box4, List.map_cons, List.map_nil, Bool.and_self, Bool.and_true, Bool.true_and, Bool.not_true, Bool.not_false, Bool.or_false, Bool.false_or, cond_true, cond_false, okPack, okPut, okPutBlks, okPutCells, q_isP, q_isAg, q_isBox, q_isArr, q_int, q_bool, q_str, q_sl, q_nils, e_exit, e_ret, e_nrm, e_ret_exit, e_exit_ret, e_nrm_exit, e_nrm_ret, e_exit_nrm, e_ret_nrm, Nat.zero_add, Nat.reduceAdd, noslR, noslP, noslB, noslA, List.all_cons, List.all_nil]
  rw [l2, c_Pick hL k2 (by decide)]
  simp only [bnd_some, ctl_true, ctl_false, ctl_and, ctl_or', ctl_or2, x_toPV, x_toCs, x_toCs2, x_toEs, x_bEs, x_bCs, x_aPV, x_aCs, x_int, x_bool, x_str, x_es, x_esn, nth_0, nth_1, nth_2, nth_3, nth_4, nth_5, nth_6, nth_7, nth_8, nth_9, y_nil, y_int, y_bool, y_str, y_sl, y_nils, y_agg, y_ownp, y_own, z_nil, z_int, z_bool, z_str, z_sl, z_nils, b_nil, b_arr, b_box1, b_box2, b_box3, b_box4, List.map_cons, List.map_nil, Bool.and_self, Bool.and_true, Bool.true_and, Bool.not_true, Bool.not_false, Bool.or_false, Bool.false_or, cond_true, cond_false, okPack, okPut, okPutBlks, okPutCells, q_isP, q_isAg, q_isBox, q_isArr, q_int, q_bool, q_str, q_sl, q_nils, e_exit, e_ret, e_nrm, e_ret_exit, e_exit_ret, e_nrm_exit, e_nrm_ret, e_exit_nrm, e_ret_nrm, Nat.zero_add, Nat.reduceAdd, noslR, noslP, noslB, noslA, List.all_cons, List.all_nil]
  have b12 : ((2 : Int) == 1) = false := rfl
  have b13 : ((3 : Int) == 1) = false := rfl
  have b14 : ((4 : Int) == 1) = false := rfl
  have b15 : ((5 : Int) == 1) = false := rfl
  have b16 : ((6 : Int) == 1) = false := rfl
  have b23 : ((3 : Int) == 2) = false := rfl
  have b24 : ((4 : Int) == 2) = false := rfl
  have b25 : ((5 : Int) == 2) = false := rfl
  have b26 : ((6 : Int) == 2) = false := rfl
  have b34 : ((4 : Int) == 3) = false := rfl
  have b35 : ((5 : Int) == 3) = false := rfl
  have b36 : ((6 : Int) == 3) = false := rfl
  have b45 : ((5 : Int) == 4) = false := rfl
  have b46 : ((6 : Int) == 4) = false := rfl
  have b56 : ((6 : Int) == 5) = false := rfl
  rcases k6 hb with h | h | h | h | h | h <;> rw [h] <;> simp only [beq_self_eq_true, b12, b13, b14, b15, b16, b23, b24, b25, b26, b34, b35, b36, b45, b46, b56, bnd_some, ctl_true, ctl_false, ctl_and, ctl_or', ctl_or2, x_toPV, x_toCs, x_toCs2, x_toEs, x_bEs, x_bCs, x_aPV, x_aCs, x_int, x_bool, x_str, x_es, x_esn, nth_0, nth_1, nth_2, nth_3, nth_4, nth_5, nth_6, nth_7, nth_8, nth_9, y_nil, y_int, y_bool, y_str, y_sl, y_nils, y_agg, y_ownp, y_own, z_nil, z_int, z_bool, z_str, z_sl, z_nils, b_nil, b_arr, b_box1, b_box2, b_box3, b_box4, List.map_cons, List.map_nil, Bool.and_self, Bool.and_true, Bool.true_and, Bool.not_true, Bool.not_false, Bool.or_false, Bool.false_or, cond_true, cond_false, okPack, okPut, okPutBlks, okPutCells, q_isP, q_isAg, q_isBox, q_isArr, q_int, q_bool, q_str, q_sl, q_nils, e_exit, e_ret, e_nrm, e_ret_exit, e_exit_ret, e_nrm_exit, e_nrm_ret, e_exit_nrm, e_ret_nrm, Nat.zero_add, Nat.reduceAdd, noslR, noslP, noslB, noslA, List.all_cons, List.all_nil]
  · rw [c_Range hL k3 (by omega)]
    simp only [bnd_some, ctl_true, ctl_false, ctl_and, ctl_or', ctl_or2, x_toPV, x_toCs, x_toCs2, x_toEs, x_bEs, x_bCs, x_aPV, x_aCs, x_int, x_bool, x_str, x_es, x_esn, nth_0, nth_1, nth_2, nth_3, nth_4, nth_5, nth_6, nth_7, nth_8, nth_9, y_nil, y_int, y_bool, y_str, y_sl, y_nils, y_agg, y_ownp, y_own, z_nil, z_int, z_bool, z_str, z_sl, z_nils, b_nil, b_arr, b_box1, b_box2, b_box3, b_box4, List.map_cons, List.map_nil, Bool.and_self, Bool.and_true, Bool.true_and, Bool.not_true, Bool.not_false, Bool.or_false, Bool.false_or, cond_true, cond_false, okPack, okPut, okPutBlks, okPutCells, q_isP, q_isAg, q_isBox, q_isArr, q_int, q_bool, q_str, q_sl, q_nils, e_exit, e_ret, e_nrm, e_ret_exit, e_exit_ret, e_nrm_exit, e_nrm_ret, e_exit_nrm, e_ret_nrm, Nat.zero_add, Nat.reduceAdd, noslR, noslP, noslB, noslA, List.all_cons, List.all_nil]
    rw [c_Range hL k4 (by omega)]
    simp only [bnd_some, ctl_true, ctl_false, ctl_and, ctl_or', ctl_or2, x_toPV, x_toCs, x_toCs2, x_toEs, x_bEs, x_bCs, x_aPV, x_aCs, x_int, x_bool, x_str, x_es, x_esn, nth_0, nth_1, nth_2, nth_3, nth_4, nth_5, nth_6, nth_7, nth_8, nth_9, y_nil, y_int, y_bool, y_str, y_sl, y_nils, y_agg, y_ownp, y_own, z_nil, z_int, z_bool, z_str, z_sl, z_nils, b_nil, b_arr, b_box1, b_box2, b_box3, b_box4, List.map_cons, List.map_nil, Bool.and_self, Bool.and_true, Bool.true_and, Bool.not_true, Bool.not_false, Bool.or_false, Bool.false_or, cond_true, cond_false, okPack, okPut, okPutBlks, okPutCells, q_isP, q_isAg, q_isBox, q_isArr, q_int, q_bool, q_str, q_sl, q_nils, e_exit, e_ret, e_nrm, e_ret_exit, e_exit_ret, e_nrm_exit, e_nrm_ret, e_exit_nrm, e_ret_nrm, Nat.zero_add, Nat.reduceAdd, noslR, noslP, noslB, noslA, List.all_cons, List.all_nil]
    rw [l3, c_Pick hL k5 (by decide)]
    simp only [bnd_some, ctl_true, ctl_false, ctl_and, ctl_or', ctl_or2, x_toPV, x_toCs, x_toCs2, x_toEs, x_bEs, x_bCs, x_aPV, x_aCs, x_int, x_bool, x_str, x_es, x_esn, nth_0, nth_1, nth_2, nth_3, nth_4, nth_5, nth_6, nth_7, nth_8, nth_9, y_nil, y_int, y_bool, y_str, y_sl, y_nils, y_agg, y_ownp, y_own, z_nil, z_int, z_bool, z_str, z_sl, z_nils, b_nil, b_arr, b_box1, b_box2, b_box3, b_box4, List.map_cons, List.map_nil, Bool.and_self, Bool.and_true, Bool.true_and, Bool.not_true, Bool.not_false, Bool.or_false, Bool.false_or, cond_true, cond_false, okPack, okPut, okPutBlks, okPutCells, q_isP, q_isAg, q_isBox, q_isArr, q_int, q_bool, q_str, q_sl, q_nils, e_exit, e_ret, e_nrm, e_ret_exit, e_exit_ret, e_nrm_exit, e_nrm_ret, e_exit_nrm, e_ret_nrm, Nat.zero_add, Nat.reduceAdd, noslR, noslP, noslB, noslA, List.all_cons, List.all_nil]
    have q1 := vRange_bounds (L := L) (k := at' L (at' L (at' L k))) (lo := -900) (hi := 900) (by omega)
    have q2 := vRange_bounds (L := L) (k := at' L (at' L (at' L (at' L k)))) (lo := -100000000) (hi := 100000000) (by omega)
    have q3 := pick4 (L := L) (k := at' L (at' L (at' L (at' L (at' L k))))) [1, 50, 100000] (by decide) 1 100000 (by decide)
    have q1' : -100000000 ≤ vRange L (at' L (at' L (at' L k))) (-900) 900 ∧ vRange L (at' L (at' L (at' L k))) (-900) 900 ≤ 100000000 := ⟨by omega, by omega⟩
    exact ⟨⟨1, _, _, _, _, _⟩, _, val1 p1 p2 q1' q2 q3, k6', rfl⟩
  · rw [c_N hL k3 _ (by omega)]
    simp only [bnd_some, ctl_true, ctl_false, ctl_and, ctl_or', ctl_or2, x_toPV, x_toCs, x_toCs2, x_toEs, x_bEs, x_bCs, x_aPV, x_aCs, x_int, x_bool, x_str, x_es, x_esn, nth_0, nth_1, nth_2, nth_3, nth_4, nth_5, nth_6, nth_7, nth_8, nth_9, y_nil, y_int, y_bool, y_str, y_sl, y_nils, y_agg, y_ownp, y_own, z_nil, z_int, z_bool, z_str, z_sl, z_nils, b_nil, b_arr, b_box1, b_box2, b_box3, b_box4, List.map_cons, List.map_nil, Bool.and_self, Bool.and_true, Bool.true_and, Bool.not_true, Bool.not_false, Bool.or_false, Bool.false_or, cond_true, cond_false, okPack, okPut, okPutBlks, okPutCells, q_isP, q_isAg, q_isBox, q_isArr, q_int, q_bool, q_str, q_sl, q_nils, e_exit, e_ret, e_nrm, e_ret_exit, e_exit_ret, e_nrm_exit, e_nrm_ret, e_exit_nrm, e_ret_nrm, Nat.zero_add, Nat.reduceAdd, noslR, noslP, noslB, noslA, List.all_cons, List.all_nil]
    have q1 := vN_bounds (L := L) (k := at' L (at' L (at' L k))) (n := 3600) (by omega)
    exact ⟨⟨2, _, _, _, 0, 0⟩, _, val2 p1 p2 ⟨q1.1, by omega⟩, k4, rfl⟩
  · rw [c_N hL k3 _ (by omega)]
    simp only [bnd_some, ctl_true, ctl_false, ctl_and, ctl_or', ctl_or2, x_toPV, x_toCs, x_toCs2, x_toEs, x_bEs, x_bCs, x_aPV, x_aCs, x_int, x_bool, x_str, x_es, x_esn, nth_0, nth_1, nth_2, nth_3, nth_4, nth_5, nth_6, nth_7, nth_8, nth_9, y_nil, y_int, y_bool, y_str, y_sl, y_nils, y_agg, y_ownp, y_own, z_nil, z_int, z_bool, z_str, z_sl, z_nils, b_nil, b_arr, b_box1, b_box2, b_box3, b_box4, List.map_cons, List.map_nil, Bool.and_self, Bool.and_true, Bool.true_and, Bool.not_true, Bool.not_false, Bool.or_false, Bool.false_or, cond_true, cond_false, okPack, okPut, okPutBlks, okPutCells, q_isP, q_isAg, q_isBox, q_isArr, q_int, q_bool, q_str, q_sl, q_nils, e_exit, e_ret, e_nrm, e_ret_exit, e_exit_ret, e_nrm_exit, e_nrm_ret, e_exit_nrm, e_ret_nrm, Nat.zero_add, Nat.reduceAdd, noslR, noslP, noslB, noslA, List.all_cons, List.all_nil]
    rw [c_Range hL k4 (by omega)]
    simp only [bnd_some, ctl_true, ctl_false, ctl_and, ctl_or', ctl_or2, x_toPV, x_toCs, x_toCs2, x_toEs, x_bEs, x_bCs, x_aPV, x_aCs, x_int, x_bool, x_str, x_es, x_esn, nth_0, nth_1, nth_2, nth_3, nth_4, nth_5, nth_6, nth_7, nth_8, nth_9, y_nil, y_int, y_bool, y_str, y_sl, y_nils, y_agg, y_ownp, y_own, z_nil, z_int, z_bool, z_str, z_sl, z_nils, b_nil, b_arr, b_box1, b_box2, b_box3, b_box4, List.map_cons, List.map_nil, Bool.and_self, Bool.and_true, Bool.true_and, Bool.not_true, Bool.not_false, Bool.or_false, Bool.false_or, cond_true, cond_false, okPack, okPut, okPutBlks, okPutCells, q_isP, q_isAg, q_isBox, q_isArr, q_int, q_bool, q_str, q_sl, q_nils, e_exit, e_ret, e_nrm, e_ret_exit, e_exit_ret, e_nrm_exit, e_nrm_ret, e_exit_nrm, e_ret_nrm, Nat.zero_add, Nat.reduceAdd, noslR, noslP, noslB, noslA, List.all_cons, List.all_nil]
    have q1 := vN_bounds (L := L) (k := at' L (at' L (at' L k))) (n := 3600) (by omega)
    have q2 := vRange_bounds (L := L) (k := at' L (at' L (at' L (at' L k)))) (lo := 0) (hi := 10000) (by omega)
    exact ⟨⟨3, _, _, _, _, 0⟩, _, val3 p1 p2 ⟨q1.1, by omega⟩ q2, k5, rfl⟩
  · rw [c_Range hL k3 (by omega)]
    simp only [bnd_some, ctl_true, ctl_false, ctl_and, ctl_or', ctl_or2, x_toPV, x_toCs, x_toCs2, x_toEs, x_bEs, x_bCs, x_aPV, x_aCs, x_int, x_bool, x_str, x_es, x_esn, nth_0, nth_1, nth_2, nth_3, nth_4, nth_5, nth_6, nth_7, nth_8, nth_9, y_nil, y_int, y_bool, y_str, y_sl, y_nils, y_agg, y_ownp, y_own, z_nil, z_int, z_bool, z_str, z_sl, z_nils, b_nil, b_arr, b_box1, b_box2, b_box3, b_box4, List.map_cons, List.map_nil, Bool.and_self, Bool.and_true, Bool.true_and, Bool.not_true, Bool.not_false, Bool.or_false, Bool.false_or, cond_true, cond_false, okPack, okPut, okPutBlks, okPutCells, q_isP, q_isAg, q_isBox, q_isArr, q_int, q_bool, q_str, q_sl, q_nils, e_exit, e_ret, e_nrm, e_ret_exit, e_exit_ret, e_nrm_exit, e_nrm_ret, e_exit_nrm, e_ret_nrm, Nat.zero_add, Nat.reduceAdd, noslR, noslP, noslB, noslA, List.all_cons, List.all_nil]
    rw [c_N hL k4 _ (by omega)]
    simp only [bnd_some, ctl_true, ctl_false, ctl_and, ctl_or', ctl_or2, x_toPV, x_toCs, x_toCs2, x_toEs, x_bEs, x_bCs, x_aPV, x_aCs, x_int, x_bool, x_str, x_es, x_esn, nth_0, nth_1, nth_2, nth_3, nth_4, nth_5, nth_6, nth_7, nth_8, nth_9, y_nil, y_int, y_bool, y_str, y_sl, y_nils, y_agg, y_ownp, y_own, z_nil, z_int, z_bool, z_str, z_sl, z_nils, b_nil, b_arr, b_box1, b_box2, b_box3, b_box4, List.map_cons, List.map_nil, Bool.and_self, Bool.and_true, Bool.true_and, Bool.not_true, Bool.not_false, Bool.or_false, Bool.false_or, cond_true, cond_false, okPack, okPut, okPutBlks, okPutCells, q_isP, q_isAg, q_isBox, q_isArr, q_int, q_bool, q_str, q_sl, q_nils, e_exit, e_ret, e_nrm, e_ret_exit, e_exit_ret, e_nrm_exit, e_nrm_ret, e_exit_nrm, e_ret_nrm, Nat.zero_add, Nat.reduceAdd, noslR, noslP, noslB, noslA, List.all_cons, List.all_nil]
    have q1 := vRange_bounds (L := L) (k := at' L (at' L (at' L k))) (lo := 0) (hi := 5000) (by omega)
    have q2 := vN_bounds (L := L) (k := at' L (at' L (at' L (at' L k)))) (n := 3600) (by omega)
    exact ⟨⟨4, _, _, _, _, 0⟩, _, val4 p1 p2 q1 ⟨q2.1, by omega⟩, k5, rfl⟩
  · rw [c_N hL k3 _ (by omega)]
    simp only [bnd_some, ctl_true, ctl_false, ctl_and, ctl_or', ctl_or2, x_toPV, x_toCs, x_toCs2, x_toEs, x_bEs, x_bCs, x_aPV, x_aCs, x_int, x_bool, x_str, x_es, x_esn, nth_0, nth_1, nth_2, nth_3, nth_4, nth_5, nth_6, nth_7, nth_8, nth_9, y_nil, y_int, y_bool, y_str, y_sl, y_nils, y_agg, y_ownp, y_own, z_nil, z_int, z_bool, z_str, z_sl, z_nils, b_nil, b_arr, b_box1, b_box2, b_box3, b_box4, List.map_cons, List.map_nil, Bool.and_self, Bool.and_true, Bool.true_and, Bool.not_true, Bool.not_false, Bool.or_false, Bool.false_or, cond_true, cond_false, okPack, okPut, okPutBlks, okPutCells, q_isP, q_isAg, q_isBox, q_isArr, q_int, q_bool, q_str, q_sl, q_nils, e_exit, e_ret, e_nrm, e_ret_exit, e_exit_ret, e_nrm_exit, e_nrm_ret, e_exit_nrm, e_ret_nrm, Nat.zero_add, Nat.reduceAdd, noslR, noslP, noslB, noslA, List.all_cons, List.all_nil]
    have q1 := vN_bounds (L := L) (k := at' L (at' L (at' L k))) (n := 2) (by omega)
    exact ⟨⟨5, _, _, _, 0, 0⟩, _, val5 p1 p2 ⟨q1.1, by omega⟩, k4, rfl⟩
  · rw [c_Range hL k3 (by omega)]
    simp only [bnd_some, ctl_true, ctl_false, ctl_and, ctl_or', ctl_or2, x_toPV, x_toCs, x_toCs2, x_toEs, x_bEs, x_bCs, x_aPV, x_aCs, x_int, x_bool, x_str, x_es, x_esn, nth_0, nth_1, nth_2, nth_3, nth_4, nth_5, nth_6, nth_7, nth_8, nth_9, y_nil, y_int, y_bool, y_str, y_sl, y_nils, y_agg, y_ownp, y_own, z_nil, z_int, z_bool, z_str, z_sl, z_nils, b_nil, b_arr, b_box1, b_box2, b_box3, b_box4, List.map_cons, List.map_nil, Bool.and_self, Bool.and_true, Bool.true_and, Bool.not_true, Bool.not_false, Bool.or_false, Bool.false_or, cond_true, cond_false, okPack, okPut, okPutBlks, okPutCells, q_isP, q_isAg, q_isBox, q_isArr, q_int, q_bool, q_str, q_sl, q_nils, e_exit, e_ret, e_nrm, e_ret_exit, e_exit_ret, e_nrm_exit, e_nrm_ret, e_exit_nrm, e_ret_nrm, Nat.zero_add, Nat.reduceAdd, noslR, noslP, noslB, noslA, List.all_cons, List.all_nil]
    rw [c_Range hL k4 (by omega)]
    simp only [bnd_some, ctl_true, ctl_false, ctl_and, ctl_or', ctl_or2, x_toPV, x_toCs, x_toCs2, x_toEs, x_bEs, x_bCs, x_aPV, x_aCs, x_int, x_bool, x_str, x_es, x_esn, nth_0, nth_1, nth_2, nth_3, nth_4, nth_5, nth_6, nth_7, nth_8, nth_9, y_nil, y_int, y_bool, y_str, y_sl, y_nils, y_agg, y_ownp, y_own, z_nil, z_int, z_bool, z_str, z_sl, z_nils, b_nil, b_arr, b_box1, b_box2, b_box3, b_box4, List.map_cons, List.map_nil, Bool.and_self, Bool.and_true, Bool.true_and, Bool.not_true, Bool.not_false, Bool.or_false, Bool.false_or, cond_true, cond_false, okPack, okPut, okPutBlks, okPutCells, q_isP, q_isAg, q_isBox, q_isArr, q_int, q_bool, q_str, q_sl, q_nils, e_exit, e_ret, e_nrm, e_ret_exit, e_exit_ret, e_nrm_exit, e_nrm_ret, e_exit_nrm, e_ret_nrm, Nat.zero_add, Nat.reduceAdd, noslR, noslP, noslB, noslA, List.all_cons, List.all_nil]
    rw [c_N hL k5 _ (by omega)]
    simp only [bnd_some, ctl_true, ctl_false, ctl_and, ctl_or', ctl_or2, x_toPV, x_toCs, x_toCs2, x_toEs, x_bEs, x_bCs, x_aPV, x_aCs, x_int, x_bool, x_str, x_es, x_esn, nth_0, nth_1, nth_2, nth_3, nth_4, nth_5, nth_6, nth_7, nth_8, nth_9, y_nil, y_int, y_bool, y_str, y_sl, y_nils, y_agg, y_ownp, y_own, z_nil, z_int, z_bool, z_str, z_sl, z_nils, b_nil, b_arr, b_box1, b_box2, b_box3, b_box4, List.map_cons, List.map_nil, Bool.and_self, Bool.and_true, Bool.true_and, Bool.not_true, Bool.not_false, Bool.or_false, Bool.false_or, cond_true, cond_false, okPack, okPut, okPutBlks, okPutCells, q_isP, q_isAg, q_isBox, q_isArr, q_int, q_bool, q_str, q_sl, q_nils, e_exit, e_ret, e_nrm, e_ret_exit, e_exit_ret, e_nrm_exit, e_nrm_ret, e_exit_nrm, e_ret_nrm, Nat.zero_add, Nat.reduceAdd, noslR, noslP, noslB, noslA, List.all_cons, List.all_nil]
    have q1 := vRange_bounds (L := L) (k := at' L (at' L (at' L k))) (lo := 0) (hi := 50000) (by omega)
    have q2 := vRange_bounds (L := L) (k := at' L (at' L (at' L (at' L k)))) (lo := 0) (hi := 6000) (by omega)
    have q3 := vN_bounds (L := L) (k := at' L (at' L (at' L (at' L (at' L k))))) (n := 3600) (by omega)
    exact ⟨⟨6, _, _, _, _, _⟩, _, val6 p1 p2 q1 q2 ⟨q3.1, by omega⟩, k6', rfl⟩

theorem c_Odd {L : List Int} {k : Nat} (hL : L.length ≤ 600) (hk : k ≤ 600) : ∃ v : Int, denC E 30 [AV.t (.ptr 0 0)] [src L k] = some ([RV.p (PV.int .i64 v)], [src L (at' L k)]) := by
  rw [denC_eq, r30]
  have l1 : ([[PV.int IntKind.i64 (-1)], [PV.int IntKind.i64 0], [PV.int IntKind.i64 1], [PV.int IntKind.i64 4611686018427387904], [PV.int IntKind.i64 (-4611686018427387904)], [PV.int IntKind.i64 9223372036854775807], [PV.int IntKind.i64 (-9223372036854775808)],
      [PV.int IntKind.i64 1000000000], [PV.int IntKind.i64 1000000001], [PV.int IntKind.i64 (-1000000001)], [PV.int IntKind.i64 3600], [PV.int IntKind.i64 1800], [PV.int IntKind.i64 100000000], [PV.int IntKind.i64 100000001], [PV.int IntKind.i64 5001]] : List (List PV)) =
      intsK .i64 [-1, 0, 1, 4611686018427387904, -4611686018427387904, 9223372036854775807, -9223372036854775808, 1000000000, 1000000001, -1000000001, 3600, 1800, 100000000, 100000001, 5001] := rfl
  rw [l1, c_Pick hL hk (by decide)]
  simp only [bnd_some, ctl_true, ctl_false, ctl_and, ctl_or', ctl_or2, x_toPV, x_toCs, x_toCs2, x_toEs, x_bEs, x_bCs, x_aPV, x_aCs, x_int, x_bool, x_str, x_es, x_esn, nth_0, nth_1, nth_2, nth_3, nth_4, nth_5, nth_6, nth_7, nth_8, nth_9, y_nil, y_int, y_bool, y_str, y_sl, y_nils, y_agg, y_ownp, y_own, z_nil, z_int, z_bool, z_str, z_sl, z_nils, b_nil, b_arr, b_box1, b_box2, b_box3, b_box4, List.map_cons, List.map_nil, Bool.and_self, Bool.and_true, Bool.true_and, Bool.not_true, Bool.not_false, Bool.or_false, Bool.false_or, cond_true, cond_false, okPack, okPut, okPutBlks, okPutCells, q_isP, q_isAg, q_isBox, q_isArr, q_int, q_bool, q_str, q_sl, q_nils, e_exit, e_ret, e_nrm, e_ret_exit, e_exit_ret, e_nrm_exit, e_nrm_ret, e_exit_nrm, e_ret_nrm, Nat.zero_add, Nat.reduceAdd, noslR, noslP, noslB, noslA, List.all_cons, List.all_nil]
  exact ⟨_, rfl⟩

theorem c_Bent {L : List Int} {k : Nat} (hL : L.length ≤ 600) (hk : k ≤ 600) (x : Sig) : ∃ (y : Sig) (k' : Nat), k' ≤ 600 ∧ denC E 11 [AV.t (.ptr 0 0), AV.agg (sgC x)] [src L k] = some ([RV.agg (sgC y)], [src L k']) := by
  have k1 := at'_le hL hk
  have k2 := at'_le hL k1
  have hb := vN_bounds (L := L) (k := k) (n := 6) (by omega)
  obtain ⟨v, hv⟩ := c_Odd hL k1
  rw [denC_eq, r11, c_N hL hk _ (by omega)]
  simp only [bnd_some, ctl_true, ctl_false, ctl_and, ctl_or', ctl_or2, x_toPV, x_toCs, x_toCs2, x_toEs, x_bEs, x_bCs, x_aPV, x_aCs, x_int, x_bool, x_str, x_es, x_esn, nth_0, nth_1, nth_2, nth_3, nth_4, nth_5, nth_6, nth_7, nth_8, nth_9, y_nil, y_int, y_bool, y_str, y_sl, y_nils, y_agg, y_ownp, y_own, z_nil, z_int, z_bool, z_str, z_sl, z_nils, b_nil, b_arr, b_box1, b_box2, b_box3, b_box4, List.map_cons, List.map_nil, Bool.and_self, Bool.and_true, Bool.true_and, Bool.not_true, Bool.not_false, Bool.or_false, Bool.false_or, cond_true, cond_false, okPack, okPut, okPutBlks, okPutCells, q_isP, q_isAg, q_isBox, q_isArr, q_int, q_bool, q_str, q_sl, q_nils, e_exit, e_ret, e_nrm, e_ret_exit, e_exit_ret, e_nrm_exit, e_nrm_ret, e_exit_nrm, e_ret_nrm, Nat.zero_add, Nat.reduceAdd, noslR, noslP, noslB, noslA, List.all_cons, List.all_nil]
  have l1 : ([[PV.int IntKind.i64 (-1)], [PV.int IntKind.i64 100], [PV.int IntKind.i64 50]] : List (List PV)) = intsK .i64 [-1, 100, 50] := rfl
  rw [c_Range hL k1 (by omega), l1, c_Pick hL k1 (by decide), hv]
  simp only [bnd_some, ctl_true, ctl_false, ctl_and, ctl_or', ctl_or2, x_toPV, x_toCs, x_toCs2, x_toEs, x_bEs, x_bCs, x_aPV, x_aCs, x_int, x_bool, x_str, x_es, x_esn, nth_0, nth_1, nth_2, nth_3, nth_4, nth_5, nth_6, nth_7, nth_8, nth_9, y_nil, y_int, y_bool, y_str, y_sl, y_nils, y_agg, y_ownp, y_own, z_nil, z_int, z_bool, z_str, z_sl, z_nils, b_nil, b_arr, b_box1, b_box2, b_box3, b_box4, List.map_cons, List.map_nil, Bool.and_self, Bool.and_true, Bool.true_and, Bool.not_true, Bool.not_false, Bool.or_false, Bool.false_or, cond_true, cond_false, okPack, okPut, okPutBlks, okPutCells, q_isP, q_isAg, q_isBox, q_isArr, q_int, q_bool, q_str, q_sl, q_nils, e_exit, e_ret, e_nrm, e_ret_exit, e_exit_ret, e_nrm_exit, e_nrm_ret, e_exit_nrm, e_ret_nrm, Nat.zero_add, Nat.reduceAdd, noslR, noslP, noslB, noslA, List.all_cons, List.all_nil]
  cases vN L k 6 == 0 with
  | true => simp only [ctl_true, ctl_false]; exact ⟨⟨_, x.s, x.t, x.a, x.b, x.c⟩, _, k2, rfl⟩
  | false =>
    cases vN L k 6 == 1 with
    | true => simp only [ctl_true, ctl_false]; exact ⟨⟨x.k, vPick L (at' L k) [-1, 100, 50], x.t, x.a, x.b, x.c⟩, _, k2, rfl⟩
    | false =>
      cases vN L k 6 == 2 with
      | true => simp only [ctl_true, ctl_false]; exact ⟨⟨x.k, x.s, v, x.a, x.b, x.c⟩, _, k2, rfl⟩
      | false =>
        cases vN L k 6 == 3 with
        | true => simp only [ctl_true, ctl_false]; exact ⟨⟨x.k, x.s, x.t, v, x.b, x.c⟩, _, k2, rfl⟩
        | false =>
          cases vN L k 6 == 4 with
          | true => simp only [ctl_true, ctl_false]; exact ⟨⟨x.k, x.s, x.t, x.a, v, x.c⟩, _, k2, rfl⟩
          | false => simp only [ctl_true, ctl_false]; exact ⟨⟨x.k, x.s, x.t, x.a, x.b, v⟩, _, k2, rfl⟩

theorem wrP_ok {x : Sig} (h : valS x = true) : wrP x = (.sl 1 (strsK (wr x)), 0) := by unfold wrP; rw [if_pos h]

theorem itoa7 : Lib.itoa (-7) = [45, 55] := by
  unfold Lib.itoa; rw [if_pos (by omega), show Int.natAbs (-7) = 7 from rfl, dec_small (by omega)]; rfl

theorem c_sane6 : denC E 10 [] [] = some ([RV.p (PV.bool true)], []) := by
  rw [denC_eq, r10]
  have hv : valS ⟨1, 2, 17, 100, -50, 30⟩ = true := by decide +kernel
  obtain ⟨h1, h2, h3, h4, _⟩ := rd_wr hv
  have hw : wr ⟨1, 2, 17, 100, -50, 30⟩ = [[70, 73, 88], [50], [49, 55], [49, 48, 48], [45, 53, 48], [51, 48]] := by
    have e1 : wr ⟨1, 2, 17, 100, -50, 30⟩ = [[70, 73, 88], Lib.itoa 2, Lib.itoa 17, Lib.itoa 100, Lib.itoa (-50), Lib.itoa 30] := rfl
    rw [e1]
    have d (n : Int) (m : Nat) (h : n = m) : Lib.itoa n = Lib.decDigits m := by subst h; unfold Lib.itoa; rw [if_neg (by omega), Int.toNat_natCast]
    rw [d 2 2 rfl, d 17 17 rfl, d 100 100 rfl, d 30 30 rfl, dec_small (by omega), dec_big (u := 17) (by omega), dec_big (u := 100) (by omega), dec_big (u := 30) (by omega), dec_small (u := 17 / 10) (by omega), dec_big (u := 100 / 10) (by omega), dec_small (u := 30 / 10) (by omega), dec_small (u := 100 / 10 / 10) (by omega)]
    have e5 : Lib.itoa (-50) = [45, 53, 48] := by
      unfold Lib.itoa; rw [if_pos (by omega), show Int.natAbs (-50) = 50 from rfl, dec_big (by omega), dec_small (by omega)]; rfl
    rw [e5]; rfl
  have hc := c_Write ⟨1, 2, 17, 100, -50, 30⟩
  rw [wrP_ok hv] at hc
  have hr := c_Read (wr ⟨1, 2, 17, 100, -50, 30⟩) (by omega) (by rw [hw]; decide)
  rw [h1] at hr
  have hS := c_SValid ⟨1, 2, 17, 100, -50, 30⟩
  rw [hv] at hS
  simp only [sgC] at hc hS
  rw [hc]
  simp only [bnd_some, ctl_true, ctl_false, ctl_and, ctl_or', ctl_or2, x_toPV, x_toCs, x_toCs2, x_toEs, x_bEs, x_bCs, x_aPV, x_aCs, x_int, x_bool, x_str, x_es, x_esn, nth_0, nth_1, nth_2, nth_3, nth_4, nth_5, nth_6, nth_7, nth_8, nth_9, y_nil, y_int, y_bool, y_str, y_sl, y_nils, y_agg, y_ownp, y_own, z_nil, z_int, z_bool, z_str, z_sl, z_nils, b_nil, b_arr, b_box1, b_box2, b_box3, b_box4, List.map_cons, List.map_nil, Bool.and_self, Bool.and_true, Bool.true_and, Bool.not_true, Bool.not_false, Bool.or_false, Bool.false_or, cond_true, cond_false, okPack, okPut, okPutBlks, okPutCells, q_isP, q_isAg, q_isBox, q_isArr, q_int, q_bool, q_str, q_sl, q_nils, e_exit, e_ret, e_nrm, e_ret_exit, e_exit_ret, e_nrm_exit, e_nrm_ret, e_exit_nrm, e_ret_nrm, Nat.zero_add, Nat.reduceAdd, noslR, noslP, noslB, noslA, List.all_cons, List.all_nil]
  rw [hr]
  unfold rdR
  simp only [sgC, bnd_some, ctl_true, ctl_false, ctl_and, ctl_or', ctl_or2, x_toPV, x_toCs, x_toCs2, x_toEs, x_bEs, x_bCs, x_aPV, x_aCs, x_int, x_bool, x_str, x_es, x_esn, nth_0, nth_1, nth_2, nth_3, nth_4, nth_5, nth_6, nth_7, nth_8, nth_9, y_nil, y_int, y_bool, y_str, y_sl, y_nils, y_agg, y_ownp, y_own, z_nil, z_int, z_bool, z_str, z_sl, z_nils, b_nil, b_arr, b_box1, b_box2, b_box3, b_box4, List.map_cons, List.map_nil, Bool.and_self, Bool.and_true, Bool.true_and, Bool.not_true, Bool.not_false, Bool.or_false, Bool.false_or, cond_true, cond_false, okPack, okPut, okPutBlks, okPutCells, q_isP, q_isAg, q_isBox, q_isArr, q_int, q_bool, q_str, q_sl, q_nils, e_exit, e_ret, e_nrm, e_ret_exit, e_exit_ret, e_nrm_exit, e_nrm_ret, e_exit_nrm, e_ret_nrm, Nat.zero_add, Nat.reduceAdd, noslR, noslP, noslB, noslA, List.all_cons, List.all_nil]
  rw [show ([[PV.str [70, 73, 88]], [PV.str [50]], [PV.str [49, 55]], [PV.str [49, 48, 48]], [PV.str [45, 53, 48]], [PV.str [51, 48]]] : List (List PV)) = strsK [[70, 73, 88], [50], [49, 55], [49, 48, 48], [45, 53, 48], [51, 48]] from rfl, hw, c_Texts _ _ (by decide), hS, c_STx (-7) (by omega), itoa7]
  simp only [beq_self_eq_true, bnd_some, ctl_true, ctl_false, ctl_and, ctl_or', ctl_or2, x_toPV, x_toCs, x_toCs2, x_toEs, x_bEs, x_bCs, x_aPV, x_aCs, x_int, x_bool, x_str, x_es, x_esn, nth_0, nth_1, nth_2, nth_3, nth_4, nth_5, nth_6, nth_7, nth_8, nth_9, y_nil, y_int, y_bool, y_str, y_sl, y_nils, y_agg, y_ownp, y_own, z_nil, z_int, z_bool, z_str, z_sl, z_nils, b_nil, b_arr, b_box1, b_box2, b_box3, b_box4, List.map_cons, List.map_nil, Bool.and_self, Bool.and_true, Bool.true_and, Bool.not_true, Bool.not_false, Bool.or_false, Bool.false_or, cond_true, cond_false, okPack, okPut, okPutBlks, okPutCells, q_isP, q_isAg, q_isBox, q_isArr, q_int, q_bool, q_str, q_sl, q_nils, e_exit, e_ret, e_nrm, e_ret_exit, e_exit_ret, e_nrm_exit, e_nrm_ret, e_exit_nrm, e_ret_nrm, Nat.zero_add, Nat.reduceAdd, noslR, noslP, noslB, noslA, List.all_cons, List.all_nil]

end Go.Proofs.YtcopadohnlcheaaDoor.Vm
