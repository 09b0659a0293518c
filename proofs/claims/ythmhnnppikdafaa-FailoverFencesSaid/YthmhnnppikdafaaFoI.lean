/- Chapter 33: contracts: full, Reach, Controllers, sane. -/
import Derived.Test.YthmhnnppikdafaaFoH
namespace Go.Proofs.Ythmhnnppikdafaa.Vm
set_option linter.unusedVariables false
set_option linter.unusedSimpArgs false

def tabR (X : List (List Bool)) : List (Int × MV) := X.map fun r => ((0 : Int), MV.row (brow r))
theorem tabR_length (X) : (tabR X).length = X.length := by simp [tabR]
theorem tabR_get {X : List (List Bool)} {i : Nat} (h : i < X.length) : nth (0, MV.gone) (tabR X) i = ((0 : Int), MV.row (brow (X.getD i []))) := by
  rw [nth_eq]; simp [tabR, List.getD, h]
theorem tabR_set {X : List (List Bool)} {i : Nat} (r : List Bool) : upd (0, MV.row (brow r)) (upd (0, MV.gone) (tabR X) i) i = tabR (X.set i r) := by
  rw [upd_eq, upd_eq, List.set_set]; simp [tabR, List.map_set]
theorem tabR_rch (X : List (List Bool)) : List.map (fun (x : Int × MV) => [MV.frz 1 x.snd]) (tabR X) = rch X := by simp [tabR, rch, MV.frz]
theorem tabR_new (n : Nat) : reps ((0 : Int), MV.row []) n = tabR (List.replicate n []) := by rw [reps_eq]; simp [tabR]
theorem m_es (r) : (MV.row r).toEs = r := rfl
theorem m_row (r) : (MV.row r).isRow = true := rfl
theorem setD_eq {X : List (List Bool)} {i : Nat} {r : List Bool} (h : i < X.length) : (X.set i r).getD i [] = r := by simp [List.getD, h]
theorem setD_ne {X : List (List Bool)} {i j : Nat} {r : List Bool} (h : i ≠ j) : (X.set i r).getD j [] = X.getD j [] := by simp [List.getD, List.getElem?_set, h]

theorem full_in {n : Nat} (hn : n ≤ 5) {i : Nat} {y : Int} : ∀ (m k : Nat) (X : List (List Bool)), k + m = n → i < X.length → (X.getD i []).length ≤ k →
    lp E (denC E) 17 0 [] 2 { vals := [AV.int .i64 n, AV.int .i64 i, AV.int .i64 k, AV.int .i64 y, AV.int .i64 i], blks := [Blk.tab false 1 (tabR X)] } =
      some (Ex.exit 2, { vals := [AV.int .i64 n, AV.int .i64 y, AV.int .i64 i], blks := [Blk.tab false 1 (tabR (X.set i (X.getD i [] ++ List.replicate m true)))] }) := by
  intro m
  induction m with
  | zero =>
    intro k X hk hi hl
    rw [r17_2, ctl_dec, if_neg (by omega)]
    have : X.set i (X.getD i [] ++ List.replicate 0 true) = X := by simp [List.getD, hi]
    rw [this]
  | succ m ih =>
    intro k X hk hi hl
    have e1 : (leB 0 (i : Int) && ltB (i : Int) ((tabR X).length : Int)) = true := by rw [tabR_length]; exact in_len hi
    have e2 : (leB 0 (i : Int) && ltB (i : Int) ((upd (0, MV.gone) (tabR X) i).length : Int)) = true := by rw [upd_eq, List.length_set, tabR_length]; exact in_len hi
    have e3 : leN (((brow (X.getD i [])).length + 1) * 1) 140737488355328 = true := by rw [List.length_map]; simp only [decide_eq_true_eq]; omega
    have e4 : brow (X.getD i []) ++ [[PV.bool true]] = brow (X.getD i [] ++ [true]) := by simp
    rw [r17_2, ctl_dec, if_pos (by omega), Int.toNat_natCast, e1, e2, tabR_get hi, m_es, m_row, e3, e4, tabR_set, w64 (n := (k : Int) + 1) (by omega), succ_cast]
    simp only [ctl_true]
    rw [ih (k + 1) _ (by omega) (by simpa using hi) (by rw [setD_eq hi, List.length_append]; simp only [List.length_singleton]; omega), setD_eq hi, List.set_set, List.append_assoc]
    rfl

theorem full_out {n : Nat} (hn : n ≤ 5) : ∀ (m i : Nat) (X : List (List Bool)), i + m = n → X.length = n → (∀ j, i ≤ j → X.getD j [] = []) → (∀ j, j < i → X.getD j [] = List.replicate n true) →
    ∃ Y, Y.length = n ∧ (∀ j, j < n → Y.getD j [] = List.replicate n true) ∧ lp E (denC E) 17 0 [] 0 { vals := [AV.int .i64 n, AV.int .i64 n, AV.int .i64 i], blks := [Blk.tab false 1 (tabR X)] } =
      some (Ex.exit 0, { vals := [], blks := [Blk.tab false 1 (tabR Y)] }) := by
  intro m
  induction m with
  | zero =>
    intro i X hi hX h1 h2
    rw [r17_0, ctl_dec, if_neg (by omega)]
    exact ⟨X, hX, fun j hj => h2 j (by omega), rfl⟩
  | succ m ih =>
    intro i X hi hX h1 h2
    have hil : i < X.length := by omega
    have h := full_in hn (y := n) (i := i) n 0 X (by omega) hil (by rw [h1 i (by omega)]; simp)
    rw [nc0, h1 i (by omega), List.nil_append] at h
    rw [r17_0, ctl_dec, if_pos (by omega), h]
    simp only [bnd_some, ctl_true, ctl_false, ctl_and, ctl_or', ctl_or2, x_toPV, x_toCs, x_toCs2, x_toEs, x_bEs, x_bCs, x_aPV, x_aCs, x_int, x_bool, x_str, x_es, x_esn, nth_0, nth_1, nth_2, nth_3, nth_4, nth_5, nth_6, nth_7, nth_8, nth_9, y_nil, y_int, y_bool, y_str, y_sl, y_nils, y_agg, y_ownp, y_own, z_nil, z_int, z_bool, z_str, z_sl, z_nils, b_nil, b_arr, b_box1, b_box2, b_box3, b_box4, List.map_cons, List.map_nil, Bool.and_self, Bool.and_true, Bool.true_and, Bool.not_true, Bool.not_false, Bool.or_false, Bool.false_or, cond_true, cond_false, okPack, okPut, okPutBlks, okPutCells, q_isP, q_isAg, q_isBox, q_isArr, q_int, q_bool, q_str, q_sl, q_nils, e_exit, e_ret, e_nrm, e_ret_exit, e_exit_ret, e_nrm_exit, e_nrm_ret, e_exit_nrm, e_ret_nrm, Nat.zero_add, Nat.reduceAdd, noslR, noslP, noslB, noslA, List.all_cons, List.all_nil, iT_f1, k_kvs]
    rw [w64 (n := (i : Int) + 1) (by omega), succ_cast]
    refine ih (i + 1) _ (by omega) (by simpa using hX) (fun j hj => ?_) fun j hj => ?_
    · rw [setD_ne (by omega)]; exact h1 j (by omega)
    · by_cases he : j = i
      · subst he; rw [setD_eq hil]
      · rw [setD_ne (by omega)]; exact h2 j (by omega)

theorem c_full {n : Nat} (hn : n ≤ 5) : ∃ R : List (List Bool), R.length = n ∧ (∀ j, j < n → R.getD j [] = List.replicate n true) ∧ denC E 17 [AV.int .i64 (n : Int)] [] = some ([RV.p (PV.sl 1 (rch R))], []) := by
  obtain ⟨Y, h1, h2, h⟩ := full_out hn n 0 (List.replicate n []) (by omega) (by simp) (fun j _ => by simp only [List.getD, List.getElem?_replicate]; split <;> rfl) (fun j hj => by omega)
  refine ⟨Y, h1, h2, ?_⟩
  have e1 : (leB 0 (n : Int) && (leB (n : Int) n && (leB (n : Int) 9223372036854775807 && leB ((n : Int) * 24) 140737488355328))) = true := by
    simp only [Bool.and_eq_true, decide_eq_true_eq]; omega
  rw [nc0] at h
  rw [denC_eq, r17, e1, ctl_true, Int.toNat_natCast, tabR_new, tabR_length, List.length_replicate, h]
  simp only [bnd_some, ctl_true, ctl_false, ctl_and, ctl_or', ctl_or2, x_toPV, x_toCs, x_toCs2, x_toEs, x_bEs, x_bCs, x_aPV, x_aCs, x_int, x_bool, x_str, x_es, x_esn, nth_0, nth_1, nth_2, nth_3, nth_4, nth_5, nth_6, nth_7, nth_8, nth_9, y_nil, y_int, y_bool, y_str, y_sl, y_nils, y_agg, y_ownp, y_own, z_nil, z_int, z_bool, z_str, z_sl, z_nils, b_nil, b_arr, b_box1, b_box2, b_box3, b_box4, List.map_cons, List.map_nil, Bool.and_self, Bool.and_true, Bool.true_and, Bool.not_true, Bool.not_false, Bool.or_false, Bool.false_or, cond_true, cond_false, okPack, okPut, okPutBlks, okPutCells, q_isP, q_isAg, q_isBox, q_isArr, q_int, q_bool, q_str, q_sl, q_nils, e_exit, e_ret, e_nrm, e_ret_exit, e_exit_ret, e_nrm_exit, e_nrm_ret, e_exit_nrm, e_ret_nrm, Nat.zero_add, Nat.reduceAdd, noslR, noslP, noslB, noslA, List.all_cons, List.all_nil, iT_f1, k_kvs]
  rw [tabR_rch]

theorem full_sq {l : List Ct} {R : List (List Bool)} (h1 : 1 ≤ l.length) (h5 : l.length ≤ 5) (hR : R.length = l.length) (h : ∀ j, j < l.length → R.getD j [] = List.replicate l.length true) : Sq l R :=
  ⟨h1, h5, hR, fun i hi => by rw [h i hi]; simp⟩

/-! ### The example of the chapter -/
def F3 : List (List Bool) := [[true, true, true], [true, true, true], [true, true, true]]
theorem c_full3 : denC E 17 [AV.int .i64 3] [] = some ([RV.p (PV.sl 1 (rch F3))], []) := by
  obtain ⟨R, h1, h2, h⟩ := c_full (n := 3) (by omega)
  have : R = F3 := by
    match R, h1 with
    | [a, b, c], _ =>
      have ha := h2 0 (by omega)
      have hb := h2 1 (by omega)
      have hc := h2 2 (by omega)
      simp only [List.getD_cons_zero, List.getD_cons_succ] at ha hb hc
      rw [ha, hb, hc]
      rfl
  rw [this] at h
  exact h
theorem F3_sq {l : List Ct} (h : l.length = 3) : Sq l F3 := ⟨by omega, by omega, by rw [h]; rfl, fun i hi => by
  rw [h] at hi ⊢
  match i, hi with
  | 0, _ => rfl
  | 1, _ => rfl
  | 2, _ => rfl⟩
theorem c_Tick3 (a b c : Ct) {t : Int} (o : List Ct) (ht : 0 ≤ t ∧ t ≤ 2147483648) (ha : okC t a) (hb : okC t b) (hc : okC t c) (ho : electM (t3 [a, b, c] F3 t) F3 t 2 = some o) :
    denC E 13 [AV.sl 3 (ctrs [a, b, c]), AV.sl 1 (rch F3), AV.int .i64 t, AV.int .i64 2] [] = some ([RV.p (PV.sl 3 (ctrs o)), RV.p (PV.int .i64 0)], []) := by
  rw [c_Tick ⟨by simp, by simp, fun i hi => by
    match i, hi with
    | 0, _ => exact ha
    | 1, _ => exact hb
    | 2, _ => exact hc⟩ (F3_sq rfl) ht (by omega), ho]

abbrev P0 : List Ct := [⟨0, 0, 0⟩, ⟨0, 0, 0⟩, ⟨0, 0, 0⟩]
abbrev P3 : List Ct := [⟨1, 1, 2⟩, ⟨0, 1, 0⟩, ⟨0, 1, 0⟩]
abbrev P4 : List Ct := [⟨1, 1, 3⟩, ⟨0, 1, 3⟩, ⟨0, 1, 3⟩]
abbrev P5 : List Ct := [⟨2, 1, 3⟩, ⟨0, 1, 3⟩, ⟨0, 1, 3⟩]
abbrev P6 : List Ct := [⟨2, 1, 3⟩, ⟨1, 2, 5⟩, ⟨0, 2, 3⟩]
theorem e0 : electM (t3 P0 F3 0) F3 0 2 = some P0 := by decide +kernel
theorem e1 : electM (t3 P0 F3 1) F3 1 2 = some P0 := by decide +kernel
theorem e2 : electM (t3 P0 F3 2) F3 2 2 = some P3 := by decide +kernel
theorem e3 : electM (t3 P3 F3 3) F3 3 2 = some P4 := by decide +kernel
theorem e4 : electM (t3 P5 F3 4) F3 4 2 = some P5 := by decide +kernel
theorem e5 : electM (t3 P5 F3 5) F3 5 2 = some P6 := by decide +kernel

theorem sn_0 {a b c : Ct} {l' : List Ct} {t : Int} (ht : 0 ≤ t ∧ t ≤ 3) (hT : denC E 13 [AV.sl 3 (ctrs [a, b, c]), AV.sl 1 (rch F3), AV.int .i64 t, AV.int .i64 2] [] = some ([RV.p (PV.sl 3 (ctrs l')), RV.p (PV.int .i64 0)], [])) (hl : l'.length = 3) (ha : ((gt l' 0).st == 1) = leB 2 t) :
    lp E (denC E) 8 0 [] 0 { vals := [AV.sl 3 (ctrs [a, b, c]), AV.int .i64 0, AV.int .i64 t], blks := [] } = lp E (denC E) 8 0 [] 0 { vals := [AV.sl 3 (ctrs l'), AV.int .i64 0, AV.int .i64 (t + 1)], blks := [] } := by
  have e1 : ltB t 4 = true := by simp only [decide_eq_true_eq]; omega
  rw [r8_0, e1, c_full3]
  simp only [bnd_some, ctl_true, ctl_false, ctl_and, ctl_or', ctl_or2, x_toPV, x_toCs, x_toCs2, x_toEs, x_bEs, x_bCs, x_aPV, x_aCs, x_int, x_bool, x_str, x_es, x_esn, nth_0, nth_1, nth_2, nth_3, nth_4, nth_5, nth_6, nth_7, nth_8, nth_9, y_nil, y_int, y_bool, y_str, y_sl, y_nils, y_agg, y_ownp, y_own, z_nil, z_int, z_bool, z_str, z_sl, z_nils, b_nil, b_arr, b_box1, b_box2, b_box3, b_box4, List.map_cons, List.map_nil, Bool.and_self, Bool.and_true, Bool.true_and, Bool.not_true, Bool.not_false, Bool.or_false, Bool.false_or, cond_true, cond_false, okPack, okPut, okPutBlks, okPutCells, q_isP, q_isAg, q_isBox, q_isArr, q_int, q_bool, q_str, q_sl, q_nils, e_exit, e_ret, e_nrm, e_ret_exit, e_exit_ret, e_nrm_exit, e_nrm_ret, e_exit_nrm, e_ret_nrm, Nat.zero_add, Nat.reduceAdd, noslR, noslP, noslB, noslA, List.all_cons, List.all_nil, beq_self_eq_true]
  rw [hT]
  simp only [bnd_some, ctl_true, ctl_false, ctl_and, ctl_or', ctl_or2, x_toPV, x_toCs, x_toCs2, x_toEs, x_bEs, x_bCs, x_aPV, x_aCs, x_int, x_bool, x_str, x_es, x_esn, nth_0, nth_1, nth_2, nth_3, nth_4, nth_5, nth_6, nth_7, nth_8, nth_9, y_nil, y_int, y_bool, y_str, y_sl, y_nils, y_agg, y_ownp, y_own, z_nil, z_int, z_bool, z_str, z_sl, z_nils, b_nil, b_arr, b_box1, b_box2, b_box3, b_box4, List.map_cons, List.map_nil, Bool.and_self, Bool.and_true, Bool.true_and, Bool.not_true, Bool.not_false, Bool.or_false, Bool.false_or, cond_true, cond_false, okPack, okPut, okPutBlks, okPutCells, q_isP, q_isAg, q_isBox, q_isArr, q_int, q_bool, q_str, q_sl, q_nils, e_exit, e_ret, e_nrm, e_ret_exit, e_exit_ret, e_nrm_exit, e_nrm_ret, e_exit_nrm, e_ret_nrm, Nat.zero_add, Nat.reduceAdd, noslR, noslP, noslB, noslA, List.all_cons, List.all_nil]
  rw [ctrs_length, hl, ← nc0, getE_ctrs (by omega)]
  simp only [bnd_some, ctl_true, ctl_false, ctl_and, ctl_or', ctl_or2, x_toPV, x_toCs, x_toCs2, x_toEs, x_bEs, x_bCs, x_aPV, x_aCs, x_int, x_bool, x_str, x_es, x_esn, nth_0, nth_1, nth_2, nth_3, nth_4, nth_5, nth_6, nth_7, nth_8, nth_9, y_nil, y_int, y_bool, y_str, y_sl, y_nils, y_agg, y_ownp, y_own, z_nil, z_int, z_bool, z_str, z_sl, z_nils, b_nil, b_arr, b_box1, b_box2, b_box3, b_box4, List.map_cons, List.map_nil, Bool.and_self, Bool.and_true, Bool.true_and, Bool.not_true, Bool.not_false, Bool.or_false, Bool.false_or, cond_true, cond_false, okPack, okPut, okPutBlks, okPutCells, q_isP, q_isAg, q_isBox, q_isArr, q_int, q_bool, q_str, q_sl, q_nils, e_exit, e_ret, e_nrm, e_ret_exit, e_exit_ret, e_nrm_exit, e_nrm_ret, e_exit_nrm, e_ret_nrm, Nat.zero_add, Nat.reduceAdd, noslR, noslP, noslB, noslA, List.all_cons, List.all_nil]
  rw [ha, w64 (by omega)]
  cases leB 2 t <;> rfl

theorem sn_2 {L : List Ct} {a b c : Ct} {l' : List Ct} {t : Int} (ht : 0 ≤ t ∧ t ≤ 5) (hT : denC E 13 [AV.sl 3 (ctrs [a, b, c]), AV.sl 1 (rch F3), AV.int .i64 t, AV.int .i64 2] [] = some ([RV.p (PV.sl 3 (ctrs l')), RV.p (PV.int .i64 0)], [])) (hb : (b.st == 1) = false) :
    lp E (denC E) 8 0 [] 2 { vals := [AV.sl 3 (ctrs L), AV.int .i64 0, AV.sl 3 (ctrs [a, b, c]), AV.int .i64 0, AV.int .i64 t], blks := [] } = lp E (denC E) 8 0 [] 2 { vals := [AV.sl 3 (ctrs L), AV.int .i64 0, AV.sl 3 (ctrs l'), AV.int .i64 0, AV.int .i64 (t + 1)], blks := [] } := by
  have e1 : ltB t 6 = true := by simp only [decide_eq_true_eq]; omega
  have hg : getE (ctrs [a, b, c]) 1 = fun (K : List PV → Option Bool) => K (ctr b) := by
    funext K
    exact getE_ctrs (L := [a, b, c]) (i := 1) (by simp) K
  rw [r8_2, e1, hg, ctrs_length, c_full3]
  simp only [bnd_some, ctl_true, ctl_false, ctl_and, ctl_or', ctl_or2, x_toPV, x_toCs, x_toCs2, x_toEs, x_bEs, x_bCs, x_aPV, x_aCs, x_int, x_bool, x_str, x_es, x_esn, nth_0, nth_1, nth_2, nth_3, nth_4, nth_5, nth_6, nth_7, nth_8, nth_9, y_nil, y_int, y_bool, y_str, y_sl, y_nils, y_agg, y_ownp, y_own, z_nil, z_int, z_bool, z_str, z_sl, z_nils, b_nil, b_arr, b_box1, b_box2, b_box3, b_box4, List.map_cons, List.map_nil, Bool.and_self, Bool.and_true, Bool.true_and, Bool.not_true, Bool.not_false, Bool.or_false, Bool.false_or, cond_true, cond_false, okPack, okPut, okPutBlks, okPutCells, q_isP, q_isAg, q_isBox, q_isArr, q_int, q_bool, q_str, q_sl, q_nils, e_exit, e_ret, e_nrm, e_ret_exit, e_exit_ret, e_nrm_exit, e_nrm_ret, e_exit_nrm, e_ret_nrm, Nat.zero_add, Nat.reduceAdd, noslR, noslP, noslB, noslA, List.all_cons, List.all_nil, beq_self_eq_true]
  rw [hb, show ((([a, b, c] : List Ct).length : Int) != 3) = false from rfl, hT]
  simp only [bnd_some, ctl_true, ctl_false, ctl_and, ctl_or', ctl_or2, x_toPV, x_toCs, x_toCs2, x_toEs, x_bEs, x_bCs, x_aPV, x_aCs, x_int, x_bool, x_str, x_es, x_esn, nth_0, nth_1, nth_2, nth_3, nth_4, nth_5, nth_6, nth_7, nth_8, nth_9, y_nil, y_int, y_bool, y_str, y_sl, y_nils, y_agg, y_ownp, y_own, z_nil, z_int, z_bool, z_str, z_sl, z_nils, b_nil, b_arr, b_box1, b_box2, b_box3, b_box4, List.map_cons, List.map_nil, Bool.and_self, Bool.and_true, Bool.true_and, Bool.not_true, Bool.not_false, Bool.or_false, Bool.false_or, cond_true, cond_false, okPack, okPut, okPutBlks, okPutCells, q_isP, q_isAg, q_isBox, q_isArr, q_int, q_bool, q_str, q_sl, q_nils, e_exit, e_ret, e_nrm, e_ret_exit, e_exit_ret, e_nrm_exit, e_nrm_ret, e_exit_nrm, e_ret_nrm, Nat.zero_add, Nat.reduceAdd, noslR, noslP, noslB, noslA, List.all_cons, List.all_nil]
  rw [w64 (by omega)]

theorem c_sane : denC E 8 [] [] = some ([RV.p (PV.bool true)], []) := by
  have k0 := c_Tick3 ⟨0, 0, 0⟩ ⟨0, 0, 0⟩ ⟨0, 0, 0⟩ P0 (t := 0) (by omega) (by unfold okC; decide) (by unfold okC; decide) (by unfold okC; decide) e0
  have k1 := c_Tick3 ⟨0, 0, 0⟩ ⟨0, 0, 0⟩ ⟨0, 0, 0⟩ P0 (t := 1) (by omega) (by unfold okC; decide) (by unfold okC; decide) (by unfold okC; decide) e1
  have k2 := c_Tick3 ⟨0, 0, 0⟩ ⟨0, 0, 0⟩ ⟨0, 0, 0⟩ P3 (t := 2) (by omega) (by unfold okC; decide) (by unfold okC; decide) (by unfold okC; decide) e2
  have k3 := c_Tick3 ⟨1, 1, 2⟩ ⟨0, 1, 0⟩ ⟨0, 1, 0⟩ P4 (t := 3) (by omega) (by unfold okC; decide) (by unfold okC; decide) (by unfold okC; decide) e3
  have k4 := c_Tick3 ⟨2, 1, 3⟩ ⟨0, 1, 3⟩ ⟨0, 1, 3⟩ P5 (t := 4) (by omega) (by unfold okC; decide) (by unfold okC; decide) (by unfold okC; decide) e4
  have k5 := c_Tick3 ⟨2, 1, 3⟩ ⟨0, 1, 3⟩ ⟨0, 1, 3⟩ P6 (t := 5) (by omega) (by unfold okC; decide) (by unfold okC; decide) (by unfold okC; decide) e5
  have hn := c_FNew (n := 3) (by omega)
  have hl0 : lp E (denC E) 8 0 [] 0 { vals := [AV.sl 3 (ctrs P0), AV.int .i64 0, AV.int .i64 0], blks := [] } = some (Ex.exit 0, { vals := [AV.sl 3 (ctrs P4), AV.int .i64 0], blks := [] }) := by
    refine (sn_0 (by omega) k0 rfl rfl).trans ((sn_0 (t := 1) (by omega) k1 rfl rfl).trans ((sn_0 (t := 2) (by omega) k2 rfl rfl).trans ((sn_0 (t := 3) (by omega) k3 rfl rfl).trans ?_)))
    rw [r8_0]
    rfl
  have hl2 : lp E (denC E) 8 0 [] 2 { vals := [AV.sl 3 (ctrs P4), AV.int .i64 0, AV.sl 3 (ctrs P5), AV.int .i64 0, AV.int .i64 4], blks := [] } = some (Ex.exit 2, { vals := [AV.sl 3 (ctrs P4), AV.int .i64 0, AV.sl 3 (ctrs P6), AV.int .i64 0], blks := [] }) := by
    refine (sn_2 (by omega) k4 rfl).trans ((sn_2 (t := 5) (by omega) k5 rfl).trans ?_)
    rw [r8_2]
    rfl
  have hc : denC E 24 [AV.sl 3 (ctrs P4), AV.int .i64 0] [] = some ([RV.p (PV.sl 3 (ctrs P5)), RV.p (PV.int .i64 0)], []) := c_Crash (l := P4) (by simp) (by simp) (i := 0) (by simp) (by decide)
  rw [show (new 3) = P0 from rfl] at hn
  rw [denC_eq, r8, show denC E 10 [AV.int .i64 3] [] = _ from hn]
  simp only [bnd_some, ctl_true, ctl_false, ctl_and, ctl_or', ctl_or2, x_toPV, x_toCs, x_toCs2, x_toEs, x_bEs, x_bCs, x_aPV, x_aCs, x_int, x_bool, x_str, x_es, x_esn, nth_0, nth_1, nth_2, nth_3, nth_4, nth_5, nth_6, nth_7, nth_8, nth_9, y_nil, y_int, y_bool, y_str, y_sl, y_nils, y_agg, y_ownp, y_own, z_nil, z_int, z_bool, z_str, z_sl, z_nils, b_nil, b_arr, b_box1, b_box2, b_box3, b_box4, List.map_cons, List.map_nil, Bool.and_self, Bool.and_true, Bool.true_and, Bool.not_true, Bool.not_false, Bool.or_false, Bool.false_or, cond_true, cond_false, okPack, okPut, okPutBlks, okPutCells, q_isP, q_isAg, q_isBox, q_isArr, q_int, q_bool, q_str, q_sl, q_nils, e_exit, e_ret, e_nrm, e_ret_exit, e_exit_ret, e_nrm_exit, e_nrm_ret, e_exit_nrm, e_ret_nrm, Nat.zero_add, Nat.reduceAdd, noslR, noslP, noslB, noslA, List.all_cons, List.all_nil]
  rw [hl0]
  simp only [bnd_some, ctl_true, ctl_false, ctl_and, ctl_or', ctl_or2, x_toPV, x_toCs, x_toCs2, x_toEs, x_bEs, x_bCs, x_aPV, x_aCs, x_int, x_bool, x_str, x_es, x_esn, nth_0, nth_1, nth_2, nth_3, nth_4, nth_5, nth_6, nth_7, nth_8, nth_9, y_nil, y_int, y_bool, y_str, y_sl, y_nils, y_agg, y_ownp, y_own, z_nil, z_int, z_bool, z_str, z_sl, z_nils, b_nil, b_arr, b_box1, b_box2, b_box3, b_box4, List.map_cons, List.map_nil, Bool.and_self, Bool.and_true, Bool.true_and, Bool.not_true, Bool.not_false, Bool.or_false, Bool.false_or, cond_true, cond_false, okPack, okPut, okPutBlks, okPutCells, q_isP, q_isAg, q_isBox, q_isArr, q_int, q_bool, q_str, q_sl, q_nils, e_exit, e_ret, e_nrm, e_ret_exit, e_exit_ret, e_nrm_exit, e_nrm_ret, e_exit_nrm, e_ret_nrm, Nat.zero_add, Nat.reduceAdd, noslR, noslP, noslB, noslA, List.all_cons, List.all_nil]
  rw [hc]
  simp only [bnd_some, ctl_true, ctl_false, ctl_and, ctl_or', ctl_or2, x_toPV, x_toCs, x_toCs2, x_toEs, x_bEs, x_bCs, x_aPV, x_aCs, x_int, x_bool, x_str, x_es, x_esn, nth_0, nth_1, nth_2, nth_3, nth_4, nth_5, nth_6, nth_7, nth_8, nth_9, y_nil, y_int, y_bool, y_str, y_sl, y_nils, y_agg, y_ownp, y_own, z_nil, z_int, z_bool, z_str, z_sl, z_nils, b_nil, b_arr, b_box1, b_box2, b_box3, b_box4, List.map_cons, List.map_nil, Bool.and_self, Bool.and_true, Bool.true_and, Bool.not_true, Bool.not_false, Bool.or_false, Bool.false_or, cond_true, cond_false, okPack, okPut, okPutBlks, okPutCells, q_isP, q_isAg, q_isBox, q_isArr, q_int, q_bool, q_str, q_sl, q_nils, e_exit, e_ret, e_nrm, e_ret_exit, e_exit_ret, e_nrm_exit, e_nrm_ret, e_exit_nrm, e_ret_nrm, Nat.zero_add, Nat.reduceAdd, noslR, noslP, noslB, noslA, List.all_cons, List.all_nil]
  rw [hl2, c_Fence (by omega) (by omega)]
  simp only [bnd_some, ctl_true, ctl_false, ctl_and, ctl_or', ctl_or2, x_toPV, x_toCs, x_toCs2, x_toEs, x_bEs, x_bCs, x_aPV, x_aCs, x_int, x_bool, x_str, x_es, x_esn, nth_0, nth_1, nth_2, nth_3, nth_4, nth_5, nth_6, nth_7, nth_8, nth_9, y_nil, y_int, y_bool, y_str, y_sl, y_nils, y_agg, y_ownp, y_own, z_nil, z_int, z_bool, z_str, z_sl, z_nils, b_nil, b_arr, b_box1, b_box2, b_box3, b_box4, List.map_cons, List.map_nil, Bool.and_self, Bool.and_true, Bool.true_and, Bool.not_true, Bool.not_false, Bool.or_false, Bool.false_or, cond_true, cond_false, okPack, okPut, okPutBlks, okPutCells, q_isP, q_isAg, q_isBox, q_isArr, q_int, q_bool, q_str, q_sl, q_nils, e_exit, e_ret, e_nrm, e_ret_exit, e_exit_ret, e_nrm_exit, e_nrm_ret, e_exit_nrm, e_ret_nrm, Nat.zero_add, Nat.reduceAdd, noslR, noslP, noslB, noslA, List.all_cons, List.all_nil]
  rfl

end Go.Proofs.Ythmhnnppikdafaa.Vm
