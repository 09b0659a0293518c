/- Shares: all functions for all arguments, and the document's. -/
import Derived.Test.YtbacfgghneknjaaShareG
namespace Go.Proofs.Ytbacfgghneknjaa.Vm
set_option linter.unusedVariables false
set_option linter.unusedSimpArgs false

/-! ### In their ranges -/
def inB : List Shr → List Int → Bool
  | [], [] => true
  | s :: l, x :: xs => (leB s.lo x && leB x s.hi) && inB l xs
  | _, _ => false
theorem inB_iff : ∀ {l : List Shr} {x : List Int}, inB l x = true ↔ InR l x
  | [], [] => ⟨fun _ => trivial, fun _ => rfl⟩
  | [], _ :: _ => ⟨fun h => (by cases h), fun h => h.elim⟩
  | _ :: _, [] => ⟨fun h => (by cases h), fun h => h.elim⟩
  | s :: l, x :: xs => by
    have ih := inB_iff (l := l) (x := xs)
    unfold inB InR
    rw [Bool.and_eq_true, Bool.and_eq_true, ih]
    simp only [decide_eq_true_eq]
theorem inB_len {l : List Shr} {x : List Int} (h : x.length ≠ l.length) : inB l x = false := by
  cases hb : inB l x with
  | false => rfl
  | true => exact absurd (inB_iff.1 hb).length h

theorem rangedA_loop : ∀ (l : List Shr) (x : List Int) (p : List Shr) (px : List Int), px.length = p.length → x.length = l.length → (p ++ l).length ≤ 1000 →
    lp E (denC E) 34 0 [] 0 { vals := [AV.sl 1 (intsK .i64 (px ++ x)), AV.sl 3 (shK (p ++ l)), AV.int .i64 ((p ++ l).length : Int), AV.int .i64 (p.length : Int)], blks := [] } =
      ctl (inB l x) (some (Ex.exit 0, { vals := [], blks := [] })) (some (Ex.ret, { vals := [AV.bool false], blks := [] }))
  | [], [], p, px, hx, hxl, hl => by
    rw [r34_0, ctl_dec, if_neg (by simp)]
    rfl
  | s :: l, x :: xs, p, px, hx, hxl, hl => by
    simp only [List.length_append, List.length_cons] at hl
    rw [r34_0, ctl_dec, if_pos (by simp; omega)]
    simp only [getE_mid, getE_imid px x xs hx]
    have ih := rangedA_loop l xs (p ++ [s]) (px ++ [x]) (by simp [hx]) (by simpa using hxl) (by simp; omega)
    simp only [List.append_assoc, List.cons_append, List.nil_append, List.length_append, List.length_cons, List.length_nil] at ih
    simp only [List.length_append, List.length_cons, shC, bnd_some, ctl_true, ctl_false, ctl_and, ctl_or', ctl_or2, x_toPV, x_toCs, x_toCs2, x_toEs, x_bEs, x_bCs, x_aPV, x_aCs, x_int, x_bool, x_str, x_es, x_esn, nth_0, nth_1, nth_2, nth_3, nth_4, nth_5, nth_6, nth_7, nth_8, nth_9, y_nil, y_int, y_bool, y_str, y_sl, y_nils, y_agg, y_ownp, y_own, z_nil, z_int, z_bool, z_str, z_sl, z_nils, b_nil, b_arr, b_box1, b_box2, b_box3, b_box4, List.map_cons, List.map_nil, Bool.and_self, Bool.and_true, Bool.true_and, Bool.not_true, Bool.not_false, Bool.or_false, Bool.false_or, cond_true, cond_false, okPack, okPut, okPutBlks, okPutCells, q_isP, q_isAg, q_isBox, q_isArr, q_int, q_bool, q_str, q_sl, q_nils, e_exit, e_ret, e_nrm, e_ret_exit, e_exit_ret, e_nrm_exit, e_nrm_ret, e_exit_nrm, e_ret_nrm, Nat.zero_add, Nat.reduceAdd, noslR, noslP, noslB, noslA, List.all_cons, List.all_nil, Bool.true_or]
    rw [w64 (n := (p.length : Int) + 1) (by omega)]
    have e1 : ((p.length : Int) + 1) = ((p.length + (0 + 1) : Nat) : Int) := by omega
    have ei : inB (s :: l) (x :: xs) = ((leB s.lo x && leB x s.hi) && inB l xs) := rfl
    rw [e1, ih, ei]
    by_cases h1 : x < s.lo
    · have k1 : ltB x s.lo = true := by simpa using h1
      have k2 : leB s.lo x = false := by simp only [decide_eq_false_iff_not]; omega
      simp only [k1, k2, bnd_some, ctl_true, ctl_false, ctl_and, ctl_or', ctl_or2, x_toPV, x_toCs, x_toCs2, x_toEs, x_bEs, x_bCs, x_aPV, x_aCs, x_int, x_bool, x_str, x_es, x_esn, nth_0, nth_1, nth_2, nth_3, nth_4, nth_5, nth_6, nth_7, nth_8, nth_9, y_nil, y_int, y_bool, y_str, y_sl, y_nils, y_agg, y_ownp, y_own, z_nil, z_int, z_bool, z_str, z_sl, z_nils, b_nil, b_arr, b_box1, b_box2, b_box3, b_box4, List.map_cons, List.map_nil, Bool.and_self, Bool.and_true, Bool.true_and, Bool.not_true, Bool.not_false, Bool.or_false, Bool.false_or, cond_true, cond_false, okPack, okPut, okPutBlks, okPutCells, q_isP, q_isAg, q_isBox, q_isArr, q_int, q_bool, q_str, q_sl, q_nils, e_exit, e_ret, e_nrm, e_ret_exit, e_exit_ret, e_nrm_exit, e_nrm_ret, e_exit_nrm, e_ret_nrm, Nat.zero_add, Nat.reduceAdd, noslR, noslP, noslB, noslA, List.all_cons, List.all_nil, Bool.true_or, Bool.false_and]
    · have k1 : ltB x s.lo = false := by simpa using h1
      have k2 : leB s.lo x = true := by simp only [decide_eq_true_eq]; omega
      by_cases h2 : s.hi < x
      · have k3 : ltB s.hi x = true := by simpa using h2
        have k4 : leB x s.hi = false := by simp only [decide_eq_false_iff_not]; omega
        simp only [k1, k2, k3, k4, bnd_some, ctl_true, ctl_false, ctl_and, ctl_or', ctl_or2, x_toPV, x_toCs, x_toCs2, x_toEs, x_bEs, x_bCs, x_aPV, x_aCs, x_int, x_bool, x_str, x_es, x_esn, nth_0, nth_1, nth_2, nth_3, nth_4, nth_5, nth_6, nth_7, nth_8, nth_9, y_nil, y_int, y_bool, y_str, y_sl, y_nils, y_agg, y_ownp, y_own, z_nil, z_int, z_bool, z_str, z_sl, z_nils, b_nil, b_arr, b_box1, b_box2, b_box3, b_box4, List.map_cons, List.map_nil, Bool.and_self, Bool.and_true, Bool.true_and, Bool.not_true, Bool.not_false, Bool.or_false, Bool.false_or, cond_true, cond_false, okPack, okPut, okPutBlks, okPutCells, q_isP, q_isAg, q_isBox, q_isArr, q_int, q_bool, q_str, q_sl, q_nils, e_exit, e_ret, e_nrm, e_ret_exit, e_exit_ret, e_nrm_exit, e_nrm_ret, e_exit_nrm, e_ret_nrm, Nat.zero_add, Nat.reduceAdd, noslR, noslP, noslB, noslA, List.all_cons, List.all_nil, Bool.true_or, Bool.false_and]
      · have k3 : ltB s.hi x = false := by simpa using h2
        have k4 : leB x s.hi = true := by simp only [decide_eq_true_eq]; omega
        simp only [k1, k2, k3, k4, bnd_some, ctl_true, ctl_false, ctl_and, ctl_or', ctl_or2, x_toPV, x_toCs, x_toCs2, x_toEs, x_bEs, x_bCs, x_aPV, x_aCs, x_int, x_bool, x_str, x_es, x_esn, nth_0, nth_1, nth_2, nth_3, nth_4, nth_5, nth_6, nth_7, nth_8, nth_9, y_nil, y_int, y_bool, y_str, y_sl, y_nils, y_agg, y_ownp, y_own, z_nil, z_int, z_bool, z_str, z_sl, z_nils, b_nil, b_arr, b_box1, b_box2, b_box3, b_box4, List.map_cons, List.map_nil, Bool.and_self, Bool.and_true, Bool.true_and, Bool.not_true, Bool.not_false, Bool.or_false, Bool.false_or, cond_true, cond_false, okPack, okPut, okPutBlks, okPutCells, q_isP, q_isAg, q_isBox, q_isArr, q_int, q_bool, q_str, q_sl, q_nils, e_exit, e_ret, e_nrm, e_ret_exit, e_exit_ret, e_nrm_exit, e_nrm_ret, e_exit_nrm, e_ret_nrm, Nat.zero_add, Nat.reduceAdd, noslR, noslP, noslB, noslA, List.all_cons, List.all_nil, Bool.true_or]
  | [], _ :: _, _, _, _, h, _ => by cases h
  | _ :: _, [], _, _, _, h, _ => by cases h

theorem insideA_loop : ∀ (l : List Shr) (x : List Int) (p : List Shr) (px : List Int), px.length = p.length → x.length = l.length → (p ++ l).length ≤ 1000 →
    lp E (denC E) 38 0 [] 0 { vals := [AV.sl 1 (intsK .i64 (px ++ x)), AV.sl 3 (shK (p ++ l)), AV.int .i64 ((p ++ l).length : Int), AV.int .i64 (p.length : Int)], blks := [] } =
      ctl (inB l x) (some (Ex.exit 0, { vals := [], blks := [] })) (some (Ex.ret, { vals := [AV.bool false], blks := [] }))
  | [], [], p, px, hx, hxl, hl => by
    rw [r38_0, ctl_dec, if_neg (by simp)]
    rfl
  | s :: l, x :: xs, p, px, hx, hxl, hl => by
    simp only [List.length_append, List.length_cons] at hl
    rw [r38_0, ctl_dec, if_pos (by simp; omega)]
    simp only [getE_mid, getE_imid px x xs hx]
    have ih := insideA_loop l xs (p ++ [s]) (px ++ [x]) (by simp [hx]) (by simpa using hxl) (by simp; omega)
    simp only [List.append_assoc, List.cons_append, List.nil_append, List.length_append, List.length_cons, List.length_nil] at ih
    simp only [List.length_append, List.length_cons, shC, bnd_some, ctl_true, ctl_false, ctl_and, ctl_or', ctl_or2, x_toPV, x_toCs, x_toCs2, x_toEs, x_bEs, x_bCs, x_aPV, x_aCs, x_int, x_bool, x_str, x_es, x_esn, nth_0, nth_1, nth_2, nth_3, nth_4, nth_5, nth_6, nth_7, nth_8, nth_9, y_nil, y_int, y_bool, y_str, y_sl, y_nils, y_agg, y_ownp, y_own, z_nil, z_int, z_bool, z_str, z_sl, z_nils, b_nil, b_arr, b_box1, b_box2, b_box3, b_box4, List.map_cons, List.map_nil, Bool.and_self, Bool.and_true, Bool.true_and, Bool.not_true, Bool.not_false, Bool.or_false, Bool.false_or, cond_true, cond_false, okPack, okPut, okPutBlks, okPutCells, q_isP, q_isAg, q_isBox, q_isArr, q_int, q_bool, q_str, q_sl, q_nils, e_exit, e_ret, e_nrm, e_ret_exit, e_exit_ret, e_nrm_exit, e_nrm_ret, e_exit_nrm, e_ret_nrm, Nat.zero_add, Nat.reduceAdd, noslR, noslP, noslB, noslA, List.all_cons, List.all_nil, Bool.true_or]
    rw [w64 (n := (p.length : Int) + 1) (by omega)]
    have e1 : ((p.length : Int) + 1) = ((p.length + (0 + 1) : Nat) : Int) := by omega
    have ei : inB (s :: l) (x :: xs) = ((leB s.lo x && leB x s.hi) && inB l xs) := rfl
    rw [e1, ih, ei]
    by_cases h1 : x < s.lo
    · have k1 : ltB x s.lo = true := by simpa using h1
      have k2 : leB s.lo x = false := by simp only [decide_eq_false_iff_not]; omega
      simp only [k1, k2, bnd_some, ctl_true, ctl_false, ctl_and, ctl_or', ctl_or2, x_toPV, x_toCs, x_toCs2, x_toEs, x_bEs, x_bCs, x_aPV, x_aCs, x_int, x_bool, x_str, x_es, x_esn, nth_0, nth_1, nth_2, nth_3, nth_4, nth_5, nth_6, nth_7, nth_8, nth_9, y_nil, y_int, y_bool, y_str, y_sl, y_nils, y_agg, y_ownp, y_own, z_nil, z_int, z_bool, z_str, z_sl, z_nils, b_nil, b_arr, b_box1, b_box2, b_box3, b_box4, List.map_cons, List.map_nil, Bool.and_self, Bool.and_true, Bool.true_and, Bool.not_true, Bool.not_false, Bool.or_false, Bool.false_or, cond_true, cond_false, okPack, okPut, okPutBlks, okPutCells, q_isP, q_isAg, q_isBox, q_isArr, q_int, q_bool, q_str, q_sl, q_nils, e_exit, e_ret, e_nrm, e_ret_exit, e_exit_ret, e_nrm_exit, e_nrm_ret, e_exit_nrm, e_ret_nrm, Nat.zero_add, Nat.reduceAdd, noslR, noslP, noslB, noslA, List.all_cons, List.all_nil, Bool.true_or, Bool.false_and]
    · have k1 : ltB x s.lo = false := by simpa using h1
      have k2 : leB s.lo x = true := by simp only [decide_eq_true_eq]; omega
      by_cases h2 : s.hi < x
      · have k3 : ltB s.hi x = true := by simpa using h2
        have k4 : leB x s.hi = false := by simp only [decide_eq_false_iff_not]; omega
        simp only [k1, k2, k3, k4, bnd_some, ctl_true, ctl_false, ctl_and, ctl_or', ctl_or2, x_toPV, x_toCs, x_toCs2, x_toEs, x_bEs, x_bCs, x_aPV, x_aCs, x_int, x_bool, x_str, x_es, x_esn, nth_0, nth_1, nth_2, nth_3, nth_4, nth_5, nth_6, nth_7, nth_8, nth_9, y_nil, y_int, y_bool, y_str, y_sl, y_nils, y_agg, y_ownp, y_own, z_nil, z_int, z_bool, z_str, z_sl, z_nils, b_nil, b_arr, b_box1, b_box2, b_box3, b_box4, List.map_cons, List.map_nil, Bool.and_self, Bool.and_true, Bool.true_and, Bool.not_true, Bool.not_false, Bool.or_false, Bool.false_or, cond_true, cond_false, okPack, okPut, okPutBlks, okPutCells, q_isP, q_isAg, q_isBox, q_isArr, q_int, q_bool, q_str, q_sl, q_nils, e_exit, e_ret, e_nrm, e_ret_exit, e_exit_ret, e_nrm_exit, e_nrm_ret, e_exit_nrm, e_ret_nrm, Nat.zero_add, Nat.reduceAdd, noslR, noslP, noslB, noslA, List.all_cons, List.all_nil, Bool.true_or, Bool.false_and]
      · have k3 : ltB s.hi x = false := by simpa using h2
        have k4 : leB x s.hi = true := by simp only [decide_eq_true_eq]; omega
        simp only [k1, k2, k3, k4, bnd_some, ctl_true, ctl_false, ctl_and, ctl_or', ctl_or2, x_toPV, x_toCs, x_toCs2, x_toEs, x_bEs, x_bCs, x_aPV, x_aCs, x_int, x_bool, x_str, x_es, x_esn, nth_0, nth_1, nth_2, nth_3, nth_4, nth_5, nth_6, nth_7, nth_8, nth_9, y_nil, y_int, y_bool, y_str, y_sl, y_nils, y_agg, y_ownp, y_own, z_nil, z_int, z_bool, z_str, z_sl, z_nils, b_nil, b_arr, b_box1, b_box2, b_box3, b_box4, List.map_cons, List.map_nil, Bool.and_self, Bool.and_true, Bool.true_and, Bool.not_true, Bool.not_false, Bool.or_false, Bool.false_or, cond_true, cond_false, okPack, okPut, okPutBlks, okPutCells, q_isP, q_isAg, q_isBox, q_isArr, q_int, q_bool, q_str, q_sl, q_nils, e_exit, e_ret, e_nrm, e_ret_exit, e_exit_ret, e_nrm_exit, e_nrm_ret, e_exit_nrm, e_ret_nrm, Nat.zero_add, Nat.reduceAdd, noslR, noslP, noslB, noslA, List.all_cons, List.all_nil, Bool.true_or]
  | [], _ :: _, _, _, _, h, _ => by cases h
  | _ :: _, [], _, _, _, h, _ => by cases h

def rngB (l : List Shr) (x : List Int) : Bool := (validN l == 0) && inB l x
theorem rngB_iff {l : List Shr} {x : List Int} : rngB l x = true ↔ OkL l ∧ InR l x := by
  unfold rngB
  rw [Bool.and_eq_true, beq_iff_eq, validN_ok, inB_iff]
theorem c_rangedA (l : List Shr) (x : List Int) : denC E 34 [AV.sl 3 (shK l), AV.sl 1 (intsK .i64 x)] [] = some ([RV.p (PV.bool (rngB l x))], []) := by
  rw [denC_eq, r34, c_Valid, shK_length, intsK_length]
  unfold rngB
  by_cases h : OkL l
  · have hv := validN_ok.2 h
    rw [hv]
    have z : ((0 : Int) != 0) = false := rfl
    have z2 : ((0 : Int) == 0) = true := rfl
    by_cases hx : x.length = l.length
    · have f : ((x.length : Int) != (l.length : Int)) = false := by rw [hx]; simp
      have hl := rangedA_loop l x [] [] rfl hx (by have := h.1; simp; omega)
      simp only [List.nil_append, List.length_nil] at hl
      have e0 : (((0 : Nat)) : Int) = 0 := rfl
      rw [e0] at hl
      simp only [bnd_some, ctl_true, ctl_false, ctl_and, ctl_or', ctl_or2, x_toPV, x_toCs, x_toCs2, x_toEs, x_bEs, x_bCs, x_aPV, x_aCs, x_int, x_bool, x_str, x_es, x_esn, nth_0, nth_1, nth_2, nth_3, nth_4, nth_5, nth_6, nth_7, nth_8, nth_9, y_nil, y_int, y_bool, y_str, y_sl, y_nils, y_agg, y_ownp, y_own, z_nil, z_int, z_bool, z_str, z_sl, z_nils, b_nil, b_arr, b_box1, b_box2, b_box3, b_box4, List.map_cons, List.map_nil, Bool.and_self, Bool.and_true, Bool.true_and, Bool.not_true, Bool.not_false, Bool.or_false, Bool.false_or, cond_true, cond_false, okPack, okPut, okPutBlks, okPutCells, q_isP, q_isAg, q_isBox, q_isArr, q_int, q_bool, q_str, q_sl, q_nils, e_exit, e_ret, e_nrm, e_ret_exit, e_exit_ret, e_nrm_exit, e_nrm_ret, e_exit_nrm, e_ret_nrm, Nat.zero_add, Nat.reduceAdd, noslR, noslP, noslB, noslA, List.all_cons, List.all_nil, Bool.true_or, z, z2, f]
      rw [hl]
      cases inB l x <;> simp only [bnd_some, ctl_true, ctl_false, ctl_and, ctl_or', ctl_or2, x_toPV, x_toCs, x_toCs2, x_toEs, x_bEs, x_bCs, x_aPV, x_aCs, x_int, x_bool, x_str, x_es, x_esn, nth_0, nth_1, nth_2, nth_3, nth_4, nth_5, nth_6, nth_7, nth_8, nth_9, y_nil, y_int, y_bool, y_str, y_sl, y_nils, y_agg, y_ownp, y_own, z_nil, z_int, z_bool, z_str, z_sl, z_nils, b_nil, b_arr, b_box1, b_box2, b_box3, b_box4, List.map_cons, List.map_nil, Bool.and_self, Bool.and_true, Bool.true_and, Bool.not_true, Bool.not_false, Bool.or_false, Bool.false_or, cond_true, cond_false, okPack, okPut, okPutBlks, okPutCells, q_isP, q_isAg, q_isBox, q_isArr, q_int, q_bool, q_str, q_sl, q_nils, e_exit, e_ret, e_nrm, e_ret_exit, e_exit_ret, e_nrm_exit, e_nrm_ret, e_exit_nrm, e_ret_nrm, Nat.zero_add, Nat.reduceAdd, noslR, noslP, noslB, noslA, List.all_cons, List.all_nil, Bool.true_or]
    · have f : ((x.length : Int) != (l.length : Int)) = true := by simp only [bne_iff_ne]; omega
      simp only [bnd_some, ctl_true, ctl_false, ctl_and, ctl_or', ctl_or2, x_toPV, x_toCs, x_toCs2, x_toEs, x_bEs, x_bCs, x_aPV, x_aCs, x_int, x_bool, x_str, x_es, x_esn, nth_0, nth_1, nth_2, nth_3, nth_4, nth_5, nth_6, nth_7, nth_8, nth_9, y_nil, y_int, y_bool, y_str, y_sl, y_nils, y_agg, y_ownp, y_own, z_nil, z_int, z_bool, z_str, z_sl, z_nils, b_nil, b_arr, b_box1, b_box2, b_box3, b_box4, List.map_cons, List.map_nil, Bool.and_self, Bool.and_true, Bool.true_and, Bool.not_true, Bool.not_false, Bool.or_false, Bool.false_or, cond_true, cond_false, okPack, okPut, okPutBlks, okPutCells, q_isP, q_isAg, q_isBox, q_isArr, q_int, q_bool, q_str, q_sl, q_nils, e_exit, e_ret, e_nrm, e_ret_exit, e_exit_ret, e_nrm_exit, e_nrm_ret, e_exit_nrm, e_ret_nrm, Nat.zero_add, Nat.reduceAdd, noslR, noslP, noslB, noslA, List.all_cons, List.all_nil, Bool.true_or, z, z2, f, inB_len hx]
  · have z : (validN l != 0) = true := by simpa using fun hh => h (validN_ok.1 hh)
    have z2 : (validN l == 0) = false := by simpa using fun hh => h (validN_ok.1 hh)
    simp only [bnd_some, ctl_true, ctl_false, ctl_and, ctl_or', ctl_or2, x_toPV, x_toCs, x_toCs2, x_toEs, x_bEs, x_bCs, x_aPV, x_aCs, x_int, x_bool, x_str, x_es, x_esn, nth_0, nth_1, nth_2, nth_3, nth_4, nth_5, nth_6, nth_7, nth_8, nth_9, y_nil, y_int, y_bool, y_str, y_sl, y_nils, y_agg, y_ownp, y_own, z_nil, z_int, z_bool, z_str, z_sl, z_nils, b_nil, b_arr, b_box1, b_box2, b_box3, b_box4, List.map_cons, List.map_nil, Bool.and_self, Bool.and_true, Bool.true_and, Bool.not_true, Bool.not_false, Bool.or_false, Bool.false_or, cond_true, cond_false, okPack, okPut, okPutBlks, okPutCells, q_isP, q_isAg, q_isBox, q_isArr, q_int, q_bool, q_str, q_sl, q_nils, e_exit, e_ret, e_nrm, e_ret_exit, e_exit_ret, e_nrm_exit, e_nrm_ret, e_exit_nrm, e_ret_nrm, Nat.zero_add, Nat.reduceAdd, noslR, noslP, noslB, noslA, List.all_cons, List.all_nil, Bool.true_or, z, z2, Bool.false_and]

theorem c_insideA {l : List Shr} (h : l.length ≤ 1000) (x : List Int) : denC E 38 [AV.sl 3 (shK l), AV.sl 1 (intsK .i64 x)] [] = some ([RV.p (PV.bool (inB l x))], []) := by
  rw [denC_eq, r38, shK_length, intsK_length]
  by_cases hx : x.length = l.length
  · have f : ((x.length : Int) != (l.length : Int)) = false := by rw [hx]; simp
    have hl := insideA_loop l x [] [] rfl hx (by simpa using h)
    simp only [List.nil_append, List.length_nil] at hl
    have e0 : (((0 : Nat)) : Int) = 0 := rfl
    rw [e0] at hl
    simp only [bnd_some, ctl_true, ctl_false, ctl_and, ctl_or', ctl_or2, x_toPV, x_toCs, x_toCs2, x_toEs, x_bEs, x_bCs, x_aPV, x_aCs, x_int, x_bool, x_str, x_es, x_esn, nth_0, nth_1, nth_2, nth_3, nth_4, nth_5, nth_6, nth_7, nth_8, nth_9, y_nil, y_int, y_bool, y_str, y_sl, y_nils, y_agg, y_ownp, y_own, z_nil, z_int, z_bool, z_str, z_sl, z_nils, b_nil, b_arr, b_box1, b_box2, b_box3, b_box4, List.map_cons, List.map_nil, Bool.and_self, Bool.and_true, Bool.true_and, Bool.not_true, Bool.not_false, Bool.or_false, Bool.false_or, cond_true, cond_false, okPack, okPut, okPutBlks, okPutCells, q_isP, q_isAg, q_isBox, q_isArr, q_int, q_bool, q_str, q_sl, q_nils, e_exit, e_ret, e_nrm, e_ret_exit, e_exit_ret, e_nrm_exit, e_nrm_ret, e_exit_nrm, e_ret_nrm, Nat.zero_add, Nat.reduceAdd, noslR, noslP, noslB, noslA, List.all_cons, List.all_nil, Bool.true_or, f]
    rw [hl]
    cases inB l x <;> simp only [bnd_some, ctl_true, ctl_false, ctl_and, ctl_or', ctl_or2, x_toPV, x_toCs, x_toCs2, x_toEs, x_bEs, x_bCs, x_aPV, x_aCs, x_int, x_bool, x_str, x_es, x_esn, nth_0, nth_1, nth_2, nth_3, nth_4, nth_5, nth_6, nth_7, nth_8, nth_9, y_nil, y_int, y_bool, y_str, y_sl, y_nils, y_agg, y_ownp, y_own, z_nil, z_int, z_bool, z_str, z_sl, z_nils, b_nil, b_arr, b_box1, b_box2, b_box3, b_box4, List.map_cons, List.map_nil, Bool.and_self, Bool.and_true, Bool.true_and, Bool.not_true, Bool.not_false, Bool.or_false, Bool.false_or, cond_true, cond_false, okPack, okPut, okPutBlks, okPutCells, q_isP, q_isAg, q_isBox, q_isArr, q_int, q_bool, q_str, q_sl, q_nils, e_exit, e_ret, e_nrm, e_ret_exit, e_exit_ret, e_nrm_exit, e_nrm_ret, e_exit_nrm, e_ret_nrm, Nat.zero_add, Nat.reduceAdd, noslR, noslP, noslB, noslA, List.all_cons, List.all_nil, Bool.true_or]
  · have f : ((x.length : Int) != (l.length : Int)) = true := by simp only [bne_iff_ne]; omega
    simp only [bnd_some, ctl_true, ctl_false, ctl_and, ctl_or', ctl_or2, x_toPV, x_toCs, x_toCs2, x_toEs, x_bEs, x_bCs, x_aPV, x_aCs, x_int, x_bool, x_str, x_es, x_esn, nth_0, nth_1, nth_2, nth_3, nth_4, nth_5, nth_6, nth_7, nth_8, nth_9, y_nil, y_int, y_bool, y_str, y_sl, y_nils, y_agg, y_ownp, y_own, z_nil, z_int, z_bool, z_str, z_sl, z_nils, b_nil, b_arr, b_box1, b_box2, b_box3, b_box4, List.map_cons, List.map_nil, Bool.and_self, Bool.and_true, Bool.true_and, Bool.not_true, Bool.not_false, Bool.or_false, Bool.false_or, cond_true, cond_false, okPack, okPut, okPutBlks, okPutCells, q_isP, q_isAg, q_isBox, q_isArr, q_int, q_bool, q_str, q_sl, q_nils, e_exit, e_ret, e_nrm, e_ret_exit, e_exit_ret, e_nrm_exit, e_nrm_ret, e_exit_nrm, e_ret_nrm, Nat.zero_add, Nat.reduceAdd, noslR, noslP, noslB, noslA, List.all_cons, List.all_nil, Bool.true_or, f, inB_len hx]

/-! ### Sum -/
def sumR (l : List Shr) (x : List Int) : Int × Int := if validN l = 0 then (if x.length = l.length then (if inB l x = true then (costS l x, 0) else (0, 1)) else (0, 8)) else (0, validN l)
theorem c_SumA (l : List Shr) (x : List Int) : denC E 16 [AV.sl 3 (shK l), AV.sl 1 (intsK .i64 x)] [] = some ([RV.p (PV.int .i64 (sumR l x).1), RV.p (PV.int .i64 (sumR l x).2)], []) := by
  unfold sumR
  by_cases h : validN l = 0
  · rw [if_pos h]
    by_cases hx : x.length = l.length
    · rw [if_pos hx]
      by_cases hb : inB l x = true
      · rw [if_pos hb, c_Sum (validN_ok.1 h) (inB_iff.1 hb)]
      · have hr : rngB l x = false := by unfold rngB; rw [Bool.eq_false_iff.2 hb, Bool.and_false]
        have f : ((x.length : Int) != (l.length : Int)) = false := by rw [hx]; simp
        have z : ((0 : Int) != 0) = false := rfl
        rw [if_neg hb, denC_eq, r16, c_Valid, h, shK_length, intsK_length, c_rangedA, hr]
        simp only [bnd_some, ctl_true, ctl_false, ctl_and, ctl_or', ctl_or2, x_toPV, x_toCs, x_toCs2, x_toEs, x_bEs, x_bCs, x_aPV, x_aCs, x_int, x_bool, x_str, x_es, x_esn, nth_0, nth_1, nth_2, nth_3, nth_4, nth_5, nth_6, nth_7, nth_8, nth_9, y_nil, y_int, y_bool, y_str, y_sl, y_nils, y_agg, y_ownp, y_own, z_nil, z_int, z_bool, z_str, z_sl, z_nils, b_nil, b_arr, b_box1, b_box2, b_box3, b_box4, List.map_cons, List.map_nil, Bool.and_self, Bool.and_true, Bool.true_and, Bool.not_true, Bool.not_false, Bool.or_false, Bool.false_or, cond_true, cond_false, okPack, okPut, okPutBlks, okPutCells, q_isP, q_isAg, q_isBox, q_isArr, q_int, q_bool, q_str, q_sl, q_nils, e_exit, e_ret, e_nrm, e_ret_exit, e_exit_ret, e_nrm_exit, e_nrm_ret, e_exit_nrm, e_ret_nrm, Nat.zero_add, Nat.reduceAdd, noslR, noslP, noslB, noslA, List.all_cons, List.all_nil, Bool.true_or, z, f]
    · have f : ((x.length : Int) != (l.length : Int)) = true := by simp only [bne_iff_ne]; omega
      have z : ((0 : Int) != 0) = false := rfl
      rw [if_neg hx, denC_eq, r16, c_Valid, h, shK_length, intsK_length]
      simp only [bnd_some, ctl_true, ctl_false, ctl_and, ctl_or', ctl_or2, x_toPV, x_toCs, x_toCs2, x_toEs, x_bEs, x_bCs, x_aPV, x_aCs, x_int, x_bool, x_str, x_es, x_esn, nth_0, nth_1, nth_2, nth_3, nth_4, nth_5, nth_6, nth_7, nth_8, nth_9, y_nil, y_int, y_bool, y_str, y_sl, y_nils, y_agg, y_ownp, y_own, z_nil, z_int, z_bool, z_str, z_sl, z_nils, b_nil, b_arr, b_box1, b_box2, b_box3, b_box4, List.map_cons, List.map_nil, Bool.and_self, Bool.and_true, Bool.true_and, Bool.not_true, Bool.not_false, Bool.or_false, Bool.false_or, cond_true, cond_false, okPack, okPut, okPutBlks, okPutCells, q_isP, q_isAg, q_isBox, q_isArr, q_int, q_bool, q_str, q_sl, q_nils, e_exit, e_ret, e_nrm, e_ret_exit, e_exit_ret, e_nrm_exit, e_nrm_ret, e_exit_nrm, e_ret_nrm, Nat.zero_add, Nat.reduceAdd, noslR, noslP, noslB, noslA, List.all_cons, List.all_nil, Bool.true_or, z, f]
  · have z : (validN l != 0) = true := by simpa using h
    rw [if_neg h, denC_eq, r16, c_Valid]
    simp only [bnd_some, ctl_true, ctl_false, ctl_and, ctl_or', ctl_or2, x_toPV, x_toCs, x_toCs2, x_toEs, x_bEs, x_bCs, x_aPV, x_aCs, x_int, x_bool, x_str, x_es, x_esn, nth_0, nth_1, nth_2, nth_3, nth_4, nth_5, nth_6, nth_7, nth_8, nth_9, y_nil, y_int, y_bool, y_str, y_sl, y_nils, y_agg, y_ownp, y_own, z_nil, z_int, z_bool, z_str, z_sl, z_nils, b_nil, b_arr, b_box1, b_box2, b_box3, b_box4, List.map_cons, List.map_nil, Bool.and_self, Bool.and_true, Bool.true_and, Bool.not_true, Bool.not_false, Bool.or_false, Bool.false_or, cond_true, cond_false, okPack, okPut, okPutBlks, okPutCells, q_isP, q_isAg, q_isBox, q_isArr, q_int, q_bool, q_str, q_sl, q_nils, e_exit, e_ret, e_nrm, e_ret_exit, e_exit_ret, e_nrm_exit, e_nrm_ret, e_exit_nrm, e_ret_nrm, Nat.zero_add, Nat.reduceAdd, noslR, noslP, noslB, noslA, List.all_cons, List.all_nil, Bool.true_or, z]

theorem rsum_loop : ∀ (l : List Shr) (x : List Int) (p : List Shr) (px : List Int) (n : Int), px.length = p.length → (p ++ l).length ≤ 8 → (∀ s ∈ l, OkS s) → InR l x →
    0 ≤ n ∧ n ≤ 2500000000 * (p.length : Int) →
    lp E (denC E) 26 0 [] 0 { vals := [AV.sl 1 (intsK .i64 (px ++ x)), AV.int .i64 n, AV.sl 3 (shK (p ++ l)), AV.int .i64 ((p ++ l).length : Int), AV.int .i64 (p.length : Int)], blks := [] } =
      some (Ex.exit 0, { vals := [AV.int .i64 (n + costS l x)], blks := [] })
  | [], [], p, px, n, hx, hl, _, h, _ => by
    rw [r26_0, ctl_dec, if_neg (by simp)]
    simp [costS]
  | s :: l, x :: xs, p, px, n, hx, hl, hs, h, hn => by
    obtain ⟨⟨a1, a2⟩, h⟩ := h
    have hk := sq_le (hs s (List.mem_cons_self ..)) a1 a2
    simp only [List.length_append, List.length_cons] at hl
    rw [r26_0, ctl_dec, if_pos (by simp; omega)]
    simp only [getE_mid, getE_imid px x xs hx]
    have ih := rsum_loop l xs (p ++ [s]) (px ++ [x]) (n + s.c * x * x) (by simp [hx]) (by simp; omega) (fun y hy => hs y (List.mem_cons_of_mem _ hy)) h (by simp; omega)
    simp only [List.append_assoc, List.cons_append, List.nil_append, List.length_append, List.length_cons, List.length_nil] at ih
    simp only [List.length_append, List.length_cons, shC, bnd_some, ctl_true, ctl_false, ctl_and, ctl_or', ctl_or2, x_toPV, x_toCs, x_toCs2, x_toEs, x_bEs, x_bCs, x_aPV, x_aCs, x_int, x_bool, x_str, x_es, x_esn, nth_0, nth_1, nth_2, nth_3, nth_4, nth_5, nth_6, nth_7, nth_8, nth_9, y_nil, y_int, y_bool, y_str, y_sl, y_nils, y_agg, y_ownp, y_own, z_nil, z_int, z_bool, z_str, z_sl, z_nils, b_nil, b_arr, b_box1, b_box2, b_box3, b_box4, List.map_cons, List.map_nil, Bool.and_self, Bool.and_true, Bool.true_and, Bool.not_true, Bool.not_false, Bool.or_false, Bool.false_or, cond_true, cond_false, okPack, okPut, okPutBlks, okPutCells, q_isP, q_isAg, q_isBox, q_isArr, q_int, q_bool, q_str, q_sl, q_nils, e_exit, e_ret, e_nrm, e_ret_exit, e_exit_ret, e_nrm_exit, e_nrm_ret, e_exit_nrm, e_ret_nrm, Nat.zero_add, Nat.reduceAdd, noslR, noslP, noslB, noslA, List.all_cons, List.all_nil, Bool.true_or]
    rw [w64 (n := s.c * x) (by omega), w64 (n := s.c * x * x) (by omega), w64 (n := n + s.c * x * x) (by omega), w64 (n := (p.length : Int) + 1) (by omega)]
    have e1 : ((p.length : Int) + 1) = ((p.length + (0 + 1) : Nat) : Int) := by omega
    rw [e1, ih]
    simp only [costS, Int.add_assoc]
  | [], _ :: _, _, _, _, _, _, _, h, _ => h.elim
  | _ :: _, [], _, _, _, _, _, _, h, _ => h.elim

theorem c_RSumA (l : List Shr) (x : List Int) : denC E 26 [AV.sl 3 (shK l), AV.sl 1 (intsK .i64 x)] [] = some ([RV.p (PV.int .i64 (sumR l x).1), RV.p (PV.int .i64 (sumR l x).2)], []) := by
  rw [denC_eq, r26, c_RValid, shK_length, intsK_length]
  unfold sumR
  by_cases h : validN l = 0
  · have hok := validN_ok.1 h
    have z : ((0 : Int) != 0) = false := rfl
    rw [if_pos h, h]
    by_cases hx : x.length = l.length
    · have f : ((x.length : Int) != (l.length : Int)) = false := by rw [hx]; simp
      rw [if_pos hx]
      simp only [bnd_some, ctl_true, ctl_false, ctl_and, ctl_or', ctl_or2, x_toPV, x_toCs, x_toCs2, x_toEs, x_bEs, x_bCs, x_aPV, x_aCs, x_int, x_bool, x_str, x_es, x_esn, nth_0, nth_1, nth_2, nth_3, nth_4, nth_5, nth_6, nth_7, nth_8, nth_9, y_nil, y_int, y_bool, y_str, y_sl, y_nils, y_agg, y_ownp, y_own, z_nil, z_int, z_bool, z_str, z_sl, z_nils, b_nil, b_arr, b_box1, b_box2, b_box3, b_box4, List.map_cons, List.map_nil, Bool.and_self, Bool.and_true, Bool.true_and, Bool.not_true, Bool.not_false, Bool.or_false, Bool.false_or, cond_true, cond_false, okPack, okPut, okPutBlks, okPutCells, q_isP, q_isAg, q_isBox, q_isArr, q_int, q_bool, q_str, q_sl, q_nils, e_exit, e_ret, e_nrm, e_ret_exit, e_exit_ret, e_nrm_exit, e_nrm_ret, e_exit_nrm, e_ret_nrm, Nat.zero_add, Nat.reduceAdd, noslR, noslP, noslB, noslA, List.all_cons, List.all_nil, Bool.true_or, z, f]
      rw [c_insideA (by have := hok.1; omega)]
      by_cases hb : inB l x = true
      · rw [if_pos hb, hb]
        have hl := rsum_loop l x [] [] 0 rfl (by simpa using hok.1) hok.2 (inB_iff.1 hb) (by simp)
        simp only [List.nil_append, List.length_nil, Int.zero_add] at hl
        have e0 : (((0 : Nat)) : Int) = 0 := rfl
        rw [e0] at hl
        simp only [bnd_some, ctl_true, ctl_false, ctl_and, ctl_or', ctl_or2, x_toPV, x_toCs, x_toCs2, x_toEs, x_bEs, x_bCs, x_aPV, x_aCs, x_int, x_bool, x_str, x_es, x_esn, nth_0, nth_1, nth_2, nth_3, nth_4, nth_5, nth_6, nth_7, nth_8, nth_9, y_nil, y_int, y_bool, y_str, y_sl, y_nils, y_agg, y_ownp, y_own, z_nil, z_int, z_bool, z_str, z_sl, z_nils, b_nil, b_arr, b_box1, b_box2, b_box3, b_box4, List.map_cons, List.map_nil, Bool.and_self, Bool.and_true, Bool.true_and, Bool.not_true, Bool.not_false, Bool.or_false, Bool.false_or, cond_true, cond_false, okPack, okPut, okPutBlks, okPutCells, q_isP, q_isAg, q_isBox, q_isArr, q_int, q_bool, q_str, q_sl, q_nils, e_exit, e_ret, e_nrm, e_ret_exit, e_exit_ret, e_nrm_exit, e_nrm_ret, e_exit_nrm, e_ret_nrm, Nat.zero_add, Nat.reduceAdd, noslR, noslP, noslB, noslA, List.all_cons, List.all_nil, Bool.true_or]
        rw [hl]
        simp only [bnd_some, ctl_true, ctl_false, ctl_and, ctl_or', ctl_or2, x_toPV, x_toCs, x_toCs2, x_toEs, x_bEs, x_bCs, x_aPV, x_aCs, x_int, x_bool, x_str, x_es, x_esn, nth_0, nth_1, nth_2, nth_3, nth_4, nth_5, nth_6, nth_7, nth_8, nth_9, y_nil, y_int, y_bool, y_str, y_sl, y_nils, y_agg, y_ownp, y_own, z_nil, z_int, z_bool, z_str, z_sl, z_nils, b_nil, b_arr, b_box1, b_box2, b_box3, b_box4, List.map_cons, List.map_nil, Bool.and_self, Bool.and_true, Bool.true_and, Bool.not_true, Bool.not_false, Bool.or_false, Bool.false_or, cond_true, cond_false, okPack, okPut, okPutBlks, okPutCells, q_isP, q_isAg, q_isBox, q_isArr, q_int, q_bool, q_str, q_sl, q_nils, e_exit, e_ret, e_nrm, e_ret_exit, e_exit_ret, e_nrm_exit, e_nrm_ret, e_exit_nrm, e_ret_nrm, Nat.zero_add, Nat.reduceAdd, noslR, noslP, noslB, noslA, List.all_cons, List.all_nil, Bool.true_or]
      · rw [if_neg hb, Bool.eq_false_iff.2 hb]
        simp only [bnd_some, ctl_true, ctl_false, ctl_and, ctl_or', ctl_or2, x_toPV, x_toCs, x_toCs2, x_toEs, x_bEs, x_bCs, x_aPV, x_aCs, x_int, x_bool, x_str, x_es, x_esn, nth_0, nth_1, nth_2, nth_3, nth_4, nth_5, nth_6, nth_7, nth_8, nth_9, y_nil, y_int, y_bool, y_str, y_sl, y_nils, y_agg, y_ownp, y_own, z_nil, z_int, z_bool, z_str, z_sl, z_nils, b_nil, b_arr, b_box1, b_box2, b_box3, b_box4, List.map_cons, List.map_nil, Bool.and_self, Bool.and_true, Bool.true_and, Bool.not_true, Bool.not_false, Bool.or_false, Bool.false_or, cond_true, cond_false, okPack, okPut, okPutBlks, okPutCells, q_isP, q_isAg, q_isBox, q_isArr, q_int, q_bool, q_str, q_sl, q_nils, e_exit, e_ret, e_nrm, e_ret_exit, e_exit_ret, e_nrm_exit, e_nrm_ret, e_exit_nrm, e_ret_nrm, Nat.zero_add, Nat.reduceAdd, noslR, noslP, noslB, noslA, List.all_cons, List.all_nil, Bool.true_or]
    · have f : ((x.length : Int) != (l.length : Int)) = true := by simp only [bne_iff_ne]; omega
      rw [if_neg hx]
      simp only [bnd_some, ctl_true, ctl_false, ctl_and, ctl_or', ctl_or2, x_toPV, x_toCs, x_toCs2, x_toEs, x_bEs, x_bCs, x_aPV, x_aCs, x_int, x_bool, x_str, x_es, x_esn, nth_0, nth_1, nth_2, nth_3, nth_4, nth_5, nth_6, nth_7, nth_8, nth_9, y_nil, y_int, y_bool, y_str, y_sl, y_nils, y_agg, y_ownp, y_own, z_nil, z_int, z_bool, z_str, z_sl, z_nils, b_nil, b_arr, b_box1, b_box2, b_box3, b_box4, List.map_cons, List.map_nil, Bool.and_self, Bool.and_true, Bool.true_and, Bool.not_true, Bool.not_false, Bool.or_false, Bool.false_or, cond_true, cond_false, okPack, okPut, okPutBlks, okPutCells, q_isP, q_isAg, q_isBox, q_isArr, q_int, q_bool, q_str, q_sl, q_nils, e_exit, e_ret, e_nrm, e_ret_exit, e_exit_ret, e_nrm_exit, e_nrm_ret, e_exit_nrm, e_ret_nrm, Nat.zero_add, Nat.reduceAdd, noslR, noslP, noslB, noslA, List.all_cons, List.all_nil, Bool.true_or, z, f]
  · have z : (validN l != 0) = true := by simpa using h
    rw [if_neg h]
    simp only [bnd_some, ctl_true, ctl_false, ctl_and, ctl_or', ctl_or2, x_toPV, x_toCs, x_toCs2, x_toEs, x_bEs, x_bCs, x_aPV, x_aCs, x_int, x_bool, x_str, x_es, x_esn, nth_0, nth_1, nth_2, nth_3, nth_4, nth_5, nth_6, nth_7, nth_8, nth_9, y_nil, y_int, y_bool, y_str, y_sl, y_nils, y_agg, y_ownp, y_own, z_nil, z_int, z_bool, z_str, z_sl, z_nils, b_nil, b_arr, b_box1, b_box2, b_box3, b_box4, List.map_cons, List.map_nil, Bool.and_self, Bool.and_true, Bool.true_and, Bool.not_true, Bool.not_false, Bool.or_false, Bool.false_or, cond_true, cond_false, okPack, okPut, okPutBlks, okPutCells, q_isP, q_isAg, q_isBox, q_isArr, q_int, q_bool, q_str, q_sl, q_nils, e_exit, e_ret, e_nrm, e_ret_exit, e_exit_ret, e_nrm_exit, e_nrm_ret, e_exit_nrm, e_ret_nrm, Nat.zero_add, Nat.reduceAdd, noslR, noslP, noslB, noslA, List.all_cons, List.all_nil, Bool.true_or, z]

/-! ### Price -/
def okP' (l : List Shr) (x : List Int) : Bool := rngB l x && ((prc l x).2.2.1 && (prc l x).2.2.2)
theorem c_PriceA (l : List Shr) (x : List Int) : denC E 20 [AV.sl 3 (shK l), AV.sl 1 (intsK .i64 x)] [] =
    some ([RV.p (PV.int .i64 (bif okP' l x then (prc l x).1 else 0)), RV.p (PV.int .i64 (bif okP' l x then (prc l x).2.1 else 0)), RV.p (PV.bool (okP' l x))], []) := by
  unfold okP'
  cases hr : rngB l x with
  | true =>
    obtain ⟨h1, h2⟩ := rngB_iff.1 hr
    rw [c_Price h1 h2, Bool.true_and]
  | false =>
    rw [denC_eq, r20, c_rangedA, hr]
    simp only [bnd_some, ctl_true, ctl_false, ctl_and, ctl_or', ctl_or2, x_toPV, x_toCs, x_toCs2, x_toEs, x_bEs, x_bCs, x_aPV, x_aCs, x_int, x_bool, x_str, x_es, x_esn, nth_0, nth_1, nth_2, nth_3, nth_4, nth_5, nth_6, nth_7, nth_8, nth_9, y_nil, y_int, y_bool, y_str, y_sl, y_nils, y_agg, y_ownp, y_own, z_nil, z_int, z_bool, z_str, z_sl, z_nils, b_nil, b_arr, b_box1, b_box2, b_box3, b_box4, List.map_cons, List.map_nil, Bool.and_self, Bool.and_true, Bool.true_and, Bool.not_true, Bool.not_false, Bool.or_false, Bool.false_or, cond_true, cond_false, okPack, okPut, okPutBlks, okPutCells, q_isP, q_isAg, q_isBox, q_isArr, q_int, q_bool, q_str, q_sl, q_nils, e_exit, e_ret, e_nrm, e_ret_exit, e_exit_ret, e_nrm_exit, e_nrm_ret, e_exit_nrm, e_ret_nrm, Nat.zero_add, Nat.reduceAdd, noslR, noslP, noslB, noslA, List.all_cons, List.all_nil, Bool.true_or, Bool.false_and]

theorem rise_lst (s : Shr) (x : Int) : nxt s (x - 1) = lst s x := by
  unfold nxt lst
  congr 1
  omega

theorem rprice_loop : ∀ (l : List Shr) (x : List Int) (p : List Shr) (px : List Int) (low high : Int) (less more : Bool), px.length = p.length → (p ++ l).length ≤ 8 → (∀ s ∈ l, OkS s) → InR l x →
    lp E (denC E) 27 0 [] 0 { vals := [AV.sl 1 (intsK .i64 (px ++ x)), AV.int .i64 low, AV.int .i64 high, AV.bool less, AV.bool more, AV.sl 3 (shK (p ++ l)), AV.int .i64 ((p ++ l).length : Int), AV.int .i64 (p.length : Int)], blks := [] } =
      some (Ex.exit 0, { vals := [AV.int .i64 (prS low high less more l x).1, AV.int .i64 (prS low high less more l x).2.1, AV.bool (prS low high less more l x).2.2.1, AV.bool (prS low high less more l x).2.2.2], blks := [] })
  | [], [], p, px, low, high, less, more, hx, hl, _, h => by
    rw [r27_0, ctl_dec, if_neg (by simp)]
    rfl
  | s :: l, x :: xs, p, px, low, high, less, more, hx, hl, hs, h => by
    obtain ⟨⟨a1, a2⟩, hn⟩ := h
    have hk := hs s (List.mem_cons_self ..)
    have hk' := hk
    obtain ⟨b1, b2, b3, _⟩ := hk'
    simp only [List.length_append, List.length_cons] at hl
    have ih := fun a b c d => rprice_loop l xs (p ++ [s]) (px ++ [x]) a b c d (by simp [hx]) (by simp; omega) (fun y hy => hs y (List.mem_cons_of_mem _ hy)) hn
    have q1 := c_rise hk (x := x - 1) (by omega)
    have q2 := c_rise hk (x := x) (by omega)
    rw [rise_lst] at q1
    rw [r27_0, ctl_dec, if_pos (by simp; omega)]
    simp only [getE_mid, getE_imid px x xs hx]
    simp only [List.append_assoc, List.cons_append, List.nil_append, List.length_append, List.length_cons, List.length_nil] at ih
    have e1 : ((p.length : Int) + 1) = ((p.length + (0 + 1) : Nat) : Int) := by omega
    have wx : IntKind.wrap .i64 (x - 1) = x - 1 := w64 (by omega)
    have wp : IntKind.wrap .i64 ((p.length : Int) + 1) = ((p.length + (0 + 1) : Nat) : Int) := by rw [w64 (by omega), e1]
    simp only [List.length_append, List.length_cons, shC, bnd_some, ctl_true, ctl_false, ctl_and, ctl_or', ctl_or2, x_toPV, x_toCs, x_toCs2, x_toEs, x_bEs, x_bCs, x_aPV, x_aCs, x_int, x_bool, x_str, x_es, x_esn, nth_0, nth_1, nth_2, nth_3, nth_4, nth_5, nth_6, nth_7, nth_8, nth_9, y_nil, y_int, y_bool, y_str, y_sl, y_nils, y_agg, y_ownp, y_own, z_nil, z_int, z_bool, z_str, z_sl, z_nils, b_nil, b_arr, b_box1, b_box2, b_box3, b_box4, List.map_cons, List.map_nil, Bool.and_self, Bool.and_true, Bool.true_and, Bool.not_true, Bool.not_false, Bool.or_false, Bool.false_or, cond_true, cond_false, okPack, okPut, okPutBlks, okPutCells, q_isP, q_isAg, q_isBox, q_isArr, q_int, q_bool, q_str, q_sl, q_nils, e_exit, e_ret, e_nrm, e_ret_exit, e_exit_ret, e_nrm_exit, e_nrm_ret, e_exit_nrm, e_ret_nrm, Nat.zero_add, Nat.reduceAdd, noslR, noslP, noslB, noslA, List.all_cons, List.all_nil, Bool.true_or, wx, q1, q2, wp, ih, prS]
    generalize ltB s.lo x = c1
    generalize ltB x s.hi = c2
    generalize ltB low (lst s x) = c3
    generalize ltB (nxt s x) high = c4
    cases c1 <;> cases c2 <;> cases c3 <;> cases c4 <;> cases less <;> cases more <;> rfl
  | [], _ :: _, _, _, _, _, _, _, _, _, _, h => h.elim
  | _ :: _, [], _, _, _, _, _, _, _, _, _, h => h.elim

theorem c_RPriceA {l : List Shr} (h : l.length ≤ 1000) (x : List Int) : denC E 27 [AV.sl 3 (shK l), AV.sl 1 (intsK .i64 x)] [] =
    some ([RV.p (PV.int .i64 (bif okP' l x then (prc l x).1 else 0)), RV.p (PV.int .i64 (bif okP' l x then (prc l x).2.1 else 0)), RV.p (PV.bool (okP' l x))], []) := by
  rw [denC_eq, r27, c_RValid, c_insideA h, shK_length]
  unfold okP'
  cases hr : rngB l x with
  | true =>
    obtain ⟨h1, h2⟩ := rngB_iff.1 hr
    have hl := rprice_loop l x [] [] 0 0 false false rfl (by simpa using h1.1) h1.2 h2
    simp only [List.nil_append, List.length_nil] at hl
    have e0 : (((0 : Nat)) : Int) = 0 := rfl
    have z : ((0 : Int) != 0) = false := rfl
    rw [e0] at hl
    rw [validN_ok.2 h1, inB_iff.2 h2]
    simp only [bnd_some, ctl_true, ctl_false, ctl_and, ctl_or', ctl_or2, x_toPV, x_toCs, x_toCs2, x_toEs, x_bEs, x_bCs, x_aPV, x_aCs, x_int, x_bool, x_str, x_es, x_esn, nth_0, nth_1, nth_2, nth_3, nth_4, nth_5, nth_6, nth_7, nth_8, nth_9, y_nil, y_int, y_bool, y_str, y_sl, y_nils, y_agg, y_ownp, y_own, z_nil, z_int, z_bool, z_str, z_sl, z_nils, b_nil, b_arr, b_box1, b_box2, b_box3, b_box4, List.map_cons, List.map_nil, Bool.and_self, Bool.and_true, Bool.true_and, Bool.not_true, Bool.not_false, Bool.or_false, Bool.false_or, cond_true, cond_false, okPack, okPut, okPutBlks, okPutCells, q_isP, q_isAg, q_isBox, q_isArr, q_int, q_bool, q_str, q_sl, q_nils, e_exit, e_ret, e_nrm, e_ret_exit, e_exit_ret, e_nrm_exit, e_nrm_ret, e_exit_nrm, e_ret_nrm, Nat.zero_add, Nat.reduceAdd, noslR, noslP, noslB, noslA, List.all_cons, List.all_nil, Bool.true_or, z]
    rw [hl]
    simp only [bnd_some, ctl_true, ctl_false, ctl_and, ctl_or', ctl_or2, x_toPV, x_toCs, x_toCs2, x_toEs, x_bEs, x_bCs, x_aPV, x_aCs, x_int, x_bool, x_str, x_es, x_esn, nth_0, nth_1, nth_2, nth_3, nth_4, nth_5, nth_6, nth_7, nth_8, nth_9, y_nil, y_int, y_bool, y_str, y_sl, y_nils, y_agg, y_ownp, y_own, z_nil, z_int, z_bool, z_str, z_sl, z_nils, b_nil, b_arr, b_box1, b_box2, b_box3, b_box4, List.map_cons, List.map_nil, Bool.and_self, Bool.and_true, Bool.true_and, Bool.not_true, Bool.not_false, Bool.or_false, Bool.false_or, cond_true, cond_false, okPack, okPut, okPutBlks, okPutCells, q_isP, q_isAg, q_isBox, q_isArr, q_int, q_bool, q_str, q_sl, q_nils, e_exit, e_ret, e_nrm, e_ret_exit, e_exit_ret, e_nrm_exit, e_nrm_ret, e_exit_nrm, e_ret_nrm, Nat.zero_add, Nat.reduceAdd, noslR, noslP, noslB, noslA, List.all_cons, List.all_nil, Bool.true_or]
    unfold prc
    cases (prS 0 0 false false l x).2.2.1 <;> cases (prS 0 0 false false l x).2.2.2 <;> rfl
  | false =>
    unfold rngB at hr
    simp only [Bool.false_and, bnd_some, ctl_true, ctl_false, ctl_and, ctl_or', ctl_or2, x_toPV, x_toCs, x_toCs2, x_toEs, x_bEs, x_bCs, x_aPV, x_aCs, x_int, x_bool, x_str, x_es, x_esn, nth_0, nth_1, nth_2, nth_3, nth_4, nth_5, nth_6, nth_7, nth_8, nth_9, y_nil, y_int, y_bool, y_str, y_sl, y_nils, y_agg, y_ownp, y_own, z_nil, z_int, z_bool, z_str, z_sl, z_nils, b_nil, b_arr, b_box1, b_box2, b_box3, b_box4, List.map_cons, List.map_nil, Bool.and_self, Bool.and_true, Bool.true_and, Bool.not_true, Bool.not_false, Bool.or_false, Bool.false_or, cond_true, cond_false, okPack, okPut, okPutBlks, okPutCells, q_isP, q_isAg, q_isBox, q_isArr, q_int, q_bool, q_str, q_sl, q_nils, e_exit, e_ret, e_nrm, e_ret_exit, e_exit_ret, e_nrm_exit, e_nrm_ret, e_exit_nrm, e_ret_nrm, Nat.zero_add, Nat.reduceAdd, noslR, noslP, noslB, noslA, List.all_cons, List.all_nil, Bool.true_or]
    cases h1 : (validN l == 0) with
    | false =>
      have z : (validN l != 0) = true := by simpa using h1
      simp only [bnd_some, ctl_true, ctl_false, ctl_and, ctl_or', ctl_or2, x_toPV, x_toCs, x_toCs2, x_toEs, x_bEs, x_bCs, x_aPV, x_aCs, x_int, x_bool, x_str, x_es, x_esn, nth_0, nth_1, nth_2, nth_3, nth_4, nth_5, nth_6, nth_7, nth_8, nth_9, y_nil, y_int, y_bool, y_str, y_sl, y_nils, y_agg, y_ownp, y_own, z_nil, z_int, z_bool, z_str, z_sl, z_nils, b_nil, b_arr, b_box1, b_box2, b_box3, b_box4, List.map_cons, List.map_nil, Bool.and_self, Bool.and_true, Bool.true_and, Bool.not_true, Bool.not_false, Bool.or_false, Bool.false_or, cond_true, cond_false, okPack, okPut, okPutBlks, okPutCells, q_isP, q_isAg, q_isBox, q_isArr, q_int, q_bool, q_str, q_sl, q_nils, e_exit, e_ret, e_nrm, e_ret_exit, e_exit_ret, e_nrm_exit, e_nrm_ret, e_exit_nrm, e_ret_nrm, Nat.zero_add, Nat.reduceAdd, noslR, noslP, noslB, noslA, List.all_cons, List.all_nil, Bool.true_or, z]
    | true =>
      have z : (validN l != 0) = false := by simpa using h1
      rw [h1, Bool.true_and] at hr
      simp only [bnd_some, ctl_true, ctl_false, ctl_and, ctl_or', ctl_or2, x_toPV, x_toCs, x_toCs2, x_toEs, x_bEs, x_bCs, x_aPV, x_aCs, x_int, x_bool, x_str, x_es, x_esn, nth_0, nth_1, nth_2, nth_3, nth_4, nth_5, nth_6, nth_7, nth_8, nth_9, y_nil, y_int, y_bool, y_str, y_sl, y_nils, y_agg, y_ownp, y_own, z_nil, z_int, z_bool, z_str, z_sl, z_nils, b_nil, b_arr, b_box1, b_box2, b_box3, b_box4, List.map_cons, List.map_nil, Bool.and_self, Bool.and_true, Bool.true_and, Bool.not_true, Bool.not_false, Bool.or_false, Bool.false_or, cond_true, cond_false, okPack, okPut, okPutBlks, okPutCells, q_isP, q_isAg, q_isBox, q_isArr, q_int, q_bool, q_str, q_sl, q_nils, e_exit, e_ret, e_nrm, e_ret_exit, e_exit_ret, e_nrm_exit, e_nrm_ret, e_exit_nrm, e_ret_nrm, Nat.zero_add, Nat.reduceAdd, noslR, noslP, noslB, noslA, List.all_cons, List.all_nil, Bool.true_or, z, hr]

/-! ### Check -/
def LoAt (v : Int) : List Shr → List Int → Prop
  | s :: l, x :: xs => (s.lo < x ∧ lst s x = v) ∨ LoAt v l xs
  | _, _ => False
def HiAt (v : Int) : List Shr → List Int → Prop
  | s :: l, x :: xs => (x < s.hi ∧ nxt s x = v) ∨ HiAt v l xs
  | _, _ => False

theorem prS_lo : ∀ (l : List Shr) (x : List Int) (low high : Int) (less more : Bool),
    ((prS low high less more l x).2.2.1 = true → (less = true ∧ (prS low high less more l x).1 = low) ∨ LoAt (prS low high less more l x).1 l x) ∧
    (∀ v, LoAt v l x → (prS low high less more l x).2.2.1 = true ∧ v ≤ (prS low high less more l x).1) ∧
    (less = true → (prS low high less more l x).2.2.1 = true ∧ low ≤ (prS low high less more l x).1)
  | [], x, low, high, less, more => by
    refine ⟨fun h => .inl ⟨h, rfl⟩, fun v h => h.elim, fun h => ⟨h, Int.le_refl _⟩⟩
  | _ :: _, [], low, high, less, more => by
    refine ⟨fun h => .inl ⟨h, rfl⟩, fun v h => h.elim, fun h => ⟨h, Int.le_refl _⟩⟩
  | s :: l, x :: xs, low, high, less, more => by
    unfold prS
    generalize (bif (ltB x s.hi && (!more || ltB (nxt s x) high)) then nxt s x else high) = high'
    generalize ((ltB x s.hi && (!more || ltB (nxt s x) high)) || more) = more'
    by_cases hc : s.lo < x ∧ (less = true → low < lst s x)
    · have e : (ltB s.lo x && (!less || ltB low (lst s x))) = true := by
        cases less <;> simp at hc ⊢ <;> omega
      rw [e]
      obtain ⟨h1, h2, h3⟩ := prS_lo l xs (lst s x) high' true more'
      simp only [cond_true, Bool.true_or]
      refine ⟨fun h => ?_, fun v hv => ?_, fun h => ?_⟩
      · rcases h1 h with ⟨_, h1⟩ | h1
        · right
          rw [h1]
          exact .inl ⟨hc.1, rfl⟩
        · exact .inr (.inr h1)
      · rcases hv with ⟨_, rfl⟩ | hv
        · exact h3 rfl
        · exact h2 v hv
      · have := h3 rfl
        have := hc.2 h
        exact ⟨(h3 rfl).1, by omega⟩
    · have e : (ltB s.lo x && (!less || ltB low (lst s x))) = false := by
        cases less <;> simp at hc ⊢ <;> omega
      rw [e]
      obtain ⟨h1, h2, h3⟩ := prS_lo l xs low high' less more'
      simp only [cond_false, Bool.false_or]
      refine ⟨fun h => ?_, fun v hv => ?_, h3⟩
      · rcases h1 h with h1 | h1
        · exact .inl h1
        · exact .inr (.inr h1)
      · rcases hv with ⟨hv1, rfl⟩ | hv
        · cases less with
          | false => exact absurd ⟨hv1, fun h => by cases h⟩ hc
          | true =>
            have := h3 rfl
            have hn : ¬ low < lst s x := fun h => hc ⟨hv1, fun _ => h⟩
            exact ⟨this.1, by omega⟩
        · exact h2 v hv

theorem prS_hi : ∀ (l : List Shr) (x : List Int) (low high : Int) (less more : Bool),
    ((prS low high less more l x).2.2.2 = true → (more = true ∧ (prS low high less more l x).2.1 = high) ∨ HiAt (prS low high less more l x).2.1 l x) ∧
    (∀ v, HiAt v l x → (prS low high less more l x).2.2.2 = true ∧ (prS low high less more l x).2.1 ≤ v) ∧
    (more = true → (prS low high less more l x).2.2.2 = true ∧ (prS low high less more l x).2.1 ≤ high)
  | [], x, low, high, less, more => by
    refine ⟨fun h => .inl ⟨h, rfl⟩, fun v h => h.elim, fun h => ⟨h, Int.le_refl _⟩⟩
  | _ :: _, [], low, high, less, more => by
    refine ⟨fun h => .inl ⟨h, rfl⟩, fun v h => h.elim, fun h => ⟨h, Int.le_refl _⟩⟩
  | s :: l, x :: xs, low, high, less, more => by
    unfold prS
    generalize (bif (ltB s.lo x && (!less || ltB low (lst s x))) then lst s x else low) = low'
    generalize ((ltB s.lo x && (!less || ltB low (lst s x))) || less) = less'
    by_cases hc : x < s.hi ∧ (more = true → nxt s x < high)
    · have e : (ltB x s.hi && (!more || ltB (nxt s x) high)) = true := by
        cases more <;> simp at hc ⊢ <;> omega
      rw [e]
      obtain ⟨h1, h2, h3⟩ := prS_hi l xs low' (nxt s x) less' true
      simp only [cond_true, Bool.true_or]
      refine ⟨fun h => ?_, fun v hv => ?_, fun h => ?_⟩
      · rcases h1 h with ⟨_, h1⟩ | h1
        · right
          rw [h1]
          exact .inl ⟨hc.1, rfl⟩
        · exact .inr (.inr h1)
      · rcases hv with ⟨_, rfl⟩ | hv
        · exact h3 rfl
        · exact h2 v hv
      · have := h3 rfl
        have := hc.2 h
        exact ⟨(h3 rfl).1, by omega⟩
    · have e : (ltB x s.hi && (!more || ltB (nxt s x) high)) = false := by
        cases more <;> simp at hc ⊢ <;> omega
      rw [e]
      obtain ⟨h1, h2, h3⟩ := prS_hi l xs low' high less' more
      simp only [cond_false, Bool.false_or]
      refine ⟨fun h => ?_, fun v hv => ?_, h3⟩
      · rcases h1 h with h1 | h1
        · exact .inl h1
        · exact .inr (.inr h1)
      · rcases hv with ⟨hv1, rfl⟩ | hv
        · cases more with
          | false => exact absurd ⟨hv1, fun h => by cases h⟩ hc
          | true =>
            have := h3 rfl
            have hn : ¬ nxt s x < high := fun h => hc ⟨hv1, fun _ => h⟩
            exact ⟨this.1, by omega⟩
        · exact h2 v hv

/-- One that would cost less than v. -/
def hiLt (v : Int) : List Shr → List Int → Bool
  | t :: l, x :: xs => (ltB x t.hi && ltB (nxt t x) v) || hiLt v l xs
  | _, _ => false
def anyB (L : List Shr) (X : List Int) : List Shr → List Int → Bool
  | s :: l, x :: xs => (ltB s.lo x && hiLt (lst s x) L X) || anyB L X l xs
  | _, _ => false
theorem hiLt_iff (v : Int) : ∀ (l : List Shr) (x : List Int), hiLt v l x = true ↔ ∃ w, HiAt w l x ∧ w < v
  | [], _ => ⟨fun h => (by cases h), fun ⟨_, h, _⟩ => h.elim⟩
  | _ :: _, [] => ⟨fun h => (by cases h), fun ⟨_, h, _⟩ => h.elim⟩
  | t :: l, x :: xs => by
    have ih := hiLt_iff v l xs
    unfold hiLt HiAt
    rw [Bool.or_eq_true, Bool.and_eq_true, ih]
    simp only [decide_eq_true_eq]
    constructor
    · rintro (⟨h1, h2⟩ | ⟨w, h1, h2⟩)
      · exact ⟨_, .inl ⟨h1, rfl⟩, h2⟩
      · exact ⟨w, .inr h1, h2⟩
    · rintro ⟨w, ⟨h1, rfl⟩ | h1, h2⟩
      · exact .inl ⟨h1, h2⟩
      · exact .inr ⟨w, h1, h2⟩
theorem anyB_iff (L : List Shr) (X : List Int) : ∀ (l : List Shr) (x : List Int), anyB L X l x = true ↔ ∃ v w, LoAt v l x ∧ HiAt w L X ∧ w < v
  | [], _ => ⟨fun h => (by cases h), fun ⟨_, _, h, _⟩ => h.elim⟩
  | _ :: _, [] => ⟨fun h => (by cases h), fun ⟨_, _, h, _⟩ => h.elim⟩
  | t :: l, x :: xs => by
    have ih := anyB_iff L X l xs
    unfold anyB LoAt
    rw [Bool.or_eq_true, Bool.and_eq_true, ih, hiLt_iff]
    simp only [decide_eq_true_eq]
    constructor
    · rintro (⟨h1, w, h2, h3⟩ | ⟨v, w, h1, h2, h3⟩)
      · exact ⟨_, w, .inl ⟨h1, rfl⟩, h2, h3⟩
      · exact ⟨v, w, .inr h1, h2, h3⟩
    · rintro ⟨v, w, ⟨h1, rfl⟩ | h1, h2, h3⟩
      · exact .inl ⟨h1, w, h2, h3⟩
      · exact .inr ⟨v, w, h1, h2, h3⟩

theorem pair_chk (l : List Shr) (x : List Int) : (!((prc l x).2.2.1 && (prc l x).2.2.2) || leB (prc l x).1 (prc l x).2.1) = !(anyB l x l x) := by
  obtain ⟨a1, a2, _⟩ := prS_lo l x 0 0 false false
  obtain ⟨b1, b2, _⟩ := prS_hi l x 0 0 false false
  have e : prS 0 0 false false l x = prc l x := rfl
  rw [e] at a1 a2 b1 b2
  cases h : anyB l x l x with
  | true =>
    obtain ⟨v, w, h1, h2, h3⟩ := (anyB_iff l x l x).1 h
    have c1 := a2 v h1
    have c2 := b2 w h2
    have f : leB (prc l x).1 (prc l x).2.1 = false := by simp only [decide_eq_false_iff_not]; omega
    rw [c1.1, c2.1, f]
    rfl
  | false =>
    cases h1 : (prc l x).2.2.1 with
    | false => rfl
    | true =>
      cases h2 : (prc l x).2.2.2 with
      | false => rfl
      | true =>
        have f : leB (prc l x).1 (prc l x).2.1 = true := by
          simp only [decide_eq_true_eq]
          rcases Int.lt_or_le (prc l x).2.1 (prc l x).1 with hlt | hle
          · have c1 : LoAt (prc l x).1 l x := by
              rcases a1 h1 with ⟨h, _⟩ | h
              · cases h
              · exact h
            have c2 : HiAt (prc l x).2.1 l x := by
              rcases b1 h2 with ⟨h, _⟩ | h
              · cases h
              · exact h
            have := (anyB_iff l x l x).2 ⟨_, _, c1, c2, hlt⟩
            rw [h] at this
            cases this
          · exact hle
        rw [f]
        rfl

theorem rchk_sum {l0 : List (List PV)} {total a b : Int} {z : List Int} (hz : z.length ≤ 8) : ∀ (l d : List Int) (n : Int), d ++ l = z → (∀ y ∈ l, -5000 ≤ y ∧ y ≤ 5000) → -5000 * (d.length : Int) ≤ n ∧ n ≤ 5000 * (d.length : Int) →
    lp E (denC E) 29 0 [] 0 { vals := [AV.sl 3 l0, AV.int .i64 total, AV.sl 1 (intsK .i64 z), AV.int .i64 a, AV.int .i64 b, AV.int .i64 n, AV.sl 1 (intsK .i64 z), AV.int .i64 (z.length : Int), AV.int .i64 (d.length : Int)], blks := [] } =
      some (Ex.exit 0, { vals := [AV.sl 3 l0, AV.int .i64 total, AV.sl 1 (intsK .i64 z), AV.int .i64 a, AV.int .i64 b, AV.int .i64 (n + sumI l)], blks := [] })
  | [], d, n, hd, _, _ => by
    rw [r29_0, ctl_dec, if_neg (by rw [← hd]; simp)]
    simp [sumI]
  | u :: l, d, n, hd, hu, hn => by
    have hk := hu u (List.mem_cons_self ..)
    have hlt : d.length < z.length := by rw [← hd]; simp
    rw [r29_0, ctl_dec, if_pos (by omega), getE_ints (by omega)]
    have e1 : z.getD ((d.length : Int)).toNat 0 = u := by rw [← hd]; simp [List.getD]
    rw [e1]
    simp only [bnd_some, ctl_true, ctl_false, ctl_and, ctl_or', ctl_or2, x_toPV, x_toCs, x_toCs2, x_toEs, x_bEs, x_bCs, x_aPV, x_aCs, x_int, x_bool, x_str, x_es, x_esn, nth_0, nth_1, nth_2, nth_3, nth_4, nth_5, nth_6, nth_7, nth_8, nth_9, y_nil, y_int, y_bool, y_str, y_sl, y_nils, y_agg, y_ownp, y_own, z_nil, z_int, z_bool, z_str, z_sl, z_nils, b_nil, b_arr, b_box1, b_box2, b_box3, b_box4, List.map_cons, List.map_nil, Bool.and_self, Bool.and_true, Bool.true_and, Bool.not_true, Bool.not_false, Bool.or_false, Bool.false_or, cond_true, cond_false, okPack, okPut, okPutBlks, okPutCells, q_isP, q_isAg, q_isBox, q_isArr, q_int, q_bool, q_str, q_sl, q_nils, e_exit, e_ret, e_nrm, e_ret_exit, e_exit_ret, e_nrm_exit, e_nrm_ret, e_exit_nrm, e_ret_nrm, Nat.zero_add, Nat.reduceAdd, noslR, noslP, noslB, noslA, List.all_cons, List.all_nil, Bool.true_or]
    have ih := rchk_sum (l0 := l0) (total := total) (a := a) (b := b) hz l (d ++ [u]) (n + u) (by rw [← hd]; simp) (fun v hv => hu v (List.mem_cons_of_mem _ hv)) (by simp; omega)
    rw [w64 (n := n + u) (by omega), w64 (n := (d.length : Int) + 1) (by omega)]
    simp only [List.length_append, List.length_cons, List.length_nil] at ih
    have e3 : ((d.length : Int) + 1) = ((d.length + (0 + 1) : Nat) : Int) := by omega
    rw [e3, ih]
    simp only [sumI, Int.add_assoc]

theorem self_rise {s : Shr} (h : OkS s) (x : Int) : ¬ nxt s x < lst s x := by
  have h1 := h.2.2.2.1
  unfold nxt lst
  have : s.c * (2 * x - 1) ≤ s.c * (2 * x + 1) := Int.mul_le_mul_of_nonneg_left (by omega) (by omega)
  omega

theorem chk_in {L : List Shr} {X : List Int} (h8 : L.length ≤ 8) (hok : ∀ s ∈ L, OkS s) (hX : X.length = L.length) (hsm : ∀ x ∈ X, -5000 ≤ x ∧ x ≤ 5000) {i : Nat} {s : Shr} {x0 : Int} (hi : i < L.length) (hs : L.getD i shz = s) (hx0 : X.getD i 0 = x0) : ∀ (l p : List Shr) (xs px : List Int), L = p ++ l → X = px ++ xs → px.length = p.length →
    lp E (denC E) 29 0 [] 4 { vals := [AV.sl 3 (shK L), AV.sl 1 (intsK .i64 X), AV.int .i64 (i : Int), AV.sl 3 (shK L), AV.int .i64 (L.length : Int), AV.int .i64 (i : Int), AV.sl 3 (shK L), AV.int .i64 (L.length : Int), AV.int .i64 (p.length : Int)], blks := [Blk.box [AV.int .i64 s.lo, AV.int .i64 s.hi, AV.int .i64 s.c]] } =
      ctl (ltB s.lo x0 && hiLt (lst s x0) l xs) (some (Ex.ret, { vals := [AV.bool false], blks := [] })) (some (Ex.exit 4, { vals := [AV.sl 3 (shK L), AV.sl 1 (intsK .i64 X), AV.sl 3 (shK L), AV.int .i64 (L.length : Int), AV.int .i64 (i : Int)], blks := [] }))
  | [], p, xs, px, hL, hXX, hp => by
    have : L.length = p.length := by rw [hL]; simp
    have e : hiLt (lst s x0) [] xs = false := rfl
    rw [r29_4, ctl_dec, if_neg (by omega), e, Bool.and_false]
    rfl
  | t :: l, p, [], px, hL, hXX, hp => by
    have h1 : L.length = p.length + (l.length + 1) := by rw [hL]; simp
    have h2 : X.length = px.length := by rw [hXX]; simp
    omega
  | t :: l, p, x :: xs, px, hL, hXX, hp => by
    have hlen : p.length < L.length := by rw [hL]; simp
    have ih := chk_in h8 hok hX hsm hi hs hx0 l (p ++ [t]) xs (px ++ [x]) (by rw [hL]; simp) (by rw [hXX]; simp) (by simp [hp])
    simp only [List.length_append, List.length_cons, List.length_nil] at ih
    have hg : ∀ {α : Type} (K : List PV → Option α), getE (shK L) (p.length : Int) K = K (shC t) := fun K => by rw [hL]; exact getE_mid p t l K
    have hgx : ∀ {α : Type} (K : List PV → Option α), getE (intsK .i64 X) (p.length : Int) K = K [PV.int .i64 x] := fun K => by rw [hXX]; exact getE_imid px x xs hp K
    have hgi : ∀ {α : Type} (K : List PV → Option α), getE (intsK .i64 X) (i : Int) K = K [PV.int .i64 x0] := fun K => by rw [getE_ints (by omega), Int.toNat_natCast, hx0]
    have ht : OkS t := hok t (by rw [hL]; simp)
    have hsm1 : OkS s := by
      rw [← hs]
      refine hok _ ?_
      simp only [List.getD, List.getElem?_eq_getElem hi, Option.getD_some]
      exact List.getElem_mem _
    have hx : -5000 ≤ x ∧ x ≤ 5000 := hsm x (by rw [hXX]; simp)
    have hx00 : -5000 ≤ x0 ∧ x0 ≤ 5000 := by
      rw [← hx0]
      refine hsm _ ?_
      have : i < X.length := by omega
      simp only [List.getD, List.getElem?_eq_getElem this, Option.getD_some]
      exact List.getElem_mem _
    have q1 := c_rise ht (x := x) (by omega)
    have q2 := c_rise hsm1 (x := x0 - 1) (by omega)
    rw [rise_lst] at q2
    have e1 : ((p.length : Int) + 1) = ((p.length + (0 + 1) : Nat) : Int) := by omega
    have wx : IntKind.wrap .i64 (x0 - 1) = x0 - 1 := w64 (by omega)
    have wp : IntKind.wrap .i64 ((p.length : Int) + 1) = ((p.length + (0 + 1) : Nat) : Int) := by rw [w64 (by omega), e1]
    have eh : hiLt (lst s x0) (t :: l) (x :: xs) = ((ltB x t.hi && ltB (nxt t x) (lst s x0)) || hiLt (lst s x0) l xs) := rfl
    have eself : i = p.length → (ltB x t.hi && ltB (nxt t x) (lst s x0)) = false := fun hip => by
      have e1 : t = s := by rw [← hs, hip, hL]; exact (getD_app shz p t l rfl).symm
      have e2 : x = x0 := by rw [← hx0, hip, hXX]; exact (getD_app 0 px x xs hp).symm
      have f : ltB (nxt t x) (lst s x0) = false := by
        rw [e1, e2]
        simp only [decide_eq_false_iff_not]
        exact self_rise hsm1 x0
      rw [f, Bool.and_false]
    rw [r29_4, ctl_dec, if_pos (by omega), eh]
    simp only [hg, hgx, hgi, shC, bnd_some, ctl_true, ctl_false, ctl_and, ctl_or', ctl_or2, x_toPV, x_toCs, x_toCs2, x_toEs, x_bEs, x_bCs, x_aPV, x_aCs, x_int, x_bool, x_str, x_es, x_esn, nth_0, nth_1, nth_2, nth_3, nth_4, nth_5, nth_6, nth_7, nth_8, nth_9, y_nil, y_int, y_bool, y_str, y_sl, y_nils, y_agg, y_ownp, y_own, z_nil, z_int, z_bool, z_str, z_sl, z_nils, b_nil, b_arr, b_box1, b_box2, b_box3, b_box4, List.map_cons, List.map_nil, Bool.and_self, Bool.and_true, Bool.true_and, Bool.not_true, Bool.not_false, Bool.or_false, Bool.false_or, cond_true, cond_false, okPack, okPut, okPutBlks, okPutCells, q_isP, q_isAg, q_isBox, q_isArr, q_int, q_bool, q_str, q_sl, q_nils, e_exit, e_ret, e_nrm, e_ret_exit, e_exit_ret, e_nrm_exit, e_nrm_ret, e_exit_nrm, e_ret_nrm, Nat.zero_add, Nat.reduceAdd, noslR, noslP, noslB, noslA, List.all_cons, List.all_nil, Bool.true_or, wx, q1, q2, wp, ih]
    by_cases hip : i = p.length
    · have f : ((i : Int) != (p.length : Int)) = false := by rw [hip]; simp
      rw [eself hip, f, Bool.false_or]
      generalize hiLt (lst s x0) l xs = c
      cases ltB s.lo x0 <;> cases c <;> rfl
    · have f : ((i : Int) != (p.length : Int)) = true := by simp only [bne_iff_ne]; omega
      rw [f]
      generalize hiLt (lst s x0) l xs = c
      cases ltB s.lo x0 <;> cases ltB x t.hi <;> cases ltB (nxt t x) (lst s x0) <;> cases c <;> rfl

theorem chk_out {L : List Shr} {X : List Int} (h8 : L.length ≤ 8) (hok : ∀ s ∈ L, OkS s) (hX : X.length = L.length) (hsm : ∀ x ∈ X, -5000 ≤ x ∧ x ≤ 5000) : ∀ (l p : List Shr) (xs px : List Int), L = p ++ l → X = px ++ xs → px.length = p.length →
    lp E (denC E) 29 0 [] 2 { vals := [AV.sl 3 (shK L), AV.sl 1 (intsK .i64 X), AV.sl 3 (shK L), AV.int .i64 (L.length : Int), AV.int .i64 (p.length : Int)], blks := [] } =
      ctl (anyB L X l xs) (some (Ex.ret, { vals := [AV.bool false], blks := [] })) (some (Ex.exit 2, { vals := [], blks := [] }))
  | [], p, xs, px, hL, hXX, hp => by
    have : L.length = p.length := by rw [hL]; simp
    have e : anyB L X [] xs = false := rfl
    rw [r29_2, ctl_dec, if_neg (by omega), e]
    rfl
  | t :: l, p, [], px, hL, hXX, hp => by
    have h1 : L.length = p.length + (l.length + 1) := by rw [hL]; simp
    have h2 : X.length = px.length := by rw [hXX]; simp
    omega
  | t :: l, p, x :: xs, px, hL, hXX, hp => by
    have hlen : p.length < L.length := by rw [hL]; simp
    have ih := chk_out h8 hok hX hsm l (p ++ [t]) xs (px ++ [x]) (by rw [hL]; simp) (by rw [hXX]; simp) (by simp [hp])
    simp only [List.length_append, List.length_cons, List.length_nil] at ih
    have hg : ∀ {α : Type} (K : List PV → Option α), getE (shK L) (p.length : Int) K = K (shC t) := fun K => by rw [hL]; exact getE_mid p t l K
    have hin := chk_in h8 hok hX hsm (i := p.length) (s := t) (x0 := x) hlen (by rw [hL]; exact getD_app shz p t l rfl) (by rw [hXX]; exact getD_app 0 px x xs hp) L [] X [] rfl rfl rfl
    have e0 : (((0 : Nat)) : Int) = 0 := rfl
    simp only [List.length_nil] at hin
    rw [e0] at hin
    have e1 : ((p.length : Int) + 1) = ((p.length + (0 + 1) : Nat) : Int) := by omega
    have wp : IntKind.wrap .i64 ((p.length : Int) + 1) = ((p.length + (0 + 1) : Nat) : Int) := by rw [w64 (by omega), e1]
    have ea : anyB L X (t :: l) (x :: xs) = ((ltB t.lo x && hiLt (lst t x) L X) || anyB L X l xs) := rfl
    rw [r29_2, ctl_dec, if_pos (by omega), ea, hg]
    simp only [shC, bnd_some, ctl_true, ctl_false, ctl_and, ctl_or', ctl_or2, x_toPV, x_toCs, x_toCs2, x_toEs, x_bEs, x_bCs, x_aPV, x_aCs, x_int, x_bool, x_str, x_es, x_esn, nth_0, nth_1, nth_2, nth_3, nth_4, nth_5, nth_6, nth_7, nth_8, nth_9, y_nil, y_int, y_bool, y_str, y_sl, y_nils, y_agg, y_ownp, y_own, z_nil, z_int, z_bool, z_str, z_sl, z_nils, b_nil, b_arr, b_box1, b_box2, b_box3, b_box4, List.map_cons, List.map_nil, Bool.and_self, Bool.and_true, Bool.true_and, Bool.not_true, Bool.not_false, Bool.or_false, Bool.false_or, cond_true, cond_false, okPack, okPut, okPutBlks, okPutCells, q_isP, q_isAg, q_isBox, q_isArr, q_int, q_bool, q_str, q_sl, q_nils, e_exit, e_ret, e_nrm, e_ret_exit, e_exit_ret, e_nrm_exit, e_nrm_ret, e_exit_nrm, e_ret_nrm, Nat.zero_add, Nat.reduceAdd, noslR, noslP, noslB, noslA, List.all_cons, List.all_nil, Bool.true_or, shK_length]
    rw [hin]
    cases hc : (ltB t.lo x && hiLt (lst t x) L X) with
    | true => simp only [bnd_some, ctl_true, ctl_false, ctl_and, ctl_or', ctl_or2, x_toPV, x_toCs, x_toCs2, x_toEs, x_bEs, x_bCs, x_aPV, x_aCs, x_int, x_bool, x_str, x_es, x_esn, nth_0, nth_1, nth_2, nth_3, nth_4, nth_5, nth_6, nth_7, nth_8, nth_9, y_nil, y_int, y_bool, y_str, y_sl, y_nils, y_agg, y_ownp, y_own, z_nil, z_int, z_bool, z_str, z_sl, z_nils, b_nil, b_arr, b_box1, b_box2, b_box3, b_box4, List.map_cons, List.map_nil, Bool.and_self, Bool.and_true, Bool.true_and, Bool.not_true, Bool.not_false, Bool.or_false, Bool.false_or, cond_true, cond_false, okPack, okPut, okPutBlks, okPutCells, q_isP, q_isAg, q_isBox, q_isArr, q_int, q_bool, q_str, q_sl, q_nils, e_exit, e_ret, e_nrm, e_ret_exit, e_exit_ret, e_nrm_exit, e_nrm_ret, e_exit_nrm, e_ret_nrm, Nat.zero_add, Nat.reduceAdd, noslR, noslP, noslB, noslA, List.all_cons, List.all_nil, Bool.true_or, Bool.true_or]
    | false => simp only [bnd_some, ctl_true, ctl_false, ctl_and, ctl_or', ctl_or2, x_toPV, x_toCs, x_toCs2, x_toEs, x_bEs, x_bCs, x_aPV, x_aCs, x_int, x_bool, x_str, x_es, x_esn, nth_0, nth_1, nth_2, nth_3, nth_4, nth_5, nth_6, nth_7, nth_8, nth_9, y_nil, y_int, y_bool, y_str, y_sl, y_nils, y_agg, y_ownp, y_own, z_nil, z_int, z_bool, z_str, z_sl, z_nils, b_nil, b_arr, b_box1, b_box2, b_box3, b_box4, List.map_cons, List.map_nil, Bool.and_self, Bool.and_true, Bool.true_and, Bool.not_true, Bool.not_false, Bool.or_false, Bool.false_or, cond_true, cond_false, okPack, okPut, okPutBlks, okPutCells, q_isP, q_isAg, q_isBox, q_isArr, q_int, q_bool, q_str, q_sl, q_nils, e_exit, e_ret, e_nrm, e_ret_exit, e_exit_ret, e_nrm_exit, e_nrm_ret, e_exit_nrm, e_ret_nrm, Nat.zero_add, Nat.reduceAdd, noslR, noslP, noslB, noslA, List.all_cons, List.all_nil, Bool.true_or, wp, ih, Bool.false_or]

theorem mm_eq {l : List Shr} (h : ∀ s ∈ l, OkS s) (total : Int) : minI (highs l) (maxI (lows l) total) = clamp total (lows l) (highs l) := by
  have he := ends_in h
  rw [clamp_eq]
  unfold minI maxI
  split <;> split <;> (try split) <;> omega

theorem c_RReachBad {l : List Shr} (h : ¬ OkL l) : denC E 17 [AV.sl 3 (shK l)] [] = some ([RV.p (PV.int .i64 0), RV.p (PV.int .i64 0), RV.p (PV.int .i64 (validN l))], []) := by
  rw [denC_eq, r17, c_RValid]
  have k : (validN l != 0) = true := by simpa using fun hh => h (validN_ok.1 hh)
  simp only [bnd_some, ctl_true, ctl_false, ctl_and, ctl_or', ctl_or2, x_toPV, x_toCs, x_toCs2, x_toEs, x_bEs, x_bCs, x_aPV, x_aCs, x_int, x_bool, x_str, x_es, x_esn, nth_0, nth_1, nth_2, nth_3, nth_4, nth_5, nth_6, nth_7, nth_8, nth_9, y_nil, y_int, y_bool, y_str, y_sl, y_nils, y_agg, y_ownp, y_own, z_nil, z_int, z_bool, z_str, z_sl, z_nils, b_nil, b_arr, b_box1, b_box2, b_box3, b_box4, List.map_cons, List.map_nil, Bool.and_self, Bool.and_true, Bool.true_and, Bool.not_true, Bool.not_false, Bool.or_false, Bool.false_or, cond_true, cond_false, okPack, okPut, okPutBlks, okPutCells, q_isP, q_isAg, q_isBox, q_isArr, q_int, q_bool, q_str, q_sl, q_nils, e_exit, e_ret, e_nrm, e_ret_exit, e_exit_ret, e_nrm_exit, e_nrm_ret, e_exit_nrm, e_ret_nrm, Nat.zero_add, Nat.reduceAdd, noslR, noslP, noslB, noslA, List.all_cons, List.all_nil, Bool.true_or, k]

def chkR (l : List Shr) (k : Int) (x : List Int) : Bool := rngB l x && chk l k x
theorem c_CheckA (l : List Shr) (k : Int) (x : List Int) : denC E 28 [AV.sl 3 (shK l), AV.int .i64 k, AV.sl 1 (intsK .i64 x)] [] = some ([RV.p (PV.bool (chkR l k x))], []) := by
  unfold chkR
  cases hr : rngB l x with
  | true =>
    obtain ⟨h1, h2⟩ := rngB_iff.1 hr
    rw [c_Check h1 h2, Bool.true_and]
  | false =>
    rw [denC_eq, r28, c_rangedA, hr]
    simp only [bnd_some, ctl_true, ctl_false, ctl_and, ctl_or', ctl_or2, x_toPV, x_toCs, x_toCs2, x_toEs, x_bEs, x_bCs, x_aPV, x_aCs, x_int, x_bool, x_str, x_es, x_esn, nth_0, nth_1, nth_2, nth_3, nth_4, nth_5, nth_6, nth_7, nth_8, nth_9, y_nil, y_int, y_bool, y_str, y_sl, y_nils, y_agg, y_ownp, y_own, z_nil, z_int, z_bool, z_str, z_sl, z_nils, b_nil, b_arr, b_box1, b_box2, b_box3, b_box4, List.map_cons, List.map_nil, Bool.and_self, Bool.and_true, Bool.true_and, Bool.not_true, Bool.not_false, Bool.or_false, Bool.false_or, cond_true, cond_false, okPack, okPut, okPutBlks, okPutCells, q_isP, q_isAg, q_isBox, q_isArr, q_int, q_bool, q_str, q_sl, q_nils, e_exit, e_ret, e_nrm, e_ret_exit, e_exit_ret, e_nrm_exit, e_nrm_ret, e_exit_nrm, e_ret_nrm, Nat.zero_add, Nat.reduceAdd, noslR, noslP, noslB, noslA, List.all_cons, List.all_nil, Bool.true_or, Bool.false_and]
theorem c_RCheckA {l : List Shr} (h : l.length ≤ 1000) (k : Int) (x : List Int) : denC E 29 [AV.sl 3 (shK l), AV.int .i64 k, AV.sl 1 (intsK .i64 x)] [] = some ([RV.p (PV.bool (chkR l k x))], []) := by
  rw [denC_eq, r29, c_insideA h]
  unfold chkR
  by_cases hv : OkL l
  · rw [c_RReach hv]
    have z : ((0 : Int) != 0) = false := rfl
    cases hb : inB l x with
    | false =>
      have hr : rngB l x = false := by unfold rngB; rw [hb, Bool.and_false]
      simp only [bnd_some, ctl_true, ctl_false, ctl_and, ctl_or', ctl_or2, x_toPV, x_toCs, x_toCs2, x_toEs, x_bEs, x_bCs, x_aPV, x_aCs, x_int, x_bool, x_str, x_es, x_esn, nth_0, nth_1, nth_2, nth_3, nth_4, nth_5, nth_6, nth_7, nth_8, nth_9, y_nil, y_int, y_bool, y_str, y_sl, y_nils, y_agg, y_ownp, y_own, z_nil, z_int, z_bool, z_str, z_sl, z_nils, b_nil, b_arr, b_box1, b_box2, b_box3, b_box4, List.map_cons, List.map_nil, Bool.and_self, Bool.and_true, Bool.true_and, Bool.not_true, Bool.not_false, Bool.or_false, Bool.false_or, cond_true, cond_false, okPack, okPut, okPutBlks, okPutCells, q_isP, q_isAg, q_isBox, q_isArr, q_int, q_bool, q_str, q_sl, q_nils, e_exit, e_ret, e_nrm, e_ret_exit, e_exit_ret, e_nrm_exit, e_nrm_ret, e_exit_nrm, e_ret_nrm, Nat.zero_add, Nat.reduceAdd, noslR, noslP, noslB, noslA, List.all_cons, List.all_nil, Bool.true_or, z, hr, Bool.false_and]
    | true =>
      have hin := inB_iff.1 hb
      have hr : rngB l x = true := rngB_iff.2 ⟨hv, hin⟩
      have hlen : x.length = l.length := hin.length
      have hs := rchk_sum (z := x) (l0 := shK l) (total := k) (a := lows l) (b := highs l) (by rw [hlen]; exact hv.1) x [] 0 rfl (hin.bound hv.2) (by simp)
      simp only [List.length_nil, Int.zero_add] at hs
      have e0 : (((0 : Nat)) : Int) = 0 := rfl
      rw [e0] at hs
      have ho := chk_out hv.1 hv.2 hlen (hin.bound hv.2) l [] x [] rfl rfl rfl
      simp only [List.length_nil] at ho
      rw [e0] at ho
      simp only [bnd_some, ctl_true, ctl_false, ctl_and, ctl_or', ctl_or2, x_toPV, x_toCs, x_toCs2, x_toEs, x_bEs, x_bCs, x_aPV, x_aCs, x_int, x_bool, x_str, x_es, x_esn, nth_0, nth_1, nth_2, nth_3, nth_4, nth_5, nth_6, nth_7, nth_8, nth_9, y_nil, y_int, y_bool, y_str, y_sl, y_nils, y_agg, y_ownp, y_own, z_nil, z_int, z_bool, z_str, z_sl, z_nils, b_nil, b_arr, b_box1, b_box2, b_box3, b_box4, List.map_cons, List.map_nil, Bool.and_self, Bool.and_true, Bool.true_and, Bool.not_true, Bool.not_false, Bool.or_false, Bool.false_or, cond_true, cond_false, okPack, okPut, okPutBlks, okPutCells, q_isP, q_isAg, q_isBox, q_isArr, q_int, q_bool, q_str, q_sl, q_nils, e_exit, e_ret, e_nrm, e_ret_exit, e_exit_ret, e_nrm_exit, e_nrm_ret, e_exit_nrm, e_ret_nrm, Nat.zero_add, Nat.reduceAdd, noslR, noslP, noslB, noslA, List.all_cons, List.all_nil, Bool.true_or, z, hr, intsK_length]
      rw [hs]
      simp only [bnd_some, ctl_true, ctl_false, ctl_and, ctl_or', ctl_or2, x_toPV, x_toCs, x_toCs2, x_toEs, x_bEs, x_bCs, x_aPV, x_aCs, x_int, x_bool, x_str, x_es, x_esn, nth_0, nth_1, nth_2, nth_3, nth_4, nth_5, nth_6, nth_7, nth_8, nth_9, y_nil, y_int, y_bool, y_str, y_sl, y_nils, y_agg, y_ownp, y_own, z_nil, z_int, z_bool, z_str, z_sl, z_nils, b_nil, b_arr, b_box1, b_box2, b_box3, b_box4, List.map_cons, List.map_nil, Bool.and_self, Bool.and_true, Bool.true_and, Bool.not_true, Bool.not_false, Bool.or_false, Bool.false_or, cond_true, cond_false, okPack, okPut, okPutBlks, okPutCells, q_isP, q_isAg, q_isBox, q_isArr, q_int, q_bool, q_str, q_sl, q_nils, e_exit, e_ret, e_nrm, e_ret_exit, e_exit_ret, e_nrm_exit, e_nrm_ret, e_exit_nrm, e_ret_nrm, Nat.zero_add, Nat.reduceAdd, noslR, noslP, noslB, noslA, List.all_cons, List.all_nil, Bool.true_or, mm_eq hv.2]
      unfold chk
      rw [pair_chk]
      cases hc : (sumI x == clamp k (lows l) (highs l)) with
      | false =>
        have f : (sumI x != clamp k (lows l) (highs l)) = true := by simpa using hc
        simp only [bnd_some, ctl_true, ctl_false, ctl_and, ctl_or', ctl_or2, x_toPV, x_toCs, x_toCs2, x_toEs, x_bEs, x_bCs, x_aPV, x_aCs, x_int, x_bool, x_str, x_es, x_esn, nth_0, nth_1, nth_2, nth_3, nth_4, nth_5, nth_6, nth_7, nth_8, nth_9, y_nil, y_int, y_bool, y_str, y_sl, y_nils, y_agg, y_ownp, y_own, z_nil, z_int, z_bool, z_str, z_sl, z_nils, b_nil, b_arr, b_box1, b_box2, b_box3, b_box4, List.map_cons, List.map_nil, Bool.and_self, Bool.and_true, Bool.true_and, Bool.not_true, Bool.not_false, Bool.or_false, Bool.false_or, cond_true, cond_false, okPack, okPut, okPutBlks, okPutCells, q_isP, q_isAg, q_isBox, q_isArr, q_int, q_bool, q_str, q_sl, q_nils, e_exit, e_ret, e_nrm, e_ret_exit, e_exit_ret, e_nrm_exit, e_nrm_ret, e_exit_nrm, e_ret_nrm, Nat.zero_add, Nat.reduceAdd, noslR, noslP, noslB, noslA, List.all_cons, List.all_nil, Bool.true_or, f, Bool.false_and]
      | true =>
        have f : (sumI x != clamp k (lows l) (highs l)) = false := by simpa using hc
        simp only [bnd_some, ctl_true, ctl_false, ctl_and, ctl_or', ctl_or2, x_toPV, x_toCs, x_toCs2, x_toEs, x_bEs, x_bCs, x_aPV, x_aCs, x_int, x_bool, x_str, x_es, x_esn, nth_0, nth_1, nth_2, nth_3, nth_4, nth_5, nth_6, nth_7, nth_8, nth_9, y_nil, y_int, y_bool, y_str, y_sl, y_nils, y_agg, y_ownp, y_own, z_nil, z_int, z_bool, z_str, z_sl, z_nils, b_nil, b_arr, b_box1, b_box2, b_box3, b_box4, List.map_cons, List.map_nil, Bool.and_self, Bool.and_true, Bool.true_and, Bool.not_true, Bool.not_false, Bool.or_false, Bool.false_or, cond_true, cond_false, okPack, okPut, okPutBlks, okPutCells, q_isP, q_isAg, q_isBox, q_isArr, q_int, q_bool, q_str, q_sl, q_nils, e_exit, e_ret, e_nrm, e_ret_exit, e_exit_ret, e_nrm_exit, e_nrm_ret, e_exit_nrm, e_ret_nrm, Nat.zero_add, Nat.reduceAdd, noslR, noslP, noslB, noslA, List.all_cons, List.all_nil, Bool.true_or, f, shK_length]
        rw [ho]
        cases anyB l x l x <;> simp only [bnd_some, ctl_true, ctl_false, ctl_and, ctl_or', ctl_or2, x_toPV, x_toCs, x_toCs2, x_toEs, x_bEs, x_bCs, x_aPV, x_aCs, x_int, x_bool, x_str, x_es, x_esn, nth_0, nth_1, nth_2, nth_3, nth_4, nth_5, nth_6, nth_7, nth_8, nth_9, y_nil, y_int, y_bool, y_str, y_sl, y_nils, y_agg, y_ownp, y_own, z_nil, z_int, z_bool, z_str, z_sl, z_nils, b_nil, b_arr, b_box1, b_box2, b_box3, b_box4, List.map_cons, List.map_nil, Bool.and_self, Bool.and_true, Bool.true_and, Bool.not_true, Bool.not_false, Bool.or_false, Bool.false_or, cond_true, cond_false, okPack, okPut, okPutBlks, okPutCells, q_isP, q_isAg, q_isBox, q_isArr, q_int, q_bool, q_str, q_sl, q_nils, e_exit, e_ret, e_nrm, e_ret_exit, e_exit_ret, e_nrm_exit, e_nrm_ret, e_exit_nrm, e_ret_nrm, Nat.zero_add, Nat.reduceAdd, noslR, noslP, noslB, noslA, List.all_cons, List.all_nil, Bool.true_or]
  · have hr : rngB l x = false := by
      unfold rngB
      have z2 : (validN l == 0) = false := by simpa using fun hh => hv (validN_ok.1 hh)
      rw [z2, Bool.false_and]
    rw [c_RReachBad hv]
    have k : (validN l != 0) = true := by simpa using fun hh => hv (validN_ok.1 hh)
    simp only [bnd_some, ctl_true, ctl_false, ctl_and, ctl_or', ctl_or2, x_toPV, x_toCs, x_toCs2, x_toEs, x_bEs, x_bCs, x_aPV, x_aCs, x_int, x_bool, x_str, x_es, x_esn, nth_0, nth_1, nth_2, nth_3, nth_4, nth_5, nth_6, nth_7, nth_8, nth_9, y_nil, y_int, y_bool, y_str, y_sl, y_nils, y_agg, y_ownp, y_own, z_nil, z_int, z_bool, z_str, z_sl, z_nils, b_nil, b_arr, b_box1, b_box2, b_box3, b_box4, List.map_cons, List.map_nil, Bool.and_self, Bool.and_true, Bool.true_and, Bool.not_true, Bool.not_false, Bool.or_false, Bool.false_or, cond_true, cond_false, okPack, okPut, okPutBlks, okPutCells, q_isP, q_isAg, q_isBox, q_isArr, q_int, q_bool, q_str, q_sl, q_nils, e_exit, e_ret, e_nrm, e_ret_exit, e_exit_ret, e_nrm_exit, e_nrm_ret, e_exit_nrm, e_ret_nrm, Nat.zero_add, Nat.reduceAdd, noslR, noslP, noslB, noslA, List.all_cons, List.all_nil, Bool.true_or, k, hr, Bool.false_and]

/-! ### Divide -/
theorem c_DivA (l : List Shr) (k : Int) : ∃ (v : List Int) (m e : Int),
    denC E 13 [AV.sl 3 (shK l), AV.int .i64 k] [] = some ([RV.own 1 (intsK .i64 v), RV.p (PV.int .i64 m), RV.p (PV.int .i64 e)], []) ∧
    denC E 25 [AV.sl 3 (shK l), AV.int .i64 k] [] = some ([RV.p (PV.sl 1 (intsK .i64 v)), RV.p (PV.int .i64 m), RV.p (PV.int .i64 e)], []) ∧ v.length ≤ 8 ∧ ∀ y ∈ v, -5000 ≤ y ∧ y ≤ 5000 := by
  by_cases h : OkL l
  · by_cases hk : -500000 ≤ k ∧ k ≤ 500000
    · obtain ⟨r, r1, r2⟩ := c_Divide h hk
      have r3 := c_RDivide h hk r1
      refine ⟨_, _, _, r2, r3, ?_, ?_⟩
      · rw [divL_length h]; exact h.1
      · rw [divL_eq h]
        exact fill_small h.2
    · refine ⟨[], 0, 1, ?_, ?_, by decide, fun y hy => by cases hy⟩
      · have z : ((0 : Int) != 0) = false := rfl
        rw [denC_eq, r13, c_Reach h]
        by_cases h1 : k < -500000
        · have f : ltB k (-500000) = true := by simpa using h1
          simp only [bnd_some, ctl_true, ctl_false, ctl_and, ctl_or', ctl_or2, x_toPV, x_toCs, x_toCs2, x_toEs, x_bEs, x_bCs, x_aPV, x_aCs, x_int, x_bool, x_str, x_es, x_esn, nth_0, nth_1, nth_2, nth_3, nth_4, nth_5, nth_6, nth_7, nth_8, nth_9, y_nil, y_int, y_bool, y_str, y_sl, y_nils, y_agg, y_ownp, y_own, z_nil, z_int, z_bool, z_str, z_sl, z_nils, b_nil, b_arr, b_box1, b_box2, b_box3, b_box4, List.map_cons, List.map_nil, Bool.and_self, Bool.and_true, Bool.true_and, Bool.not_true, Bool.not_false, Bool.or_false, Bool.false_or, cond_true, cond_false, okPack, okPut, okPutBlks, okPutCells, q_isP, q_isAg, q_isBox, q_isArr, q_int, q_bool, q_str, q_sl, q_nils, e_exit, e_ret, e_nrm, e_ret_exit, e_exit_ret, e_nrm_exit, e_nrm_ret, e_exit_nrm, e_ret_nrm, Nat.zero_add, Nat.reduceAdd, noslR, noslP, noslB, noslA, List.all_cons, List.all_nil, Bool.true_or, z, f]
          rfl
        · have f : ltB k (-500000) = false := by simpa using h1
          have f2 : ltB 500000 k = true := by simp only [decide_eq_true_eq]; omega
          simp only [bnd_some, ctl_true, ctl_false, ctl_and, ctl_or', ctl_or2, x_toPV, x_toCs, x_toCs2, x_toEs, x_bEs, x_bCs, x_aPV, x_aCs, x_int, x_bool, x_str, x_es, x_esn, nth_0, nth_1, nth_2, nth_3, nth_4, nth_5, nth_6, nth_7, nth_8, nth_9, y_nil, y_int, y_bool, y_str, y_sl, y_nils, y_agg, y_ownp, y_own, z_nil, z_int, z_bool, z_str, z_sl, z_nils, b_nil, b_arr, b_box1, b_box2, b_box3, b_box4, List.map_cons, List.map_nil, Bool.and_self, Bool.and_true, Bool.true_and, Bool.not_true, Bool.not_false, Bool.or_false, Bool.false_or, cond_true, cond_false, okPack, okPut, okPutBlks, okPutCells, q_isP, q_isAg, q_isBox, q_isArr, q_int, q_bool, q_str, q_sl, q_nils, e_exit, e_ret, e_nrm, e_ret_exit, e_exit_ret, e_nrm_exit, e_nrm_ret, e_exit_nrm, e_ret_nrm, Nat.zero_add, Nat.reduceAdd, noslR, noslP, noslB, noslA, List.all_cons, List.all_nil, Bool.true_or, z, f, f2]
          rfl
      · have z : ((0 : Int) != 0) = false := rfl
        rw [denC_eq, r25, c_RReach h]
        by_cases h1 : k < -500000
        · have f : ltB k (-500000) = true := by simpa using h1
          simp only [bnd_some, ctl_true, ctl_false, ctl_and, ctl_or', ctl_or2, x_toPV, x_toCs, x_toCs2, x_toEs, x_bEs, x_bCs, x_aPV, x_aCs, x_int, x_bool, x_str, x_es, x_esn, nth_0, nth_1, nth_2, nth_3, nth_4, nth_5, nth_6, nth_7, nth_8, nth_9, y_nil, y_int, y_bool, y_str, y_sl, y_nils, y_agg, y_ownp, y_own, z_nil, z_int, z_bool, z_str, z_sl, z_nils, b_nil, b_arr, b_box1, b_box2, b_box3, b_box4, List.map_cons, List.map_nil, Bool.and_self, Bool.and_true, Bool.true_and, Bool.not_true, Bool.not_false, Bool.or_false, Bool.false_or, cond_true, cond_false, okPack, okPut, okPutBlks, okPutCells, q_isP, q_isAg, q_isBox, q_isArr, q_int, q_bool, q_str, q_sl, q_nils, e_exit, e_ret, e_nrm, e_ret_exit, e_exit_ret, e_nrm_exit, e_nrm_ret, e_exit_nrm, e_ret_nrm, Nat.zero_add, Nat.reduceAdd, noslR, noslP, noslB, noslA, List.all_cons, List.all_nil, Bool.true_or, z, f]
          rfl
        · have f : ltB k (-500000) = false := by simpa using h1
          have f2 : ltB 500000 k = true := by simp only [decide_eq_true_eq]; omega
          simp only [bnd_some, ctl_true, ctl_false, ctl_and, ctl_or', ctl_or2, x_toPV, x_toCs, x_toCs2, x_toEs, x_bEs, x_bCs, x_aPV, x_aCs, x_int, x_bool, x_str, x_es, x_esn, nth_0, nth_1, nth_2, nth_3, nth_4, nth_5, nth_6, nth_7, nth_8, nth_9, y_nil, y_int, y_bool, y_str, y_sl, y_nils, y_agg, y_ownp, y_own, z_nil, z_int, z_bool, z_str, z_sl, z_nils, b_nil, b_arr, b_box1, b_box2, b_box3, b_box4, List.map_cons, List.map_nil, Bool.and_self, Bool.and_true, Bool.true_and, Bool.not_true, Bool.not_false, Bool.or_false, Bool.false_or, cond_true, cond_false, okPack, okPut, okPutBlks, okPutCells, q_isP, q_isAg, q_isBox, q_isArr, q_int, q_bool, q_str, q_sl, q_nils, e_exit, e_ret, e_nrm, e_ret_exit, e_exit_ret, e_nrm_exit, e_nrm_ret, e_exit_nrm, e_ret_nrm, Nat.zero_add, Nat.reduceAdd, noslR, noslP, noslB, noslA, List.all_cons, List.all_nil, Bool.true_or, z, f, f2]
          rfl
  · have z : (validN l != 0) = true := by simpa using fun hh => h (validN_ok.1 hh)
    refine ⟨[], 0, validN l, ?_, ?_, by decide, fun y hy => by cases hy⟩
    · rw [denC_eq, r13, c_ReachBad h]
      simp only [bnd_some, ctl_true, ctl_false, ctl_and, ctl_or', ctl_or2, x_toPV, x_toCs, x_toCs2, x_toEs, x_bEs, x_bCs, x_aPV, x_aCs, x_int, x_bool, x_str, x_es, x_esn, nth_0, nth_1, nth_2, nth_3, nth_4, nth_5, nth_6, nth_7, nth_8, nth_9, y_nil, y_int, y_bool, y_str, y_sl, y_nils, y_agg, y_ownp, y_own, z_nil, z_int, z_bool, z_str, z_sl, z_nils, b_nil, b_arr, b_box1, b_box2, b_box3, b_box4, List.map_cons, List.map_nil, Bool.and_self, Bool.and_true, Bool.true_and, Bool.not_true, Bool.not_false, Bool.or_false, Bool.false_or, cond_true, cond_false, okPack, okPut, okPutBlks, okPutCells, q_isP, q_isAg, q_isBox, q_isArr, q_int, q_bool, q_str, q_sl, q_nils, e_exit, e_ret, e_nrm, e_ret_exit, e_exit_ret, e_nrm_exit, e_nrm_ret, e_exit_nrm, e_ret_nrm, Nat.zero_add, Nat.reduceAdd, noslR, noslP, noslB, noslA, List.all_cons, List.all_nil, Bool.true_or, z]
      rfl
    · rw [denC_eq, r25, c_RReachBad h]
      simp only [bnd_some, ctl_true, ctl_false, ctl_and, ctl_or', ctl_or2, x_toPV, x_toCs, x_toCs2, x_toEs, x_bEs, x_bCs, x_aPV, x_aCs, x_int, x_bool, x_str, x_es, x_esn, nth_0, nth_1, nth_2, nth_3, nth_4, nth_5, nth_6, nth_7, nth_8, nth_9, y_nil, y_int, y_bool, y_str, y_sl, y_nils, y_agg, y_ownp, y_own, z_nil, z_int, z_bool, z_str, z_sl, z_nils, b_nil, b_arr, b_box1, b_box2, b_box3, b_box4, List.map_cons, List.map_nil, Bool.and_self, Bool.and_true, Bool.true_and, Bool.not_true, Bool.not_false, Bool.or_false, Bool.false_or, cond_true, cond_false, okPack, okPut, okPutBlks, okPutCells, q_isP, q_isAg, q_isBox, q_isArr, q_int, q_bool, q_str, q_sl, q_nils, e_exit, e_ret, e_nrm, e_ret_exit, e_exit_ret, e_nrm_exit, e_nrm_ret, e_exit_nrm, e_ret_nrm, Nat.zero_add, Nat.reduceAdd, noslR, noslP, noslB, noslA, List.all_cons, List.all_nil, Bool.true_or, z]
      rfl

end Go.Proofs.Ytbacfgghneknjaa.Vm
