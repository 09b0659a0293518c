/- Capability: contracts. -/
import Derived.Test.YtaekifnmofjhhaaAllocX
namespace Go.Proofs.Ytaekifnmofjhhaa.Vm
set_option linter.unusedVariables false
set_option linter.unusedSimpArgs false

/-! ### Lists of numbers that are equal -/
theorem ints_loop : ∀ (a b p q : List Int), p.length = q.length → a.length = b.length → (p ++ a).length ≤ 1000000000000 →
    lp E (denC E) 21 0 [] 0 { vals := [AV.sl 1 (intsK .i64 (p ++ a)), AV.sl 1 (intsK .i64 (q ++ b)), AV.int .i64 ((p ++ a).length : Int), AV.int .i64 (p.length : Int)], blks := [] } =
      if a = b then some (Ex.exit 0, { vals := [], blks := [] }) else some (Ex.ret, { vals := [AV.bool false], blks := [] })
  | [], [], p, q, hpq, _, hl => by
    rw [r21_0, ctl_dec, if_neg (by simp)]
    rfl
  | x :: a, y :: b, p, q, hpq, hab, hl => by
    simp only [List.length_append, List.length_cons] at hl
    simp only [List.length_cons] at hab
    rw [r21_0, ctl_dec, if_pos (by simp; omega), getE_ints (by simp; omega), getE_ints (by simp; omega)]
    have hx : (p ++ x :: a).getD ((p.length : Int)).toNat 0 = x := by simp [List.getD]
    have hy : (q ++ y :: b).getD ((p.length : Int)).toNat 0 = y := by simp [List.getD, hpq]
    rw [hx, hy]
    simp only [bnd_some, ctl_true, ctl_false, ctl_and, ctl_or', ctl_or2, x_toPV, x_toCs, x_toCs2, x_toEs, x_bEs, x_bCs, x_aPV, x_aCs, x_int, x_bool, x_str, x_es, x_esn, nth_0, nth_1, nth_2, nth_3, nth_4, nth_5, nth_6, nth_7, nth_8, nth_9, y_nil, y_int, y_bool, y_str, y_sl, y_nils, y_agg, y_ownp, y_own, z_nil, z_int, z_bool, z_str, z_sl, z_nils, b_nil, b_arr, b_box1, b_box2, b_box3, b_box4, List.map_cons, List.map_nil, Bool.and_self, Bool.and_true, Bool.true_and, Bool.not_true, Bool.not_false, Bool.or_false, Bool.false_or, cond_true, cond_false, okPack, okPut, okPutBlks, okPutCells, q_isP, q_isAg, q_isBox, q_isArr, q_int, q_bool, q_str, q_sl, q_nils, e_exit, e_ret, e_nrm, e_ret_exit, e_exit_ret, e_nrm_exit, e_nrm_ret, e_exit_nrm, e_ret_nrm, Nat.zero_add, Nat.reduceAdd, noslR, noslP, noslB, noslA, List.all_cons, List.all_nil]
    by_cases h : x = y
    · have hz : (x != y) = false := by simp [h]
      rw [hz, ctl_false, w64 (by omega)]
      have ih := ints_loop a b (p ++ [x]) (q ++ [y]) (by simp [hpq]) (by omega) (by simp; omega)
      simp only [List.append_assoc, List.cons_append, List.nil_append, List.length_append, List.length_cons, List.length_nil] at ih
      simp only [List.length_append, List.length_cons]
      have e1 : ((p.length : Int) + 1) = ((p.length + (0 + 1) : Nat) : Int) := by omega
      rw [e1, ih]
      simp [h]
    · have hz : (x != y) = true := by simp [h]
      rw [hz, ctl_true]
      simp [h]
  | [], _ :: _, _, _, _, h, _ => by simp at h
  | _ :: _, [], _, _, _, h, _ => by simp at h

theorem c_Ints (a b : List Int) (ha : a.length ≤ 1000000000000) : denC E 21 [AV.sl 1 (intsK .i64 a), AV.sl 1 (intsK .i64 b)] [] = some ([RV.p (PV.bool (decide (a = b)))], []) := by
  rw [denC_eq, r21, intsK_length, intsK_length]
  by_cases h : a.length = b.length
  · have hz : ((a.length : Int) != (b.length : Int)) = false := by simp [h]
    rw [hz, ctl_false]
    have hl := ints_loop a b [] [] rfl h (by simpa using ha)
    simp only [List.nil_append, List.length_nil] at hl
    have e0 : (((0 : Nat)) : Int) = 0 := rfl
    rw [e0] at hl
    rw [hl]
    by_cases hab : a = b
    · rw [if_pos hab]
      simp only [bnd_some, ctl_true, ctl_false, ctl_and, ctl_or', ctl_or2, x_toPV, x_toCs, x_toCs2, x_toEs, x_bEs, x_bCs, x_aPV, x_aCs, x_int, x_bool, x_str, x_es, x_esn, nth_0, nth_1, nth_2, nth_3, nth_4, nth_5, nth_6, nth_7, nth_8, nth_9, y_nil, y_int, y_bool, y_str, y_sl, y_nils, y_agg, y_ownp, y_own, z_nil, z_int, z_bool, z_str, z_sl, z_nils, b_nil, b_arr, b_box1, b_box2, b_box3, b_box4, List.map_cons, List.map_nil, Bool.and_self, Bool.and_true, Bool.true_and, Bool.not_true, Bool.not_false, Bool.or_false, Bool.false_or, cond_true, cond_false, okPack, okPut, okPutBlks, okPutCells, q_isP, q_isAg, q_isBox, q_isArr, q_int, q_bool, q_str, q_sl, q_nils, e_exit, e_ret, e_nrm, e_ret_exit, e_exit_ret, e_nrm_exit, e_nrm_ret, e_exit_nrm, e_ret_nrm, Nat.zero_add, Nat.reduceAdd, noslR, noslP, noslB, noslA, List.all_cons, List.all_nil]
      simp [hab]
    · rw [if_neg hab]
      simp only [bnd_some, ctl_true, ctl_false, ctl_and, ctl_or', ctl_or2, x_toPV, x_toCs, x_toCs2, x_toEs, x_bEs, x_bCs, x_aPV, x_aCs, x_int, x_bool, x_str, x_es, x_esn, nth_0, nth_1, nth_2, nth_3, nth_4, nth_5, nth_6, nth_7, nth_8, nth_9, y_nil, y_int, y_bool, y_str, y_sl, y_nils, y_agg, y_ownp, y_own, z_nil, z_int, z_bool, z_str, z_sl, z_nils, b_nil, b_arr, b_box1, b_box2, b_box3, b_box4, List.map_cons, List.map_nil, Bool.and_self, Bool.and_true, Bool.true_and, Bool.not_true, Bool.not_false, Bool.or_false, Bool.false_or, cond_true, cond_false, okPack, okPut, okPutBlks, okPutCells, q_isP, q_isAg, q_isBox, q_isArr, q_int, q_bool, q_str, q_sl, q_nils, e_exit, e_ret, e_nrm, e_ret_exit, e_exit_ret, e_nrm_exit, e_nrm_ret, e_exit_nrm, e_ret_nrm, Nat.zero_add, Nat.reduceAdd, noslR, noslP, noslB, noslA, List.all_cons, List.all_nil]
      simp [hab]
  · have hz : ((a.length : Int) != (b.length : Int)) = true := by simp; omega
    rw [hz, ctl_true]
    have : a ≠ b := fun e => h (by rw [e])
    simp [this]



/-! ### Quotients -/
theorem c_QFloor {n d : Int} (hd : 0 < d) (hn : -9000000000000000000 ≤ n ∧ n ≤ 9000000000000000000) : denC E 41 [AV.int .i64 n, AV.int .i64 d] [] = some ([RV.p (PV.int .i64 (n / d))], []) := by
  rw [denC_eq, r41]
  have hb : -9000000000000000001 ≤ n / d ∧ n / d ≤ 9000000000000000000 := by
    have h1 := Int.mul_ediv_add_emod n d
    have h3 := Int.emod_nonneg n (Int.ne_of_gt hd)
    have h4 := Int.emod_lt_of_pos n hd
    constructor
    · rcases Int.lt_or_le (n / d) (-9000000000000000000) with h | h
      · have h5 : d * (n / d) ≤ d * (-9000000000000000001) := Int.mul_le_mul_of_nonneg_left (by omega) (by omega)
        omega
      · omega
    · rcases Int.lt_or_le 9000000000000000000 (n / d) with h | h
      · have h5 : d * 9000000000000000001 ≤ d * (n / d) := Int.mul_le_mul_of_nonneg_left (by omega) (by omega)
        omega
      · exact h
  have hf := floor_div (n := n) hd
  have hq : n.tdiv d = n / d ∨ n.tdiv d = n / d + 1 := by
    split at hf <;> omega
  have hne : neB d 0 = true := by simp; omega
  simp only [hne, Bool.and_self, ctl_true]
  rw [ctl_dec, w64 (n := n.tdiv d) (by omega), w64 (by omega), ← hf]
  split <;> rfl

/-- Half of the program and of the document are the same. -/
theorem c_QHalf {n d : Int} (hd : 1 ≤ d ∧ d ≤ 1000000000) (hn : -1000000000000000000 ≤ n ∧ n ≤ 1000000000000000000) : denC E 30 [AV.int .i64 n, AV.int .i64 d] [] = some ([RV.p (PV.int .i64 (Half n d))], []) := by
  rw [denC_eq, r30, c_QFloor (by omega) (by omega)]
  have h1 := Int.mul_ediv_add_emod n d
  have h2 := Int.emod_nonneg n (b := d) (by omega)
  have h3 := Int.emod_lt_of_pos n (b := d) (by omega)
  have hb := Int.ediv_le_self (a := n) d
  have hs := half_spec (n := n) (d := d) (by omega)
  have hq : -1000000000000000001 ≤ n / d ∧ n / d ≤ 1000000000000000000 := by
    constructor
    · rcases Int.lt_or_le (n / d) (-1000000000000000000) with h | h
      · have h5 : d * (n / d) ≤ d * (-1000000000000000001) := Int.mul_le_mul_of_nonneg_left (by omega) (by omega)
        omega
      · omega
    · rcases Int.lt_or_le 1000000000000000000 (n / d) with h | h
      · have h5 : d * 1000000000000000001 ≤ d * (n / d) := Int.mul_le_mul_of_nonneg_left (by omega) (by omega)
        omega
      · exact h
  have e : n / d * d = d * (n / d) := Int.mul_comm ..
  have key : Half n d = if d - n % d ≤ n % d then n / d + 1 else n / d := by
    have hd2 : 0 < 2 * d := by omega
    unfold Half
    split
    · have : 2 * n + d = (2 * (n % d) - d) + (n / d + 1) * (2 * d) := by
        have e1 : (n / d + 1) * (2 * d) = 2 * (d * (n / d)) + 2 * d := by
          rw [Int.add_mul, Int.one_mul, ← Int.mul_assoc, Int.mul_comm (n / d) 2, Int.mul_assoc, e]
        omega
      rw [this, Int.add_mul_ediv_right _ _ (by omega), Int.ediv_eq_zero_of_lt (by omega) (by omega), Int.zero_add]
    · have : 2 * n + d = (2 * (n % d) + d) + (n / d) * (2 * d) := by
        have e1 : (n / d) * (2 * d) = 2 * (d * (n / d)) := by
          rw [← Int.mul_assoc, Int.mul_comm (n / d) 2, Int.mul_assoc, e]
        omega
      rw [this, Int.add_mul_ediv_right _ _ (by omega), Int.ediv_eq_zero_of_lt (by omega) (by omega), Int.zero_add]
  simp only [bnd_some, ctl_true, ctl_false, ctl_and, ctl_or', ctl_or2, x_toPV, x_toCs, x_toCs2, x_toEs, x_bEs, x_bCs, x_aPV, x_aCs, x_int, x_bool, x_str, x_es, x_esn, nth_0, nth_1, nth_2, nth_3, nth_4, nth_5, nth_6, nth_7, nth_8, nth_9, y_nil, y_int, y_bool, y_str, y_sl, y_nils, y_agg, y_ownp, y_own, z_nil, z_int, z_bool, z_str, z_sl, z_nils, b_nil, b_arr, b_box1, b_box2, b_box3, b_box4, List.map_cons, List.map_nil, Bool.and_self, Bool.and_true, Bool.true_and, Bool.not_true, Bool.not_false, Bool.or_false, Bool.false_or, cond_true, cond_false, okPack, okPut, okPutBlks, okPutCells, q_isP, q_isAg, q_isBox, q_isArr, q_int, q_bool, q_str, q_sl, q_nils, e_exit, e_ret, e_nrm, e_ret_exit, e_exit_ret, e_nrm_exit, e_nrm_ret, e_exit_nrm, e_ret_nrm, Nat.zero_add, Nat.reduceAdd, noslR, noslP, noslB, noslA, List.all_cons, List.all_nil]
  rw [e, w64 (n := d * (n / d)) (by omega)]
  have e2 : n - d * (n / d) = n % d := by omega
  rw [e2, w64 (n := n % d) (by omega), w64 (n := d - n % d) (by omega), w64 (n := n / d + 1) (by omega), key, ctl_dec]
  split <;> rfl

theorem half_le {n d N : Int} (hd : 1 ≤ d) (h0 : 0 ≤ N) (h : -N ≤ n ∧ n ≤ N) : -(N + 1) ≤ Half n d ∧ Half n d ≤ N + 1 := by
  have hs := half_spec (n := n) (d := d) (by omega)
  generalize Half n d = x at *
  constructor
  · rcases Int.lt_or_le x (-(N + 1)) with hx | hx
    · have h1 : d * x ≤ d * (-(N + 2)) := Int.mul_le_mul_of_nonneg_left (by omega) (by omega)
      have h2 : 1 * (N + 2) ≤ d * (N + 2) := Int.mul_le_mul_of_nonneg_right hd (by omega)
      have h3 : d * N ≥ 0 := Int.mul_nonneg (by omega) h0
      have h4 : 1 * N ≤ d * N := Int.mul_le_mul_of_nonneg_right hd h0
      have h5 : d * (-(N + 2)) = -(d * N) - 2 * d := by rw [Int.mul_neg, Int.mul_add]; omega
      omega
    · exact hx
  · rcases Int.lt_or_le (N + 1) x with hx | hx
    · have h1 : d * (N + 2) ≤ d * x := Int.mul_le_mul_of_nonneg_left (by omega) (by omega)
      have h4 : 1 * N ≤ d * N := Int.mul_le_mul_of_nonneg_right hd h0
      have h5 : d * (N + 2) = d * N + 2 * d := by rw [Int.mul_add]; omega
      omega
    · exact hx

theorem qw_loop (m : Int) (hm : 0 ≤ m ∧ m ≤ 1000000000) : ∀ (l p : List Int), (∀ n ∈ l, -m ≤ n ∧ n ≤ m) → (p ++ l).length ≤ 1000 →
    lp E (denC E) 40 0 [] 0 { vals := [AV.int .i64 m, AV.sl 1 (intsK .i64 (p ++ l)), AV.int .i64 ((p ++ l).length : Int), AV.int .i64 (p.length : Int)], blks := [] } = some (Ex.exit 0, { vals := [], blks := [] })
  | [], p, hs, h => by
    rw [r40_0, ctl_dec, if_neg (by simp)]
  | s :: l, p, hs, h => by
    have h1 := hs s (List.mem_cons_self ..)
    have ih := qw_loop m hm l (p ++ [s]) (fun n hn => hs n (List.mem_cons_of_mem _ hn)) (by simp at h ⊢; omega)
    simp only [List.length_append, List.length_cons] at h
    rw [r40_0, ctl_dec, if_pos (by simp; omega), getE_int1]
    simp only [List.append_assoc, List.cons_append, List.nil_append, List.length_append, List.length_cons, List.length_nil] at ih
    have e1 : ltB s (-m) = false := by simp only [decide_eq_false_iff_not]; omega
    have e2 : ltB m s = false := by simp only [decide_eq_false_iff_not]; omega
    have e3 : (0 : Int) - m = -m := by omega
    simp only [List.length_append, List.length_cons, bnd_some, ctl_true, ctl_false, ctl_and, ctl_or', ctl_or2, x_toPV, x_toCs, x_toCs2, x_toEs, x_bEs, x_bCs, x_aPV, x_aCs, x_int, x_bool, x_str, x_es, x_esn, nth_0, nth_1, nth_2, nth_3, nth_4, nth_5, nth_6, nth_7, nth_8, nth_9, y_nil, y_int, y_bool, y_str, y_sl, y_nils, y_agg, y_ownp, y_own, z_nil, z_int, z_bool, z_str, z_sl, z_nils, b_nil, b_arr, b_box1, b_box2, b_box3, b_box4, List.map_cons, List.map_nil, Bool.and_self, Bool.and_true, Bool.true_and, Bool.not_true, Bool.not_false, Bool.or_false, Bool.false_or, cond_true, cond_false, okPack, okPut, okPutBlks, okPutCells, q_isP, q_isAg, q_isBox, q_isArr, q_int, q_bool, q_str, q_sl, q_nils, e_exit, e_ret, e_nrm, e_ret_exit, e_exit_ret, e_nrm_exit, e_nrm_ret, e_exit_nrm, e_ret_nrm, Nat.zero_add, Nat.reduceAdd, noslR, noslP, noslB, noslA, List.all_cons, List.all_nil]
    rw [w64 (n := 0 - m) (by omega), e3, w64 (n := (p.length : Int) + 1) (by omega)]
    simp only [e1, e2, bnd_some, ctl_true, ctl_false, ctl_and, ctl_or', ctl_or2, x_toPV, x_toCs, x_toCs2, x_toEs, x_bEs, x_bCs, x_aPV, x_aCs, x_int, x_bool, x_str, x_es, x_esn, nth_0, nth_1, nth_2, nth_3, nth_4, nth_5, nth_6, nth_7, nth_8, nth_9, y_nil, y_int, y_bool, y_str, y_sl, y_nils, y_agg, y_ownp, y_own, z_nil, z_int, z_bool, z_str, z_sl, z_nils, b_nil, b_arr, b_box1, b_box2, b_box3, b_box4, List.map_cons, List.map_nil, Bool.and_self, Bool.and_true, Bool.true_and, Bool.not_true, Bool.not_false, Bool.or_false, Bool.false_or, cond_true, cond_false, okPack, okPut, okPutBlks, okPutCells, q_isP, q_isAg, q_isBox, q_isArr, q_int, q_bool, q_str, q_sl, q_nils, e_exit, e_ret, e_nrm, e_ret_exit, e_exit_ret, e_nrm_exit, e_nrm_ret, e_exit_nrm, e_ret_nrm, Nat.zero_add, Nat.reduceAdd, noslR, noslP, noslB, noslA, List.all_cons, List.all_nil]
    have e1 : ((p.length : Int) + 1) = ((p.length + (0 + 1) : Nat) : Int) := by omega
    rw [e1, ih]

/-! ### Loads -/
/-- Loads that are small enough. -/
def Sml (m : Int) (f : Int × Int × Int) : Prop := (-m ≤ f.1 ∧ f.1 ≤ m) ∧ (-m ≤ f.2.1 ∧ f.2.1 ≤ m) ∧ -(10 * m) ≤ f.2.2 ∧ f.2.2 ≤ 10 * m
theorem Sml_mono {m k : Int} {f : Int × Int × Int} (h : Sml m f) (hk : m ≤ k) : Sml k f := by unfold Sml at *; omega
def frC (f : Int × Int × Int) : List PV := [PV.int .i64 f.1, PV.int .i64 f.2.1, PV.int .i64 f.2.2]

theorem c_fvalid {f : Int × Int × Int} (h : Sml 1000 f) : denC E 27 [AV.agg [PV.int .i64 f.1, PV.int .i64 f.2.1, PV.int .i64 f.2.2]] [] = some ([RV.p (PV.bool true)], []) := by
  unfold Sml at h
  have hl := qw_loop 1000000 (by omega) [f.1, f.2.1, f.2.2] [] (fun n hn => by
    simp only [List.mem_cons, List.not_mem_nil, or_false] at hn
    rcases hn with rfl | rfl | rfl <;> omega) (by simp)
  simp only [List.nil_append, List.length_nil] at hl
  have hw : denC E 40 [AV.int .i64 1000000, AV.sl 1 [[PV.int .i64 f.1], [PV.int .i64 f.2.1], [PV.int .i64 f.2.2]]] [] = some ([RV.p (PV.bool true)], []) := by
    rw [denC_eq, r40]
    have e : lp E (denC E) 40 0 [] 0 { vals := [AV.int .i64 1000000, AV.sl 1 [[PV.int .i64 f.1], [PV.int .i64 f.2.1], [PV.int .i64 f.2.2]], AV.int .i64 (([[PV.int .i64 f.1], [PV.int .i64 f.2.1], [PV.int .i64 f.2.2]] : List (List PV)).length : Int), AV.int .i64 0], blks := [] } = _ := hl
    rw [e]
    simp only [bnd_some, ctl_true, ctl_false, ctl_and, ctl_or', ctl_or2, x_toPV, x_toCs, x_toCs2, x_toEs, x_bEs, x_bCs, x_aPV, x_aCs, x_int, x_bool, x_str, x_es, x_esn, nth_0, nth_1, nth_2, nth_3, nth_4, nth_5, nth_6, nth_7, nth_8, nth_9, y_nil, y_int, y_bool, y_str, y_sl, y_nils, y_agg, y_ownp, y_own, z_nil, z_int, z_bool, z_str, z_sl, z_nils, b_nil, b_arr, b_box1, b_box2, b_box3, b_box4, List.map_cons, List.map_nil, Bool.and_self, Bool.and_true, Bool.true_and, Bool.not_true, Bool.not_false, Bool.or_false, Bool.false_or, cond_true, cond_false, okPack, okPut, okPutBlks, okPutCells, q_isP, q_isAg, q_isBox, q_isArr, q_int, q_bool, q_str, q_sl, q_nils, e_exit, e_ret, e_nrm, e_ret_exit, e_exit_ret, e_nrm_exit, e_nrm_ret, e_exit_nrm, e_ret_nrm, Nat.zero_add, Nat.reduceAdd, noslR, noslP, noslB, noslA, List.all_cons, List.all_nil]
  rw [denC_eq, r27, hw]
  simp only [bnd_some, ctl_true, ctl_false, ctl_and, ctl_or', ctl_or2, x_toPV, x_toCs, x_toCs2, x_toEs, x_bEs, x_bCs, x_aPV, x_aCs, x_int, x_bool, x_str, x_es, x_esn, nth_0, nth_1, nth_2, nth_3, nth_4, nth_5, nth_6, nth_7, nth_8, nth_9, y_nil, y_int, y_bool, y_str, y_sl, y_nils, y_agg, y_ownp, y_own, z_nil, z_int, z_bool, z_str, z_sl, z_nils, b_nil, b_arr, b_box1, b_box2, b_box3, b_box4, List.map_cons, List.map_nil, Bool.and_self, Bool.and_true, Bool.true_and, Bool.not_true, Bool.not_false, Bool.or_false, Bool.false_or, cond_true, cond_false, okPack, okPut, okPutBlks, okPutCells, q_isP, q_isAg, q_isBox, q_isArr, q_int, q_bool, q_str, q_sl, q_nils, e_exit, e_ret, e_nrm, e_ret_exit, e_exit_ret, e_nrm_exit, e_nrm_ret, e_exit_nrm, e_ret_nrm, Nat.zero_add, Nat.reduceAdd, noslR, noslP, noslB, noslA, List.all_cons, List.all_nil]

theorem c_eachN {f : Int × Int × Int} (h : Sml 1000 f) : denC E 28 [AV.agg [PV.int .i64 f.1, PV.int .i64 f.2.1, PV.int .i64 f.2.2], AV.fn 32 []] [] = some ([RV.agg [PV.int .i64 (-f.1), PV.int .i64 (-f.2.1), PV.int .i64 (-f.2.2)]], []) := by
  unfold Sml at h
  have hn : ∀ x : Int, -10000 ≤ x ∧ x ≤ 10000 → denC E 32 [AV.int .i64 x] [] = some ([RV.p (PV.int .i64 (-x))], []) := fun x hx => by
    rw [denC_eq, r32, w64 (n := 0 - x) (by omega)]
    have : (0 : Int) - x = -x := by omega
    rw [this]
  rw [denC_eq, r28b, hn f.1 (by omega), hn f.2.1 (by omega), hn f.2.2 (by omega)]
  simp only [bnd_some, ctl_true, ctl_false, ctl_and, ctl_or', ctl_or2, x_toPV, x_toCs, x_toCs2, x_toEs, x_bEs, x_bCs, x_aPV, x_aCs, x_int, x_bool, x_str, x_es, x_esn, nth_0, nth_1, nth_2, nth_3, nth_4, nth_5, nth_6, nth_7, nth_8, nth_9, y_nil, y_int, y_bool, y_str, y_sl, y_nils, y_agg, y_ownp, y_own, z_nil, z_int, z_bool, z_str, z_sl, z_nils, b_nil, b_arr, b_box1, b_box2, b_box3, b_box4, List.map_cons, List.map_nil, Bool.and_self, Bool.and_true, Bool.true_and, Bool.not_true, Bool.not_false, Bool.or_false, Bool.false_or, cond_true, cond_false, okPack, okPut, okPutBlks, okPutCells, q_isP, q_isAg, q_isBox, q_isArr, q_int, q_bool, q_str, q_sl, q_nils, e_exit, e_ret, e_nrm, e_ret_exit, e_exit_ret, e_nrm_exit, e_nrm_ret, e_exit_nrm, e_ret_nrm, Nat.zero_add, Nat.reduceAdd, noslR, noslP, noslB, noslA, List.all_cons, List.all_nil]

/-- The demand of a load. -/
def bowF (s : Shp) (f : Int × Int × Int) : Int := Half (-f.2.2 + -f.2.1 * s.sn) (s.bw + s.sn)
theorem bowF_le {s : Shp} (h : OkShp s) {f : Int × Int × Int} (hf : Sml 1000 f) : -300000 ≤ bowF s f ∧ bowF s f ≤ 300000 := by
  obtain ⟨g1, g2, g3, g4, g5, g6, g7⟩ := h
  unfold Sml at hf
  have m1 := mul_le (a := -f.2.1) (b := s.sn) (m := 1000) (n := 200) (by omega) (by omega)
  have := half_le (n := -f.2.2 + -f.2.1 * s.sn) (d := s.bw + s.sn) (N := 210000) (by omega) (by omega) (by omega)
  unfold bowF
  omega
theorem c_CDemand {s : Shp} (h : OkShp s) {f : Int × Int × Int} (hf : Sml 1000 f) :
    denC E 16 [AV.agg (shpC s), AV.agg [PV.int .i64 f.1, PV.int .i64 f.2.1, PV.int .i64 f.2.2]] [] = some ([RV.agg [PV.int .i64 (-f.1), PV.int .i64 (bowF s f), PV.int .i64 (-f.2.1 - bowF s f)], RV.p (PV.int .i64 0)], []) := by
  have hv := c_fvalid hf
  have he := c_eachN hf
  have hb := bowF_le h hf
  have hS := c_Stations h (f0 := -f.1) (f1 := -f.2.1) (f2 := -f.2.2) (by unfold Sml at hf; omega) (by unfold Sml at hf; omega) (by unfold Sml at hf; omega) (by unfold bowF at hb; omega)
  unfold shpC at *
  rw [denC_eq, r16, hv]
  simp only [bnd_some, ctl_true, ctl_false, ctl_and, ctl_or', ctl_or2, x_toPV, x_toCs, x_toCs2, x_toEs, x_bEs, x_bCs, x_aPV, x_aCs, x_int, x_bool, x_str, x_es, x_esn, nth_0, nth_1, nth_2, nth_3, nth_4, nth_5, nth_6, nth_7, nth_8, nth_9, y_nil, y_int, y_bool, y_str, y_sl, y_nils, y_agg, y_ownp, y_own, z_nil, z_int, z_bool, z_str, z_sl, z_nils, b_nil, b_arr, b_box1, b_box2, b_box3, b_box4, List.map_cons, List.map_nil, Bool.and_self, Bool.and_true, Bool.true_and, Bool.not_true, Bool.not_false, Bool.or_false, Bool.false_or, cond_true, cond_false, okPack, okPut, okPutBlks, okPutCells, q_isP, q_isAg, q_isBox, q_isArr, q_int, q_bool, q_str, q_sl, q_nils, e_exit, e_ret, e_nrm, e_ret_exit, e_exit_ret, e_nrm_exit, e_nrm_ret, e_exit_nrm, e_ret_nrm, Nat.zero_add, Nat.reduceAdd, noslR, noslP, noslB, noslA, List.all_cons, List.all_nil]
  rw [he]
  simp only [bnd_some, ctl_true, ctl_false, ctl_and, ctl_or', ctl_or2, x_toPV, x_toCs, x_toCs2, x_toEs, x_bEs, x_bCs, x_aPV, x_aCs, x_int, x_bool, x_str, x_es, x_esn, nth_0, nth_1, nth_2, nth_3, nth_4, nth_5, nth_6, nth_7, nth_8, nth_9, y_nil, y_int, y_bool, y_str, y_sl, y_nils, y_agg, y_ownp, y_own, z_nil, z_int, z_bool, z_str, z_sl, z_nils, b_nil, b_arr, b_box1, b_box2, b_box3, b_box4, List.map_cons, List.map_nil, Bool.and_self, Bool.and_true, Bool.true_and, Bool.not_true, Bool.not_false, Bool.or_false, Bool.false_or, cond_true, cond_false, okPack, okPut, okPutBlks, okPutCells, q_isP, q_isAg, q_isBox, q_isArr, q_int, q_bool, q_str, q_sl, q_nils, e_exit, e_ret, e_nrm, e_ret_exit, e_exit_ret, e_nrm_exit, e_nrm_ret, e_exit_nrm, e_ret_nrm, Nat.zero_add, Nat.reduceAdd, noslR, noslP, noslB, noslA, List.all_cons, List.all_nil]
  rw [hS]
  simp only [bnd_some, ctl_true, ctl_false, ctl_and, ctl_or', ctl_or2, x_toPV, x_toCs, x_toCs2, x_toEs, x_bEs, x_bCs, x_aPV, x_aCs, x_int, x_bool, x_str, x_es, x_esn, nth_0, nth_1, nth_2, nth_3, nth_4, nth_5, nth_6, nth_7, nth_8, nth_9, y_nil, y_int, y_bool, y_str, y_sl, y_nils, y_agg, y_ownp, y_own, z_nil, z_int, z_bool, z_str, z_sl, z_nils, b_nil, b_arr, b_box1, b_box2, b_box3, b_box4, List.map_cons, List.map_nil, Bool.and_self, Bool.and_true, Bool.true_and, Bool.not_true, Bool.not_false, Bool.or_false, Bool.false_or, cond_true, cond_false, okPack, okPut, okPutBlks, okPutCells, q_isP, q_isAg, q_isBox, q_isArr, q_int, q_bool, q_str, q_sl, q_nils, e_exit, e_ret, e_nrm, e_ret_exit, e_exit_ret, e_nrm_exit, e_nrm_ret, e_exit_nrm, e_ret_nrm, Nat.zero_add, Nat.reduceAdd, noslR, noslP, noslB, noslA, List.all_cons, List.all_nil]
  rfl

theorem dmd_mod {s : Shp} (h : OkShp s) {f : Int × Int × Int} (hf : Sml 1000 f) : Mod3 (-f.1) (bowF s f) (-f.2.1 - bowF s f) := by
  have := bowF_le h hf
  unfold Sml at hf
  unfold Mod3
  omega

/-- What is given for a load, what is missing. -/
noncomputable def gvL (s : Shp) (ms : List Int) (f : Int × Int × Int) : Int × Int × Int := gvA s ms [] (-f.1) (bowF s f) (-f.2.1 - bowF s f)
noncomputable def mis (s : Shp) (ms : List Int) (f : Int × Int × Int) : Int × Int × Int := (-f.1 - (gvL s ms f).1, bowF s f - (gvL s ms f).2.1, -f.2.1 - bowF s f - (gvL s ms f).2.2)
theorem c_Missing {s : Shp} {ms : List Int} (h : AOk s ms []) {f : Int × Int × Int} (hf : Sml 1000 f) :
    denC E 17 [AV.agg (shpC s), AV.sl 1 (intsK .i64 ms), AV.agg [PV.int .i64 f.1, PV.int .i64 f.2.1, PV.int .i64 f.2.2]] [] = some ([RV.agg [PV.int .i64 (mis s ms f).1, PV.int .i64 (mis s ms f).2.1, PV.int .i64 (mis s ms f).2.2], RV.p (PV.int .i64 0)], []) := by
  have hD := c_CDemand h.ok hf
  have hA := c_ADivide h (dmd_mod h.ok hf)
  have ea : arcK [] = [] := rfl
  have n0 : ((0 : Int) != 0) = false := rfl
  rw [ea] at hA
  unfold shpC at *
  rw [denC_eq, r17, hD]
  simp only [bnd_some, ctl_true, ctl_false, ctl_and, ctl_or', ctl_or2, x_toPV, x_toCs, x_toCs2, x_toEs, x_bEs, x_bCs, x_aPV, x_aCs, x_int, x_bool, x_str, x_es, x_esn, nth_0, nth_1, nth_2, nth_3, nth_4, nth_5, nth_6, nth_7, nth_8, nth_9, y_nil, y_int, y_bool, y_str, y_sl, y_nils, y_agg, y_ownp, y_own, z_nil, z_int, z_bool, z_str, z_sl, z_nils, b_nil, b_arr, b_box1, b_box2, b_box3, b_box4, List.map_cons, List.map_nil, Bool.and_self, Bool.and_true, Bool.true_and, Bool.not_true, Bool.not_false, Bool.or_false, Bool.false_or, cond_true, cond_false, okPack, okPut, okPutBlks, okPutCells, q_isP, q_isAg, q_isBox, q_isArr, q_int, q_bool, q_str, q_sl, q_nils, e_exit, e_ret, e_nrm, e_ret_exit, e_exit_ret, e_nrm_exit, e_nrm_ret, e_exit_nrm, e_ret_nrm, Nat.zero_add, Nat.reduceAdd, noslR, noslP, noslB, noslA, List.all_cons, List.all_nil, n0]
  rw [hA]
  simp only [bnd_some, ctl_true, ctl_false, ctl_and, ctl_or', ctl_or2, x_toPV, x_toCs, x_toCs2, x_toEs, x_bEs, x_bCs, x_aPV, x_aCs, x_int, x_bool, x_str, x_es, x_esn, nth_0, nth_1, nth_2, nth_3, nth_4, nth_5, nth_6, nth_7, nth_8, nth_9, y_nil, y_int, y_bool, y_str, y_sl, y_nils, y_agg, y_ownp, y_own, z_nil, z_int, z_bool, z_str, z_sl, z_nils, b_nil, b_arr, b_box1, b_box2, b_box3, b_box4, List.map_cons, List.map_nil, Bool.and_self, Bool.and_true, Bool.true_and, Bool.not_true, Bool.not_false, Bool.or_false, Bool.false_or, cond_true, cond_false, okPack, okPut, okPutBlks, okPutCells, q_isP, q_isAg, q_isBox, q_isArr, q_int, q_bool, q_str, q_sl, q_nils, e_exit, e_ret, e_nrm, e_ret_exit, e_exit_ret, e_nrm_exit, e_nrm_ret, e_exit_nrm, e_ret_nrm, Nat.zero_add, Nat.reduceAdd, noslR, noslP, noslB, noslA, List.all_cons, List.all_nil, n0]
  rfl

noncomputable def metB (s : Shp) (ms : List Int) (f : Int × Int × Int) : Bool := (mis s ms f).1 == 0 && ((mis s ms f).2.1 == 0 && (mis s ms f).2.2 == 0)
theorem metB_iff {s : Shp} {ms : List Int} {f : Int × Int × Int} : metB s ms f = true ↔ mis s ms f = (0, 0, 0) := by
  unfold metB
  simp only [Bool.and_eq_true, beq_iff_eq]
  constructor
  · rintro ⟨a, b, c⟩; exact Prod.ext a (Prod.ext b c)
  · intro h; rw [h]; exact ⟨rfl, rfl, rfl⟩
theorem c_Meets {s : Shp} {ms : List Int} (h : AOk s ms []) {f : Int × Int × Int} (hf : Sml 1000 f) :
    denC E 14 [AV.agg (shpC s), AV.sl 1 (intsK .i64 ms), AV.agg [PV.int .i64 f.1, PV.int .i64 f.2.1, PV.int .i64 f.2.2]] [] = some ([RV.p (PV.bool (metB s ms f))], []) := by
  have hM := c_Missing h hf
  unfold shpC at *
  rw [denC_eq, r14, hM]
  simp only [bnd_some, ctl_true, ctl_false, ctl_and, ctl_or', ctl_or2, x_toPV, x_toCs, x_toCs2, x_toEs, x_bEs, x_bCs, x_aPV, x_aCs, x_int, x_bool, x_str, x_es, x_esn, nth_0, nth_1, nth_2, nth_3, nth_4, nth_5, nth_6, nth_7, nth_8, nth_9, y_nil, y_int, y_bool, y_str, y_sl, y_nils, y_agg, y_ownp, y_own, z_nil, z_int, z_bool, z_str, z_sl, z_nils, b_nil, b_arr, b_box1, b_box2, b_box3, b_box4, List.map_cons, List.map_nil, Bool.and_self, Bool.and_true, Bool.true_and, Bool.not_true, Bool.not_false, Bool.or_false, Bool.false_or, cond_true, cond_false, okPack, okPut, okPutBlks, okPutCells, q_isP, q_isAg, q_isBox, q_isArr, q_int, q_bool, q_str, q_sl, q_nils, e_exit, e_ret, e_nrm, e_ret_exit, e_exit_ret, e_nrm_exit, e_nrm_ret, e_exit_nrm, e_ret_nrm, Nat.zero_add, Nat.reduceAdd, noslR, noslP, noslB, noslA, List.all_cons, List.all_nil, beq_self_eq_true]
  rfl

/-! ### Parts of loads -/
def prt (f : Int × Int × Int) (p : Int) : Int × Int × Int := (Half (f.1 * p) 100, Half (f.2.1 * p) 100, Half (f.2.2 * p) 100)
theorem prt_one {x p m : Int} (hm : 0 ≤ m ∧ m ≤ 10000) (hx : -m ≤ x ∧ x ≤ m) (hp : 0 ≤ p ∧ p ≤ 200) : (-(m * 200) ≤ x * p ∧ x * p ≤ m * 200) ∧ -(2 * m) ≤ Half (x * p) 100 ∧ Half (x * p) 100 ≤ 2 * m := by
  have m1 := mul_le (a := x) (b := p) (m := m) (n := 200) hx (by omega)
  refine ⟨by omega, ?_⟩
  unfold Half
  omega
theorem prt_sml {f : Int × Int × Int} {p : Int} (h : Sml 400 f) (hp : 0 ≤ p ∧ p ≤ 200) : Sml 1000 (prt f p) := by
  unfold Sml at *
  have a := prt_one (m := 400) (by omega) h.1 hp
  have b := prt_one (m := 400) (by omega) h.2.1 hp
  have c := prt_one (m := 4000) (by omega) h.2.2 hp
  unfold prt
  simp only
  omega
theorem prt_100 {f : Int × Int × Int} : prt f 100 = f := by
  unfold prt Half
  refine Prod.ext ?_ (Prod.ext ?_ ?_) <;> simp only <;> omega
theorem prt_0 {f : Int × Int × Int} : prt f 0 = (0, 0, 0) := by
  unfold prt Half
  refine Prod.ext ?_ (Prod.ext ?_ ?_) <;> simp only <;> omega
theorem prt_z {p : Int} : prt (0, 0, 0) p = (0, 0, 0) := by
  unfold prt Half
  refine Prod.ext ?_ (Prod.ext ?_ ?_) <;> simp only <;> omega

theorem c_Part {f : Int × Int × Int} {p : Int} (h : Sml 400 f) (hp : 0 ≤ p ∧ p ≤ 200) :
    denC E 15 [AV.agg [PV.int .i64 f.1, PV.int .i64 f.2.1, PV.int .i64 f.2.2], AV.int .i64 p] [] = some ([RV.agg [PV.int .i64 (prt f p).1, PV.int .i64 (prt f p).2.1, PV.int .i64 (prt f p).2.2]], []) := by
  have hv := c_fvalid (Sml_mono h (show (400 : Int) ≤ 1000 by omega))
  have hn : ∀ x : Int, -4000 ≤ x ∧ x ≤ 4000 → denC E 29 [AV.int .i64 x, AV.t (TV.ptr 0 0)] [Blk.box [AV.int .i64 p]] = some ([RV.p (PV.int .i64 (Half (x * p) 100))], [Blk.box [AV.int .i64 p]]) := fun x hx => by
    have a := prt_one (m := 4000) (by omega) hx hp
    rw [denC_eq, r29, w64 (n := x * p) (by omega), c_QHalf (by omega) (by omega)]
    simp only [bnd_some, ctl_true, ctl_false, ctl_and, ctl_or', ctl_or2, x_toPV, x_toCs, x_toCs2, x_toEs, x_bEs, x_bCs, x_aPV, x_aCs, x_int, x_bool, x_str, x_es, x_esn, nth_0, nth_1, nth_2, nth_3, nth_4, nth_5, nth_6, nth_7, nth_8, nth_9, y_nil, y_int, y_bool, y_str, y_sl, y_nils, y_agg, y_ownp, y_own, z_nil, z_int, z_bool, z_str, z_sl, z_nils, b_nil, b_arr, b_box1, b_box2, b_box3, b_box4, List.map_cons, List.map_nil, Bool.and_self, Bool.and_true, Bool.true_and, Bool.not_true, Bool.not_false, Bool.or_false, Bool.false_or, cond_true, cond_false, okPack, okPut, okPutBlks, okPutCells, q_isP, q_isAg, q_isBox, q_isArr, q_int, q_bool, q_str, q_sl, q_nils, e_exit, e_ret, e_nrm, e_ret_exit, e_exit_ret, e_nrm_exit, e_nrm_ret, e_exit_nrm, e_ret_nrm, Nat.zero_add, Nat.reduceAdd, noslR, noslP, noslB, noslA, List.all_cons, List.all_nil]
  have he : denC E 28 [AV.agg [PV.int .i64 f.1, PV.int .i64 f.2.1, PV.int .i64 f.2.2], AV.fn 29 [TV.ptr 0 0]] [Blk.box [AV.int .i64 p]] = some ([RV.agg [PV.int .i64 (prt f p).1, PV.int .i64 (prt f p).2.1, PV.int .i64 (prt f p).2.2]], [Blk.box [AV.int .i64 p]]) := by
    unfold Sml at h
    rw [denC_eq, r28a, hn f.1 (by omega)]
    simp only [bnd_some, ctl_true, ctl_false, ctl_and, ctl_or', ctl_or2, x_toPV, x_toCs, x_toCs2, x_toEs, x_bEs, x_bCs, x_aPV, x_aCs, x_int, x_bool, x_str, x_es, x_esn, nth_0, nth_1, nth_2, nth_3, nth_4, nth_5, nth_6, nth_7, nth_8, nth_9, y_nil, y_int, y_bool, y_str, y_sl, y_nils, y_agg, y_ownp, y_own, z_nil, z_int, z_bool, z_str, z_sl, z_nils, b_nil, b_arr, b_box1, b_box2, b_box3, b_box4, List.map_cons, List.map_nil, Bool.and_self, Bool.and_true, Bool.true_and, Bool.not_true, Bool.not_false, Bool.or_false, Bool.false_or, cond_true, cond_false, okPack, okPut, okPutBlks, okPutCells, q_isP, q_isAg, q_isBox, q_isArr, q_int, q_bool, q_str, q_sl, q_nils, e_exit, e_ret, e_nrm, e_ret_exit, e_exit_ret, e_nrm_exit, e_nrm_ret, e_exit_nrm, e_ret_nrm, Nat.zero_add, Nat.reduceAdd, noslR, noslP, noslB, noslA, List.all_cons, List.all_nil]
    rw [hn f.2.1 (by omega)]
    simp only [bnd_some, ctl_true, ctl_false, ctl_and, ctl_or', ctl_or2, x_toPV, x_toCs, x_toCs2, x_toEs, x_bEs, x_bCs, x_aPV, x_aCs, x_int, x_bool, x_str, x_es, x_esn, nth_0, nth_1, nth_2, nth_3, nth_4, nth_5, nth_6, nth_7, nth_8, nth_9, y_nil, y_int, y_bool, y_str, y_sl, y_nils, y_agg, y_ownp, y_own, z_nil, z_int, z_bool, z_str, z_sl, z_nils, b_nil, b_arr, b_box1, b_box2, b_box3, b_box4, List.map_cons, List.map_nil, Bool.and_self, Bool.and_true, Bool.true_and, Bool.not_true, Bool.not_false, Bool.or_false, Bool.false_or, cond_true, cond_false, okPack, okPut, okPutBlks, okPutCells, q_isP, q_isAg, q_isBox, q_isArr, q_int, q_bool, q_str, q_sl, q_nils, e_exit, e_ret, e_nrm, e_ret_exit, e_exit_ret, e_nrm_exit, e_nrm_ret, e_exit_nrm, e_ret_nrm, Nat.zero_add, Nat.reduceAdd, noslR, noslP, noslB, noslA, List.all_cons, List.all_nil]
    rw [hn f.2.2 (by omega)]
    simp only [bnd_some, ctl_true, ctl_false, ctl_and, ctl_or', ctl_or2, x_toPV, x_toCs, x_toCs2, x_toEs, x_bEs, x_bCs, x_aPV, x_aCs, x_int, x_bool, x_str, x_es, x_esn, nth_0, nth_1, nth_2, nth_3, nth_4, nth_5, nth_6, nth_7, nth_8, nth_9, y_nil, y_int, y_bool, y_str, y_sl, y_nils, y_agg, y_ownp, y_own, z_nil, z_int, z_bool, z_str, z_sl, z_nils, b_nil, b_arr, b_box1, b_box2, b_box3, b_box4, List.map_cons, List.map_nil, Bool.and_self, Bool.and_true, Bool.true_and, Bool.not_true, Bool.not_false, Bool.or_false, Bool.false_or, cond_true, cond_false, okPack, okPut, okPutBlks, okPutCells, q_isP, q_isAg, q_isBox, q_isArr, q_int, q_bool, q_str, q_sl, q_nils, e_exit, e_ret, e_nrm, e_ret_exit, e_exit_ret, e_nrm_exit, e_nrm_ret, e_exit_nrm, e_ret_nrm, Nat.zero_add, Nat.reduceAdd, noslR, noslP, noslB, noslA, List.all_cons, List.all_nil]
    rfl
  have f1 : ltB p 0 = false := by simp only [decide_eq_false_iff_not]; omega
  have f2 : ltB 200 p = false := by simp only [decide_eq_false_iff_not]; omega
  rw [denC_eq, r15, hv]
  simp only [bnd_some, ctl_true, ctl_false, ctl_and, ctl_or', ctl_or2, x_toPV, x_toCs, x_toCs2, x_toEs, x_bEs, x_bCs, x_aPV, x_aCs, x_int, x_bool, x_str, x_es, x_esn, nth_0, nth_1, nth_2, nth_3, nth_4, nth_5, nth_6, nth_7, nth_8, nth_9, y_nil, y_int, y_bool, y_str, y_sl, y_nils, y_agg, y_ownp, y_own, z_nil, z_int, z_bool, z_str, z_sl, z_nils, b_nil, b_arr, b_box1, b_box2, b_box3, b_box4, List.map_cons, List.map_nil, Bool.and_self, Bool.and_true, Bool.true_and, Bool.not_true, Bool.not_false, Bool.or_false, Bool.false_or, cond_true, cond_false, okPack, okPut, okPutBlks, okPutCells, q_isP, q_isAg, q_isBox, q_isArr, q_int, q_bool, q_str, q_sl, q_nils, e_exit, e_ret, e_nrm, e_ret_exit, e_exit_ret, e_nrm_exit, e_nrm_ret, e_exit_nrm, e_ret_nrm, Nat.zero_add, Nat.reduceAdd, noslR, noslP, noslB, noslA, List.all_cons, List.all_nil, f1, f2]
  rw [he]
  simp only [bnd_some, ctl_true, ctl_false, ctl_and, ctl_or', ctl_or2, x_toPV, x_toCs, x_toCs2, x_toEs, x_bEs, x_bCs, x_aPV, x_aCs, x_int, x_bool, x_str, x_es, x_esn, nth_0, nth_1, nth_2, nth_3, nth_4, nth_5, nth_6, nth_7, nth_8, nth_9, y_nil, y_int, y_bool, y_str, y_sl, y_nils, y_agg, y_ownp, y_own, z_nil, z_int, z_bool, z_str, z_sl, z_nils, b_nil, b_arr, b_box1, b_box2, b_box3, b_box4, List.map_cons, List.map_nil, Bool.and_self, Bool.and_true, Bool.true_and, Bool.not_true, Bool.not_false, Bool.or_false, Bool.false_or, cond_true, cond_false, okPack, okPut, okPutBlks, okPutCells, q_isP, q_isAg, q_isBox, q_isArr, q_int, q_bool, q_str, q_sl, q_nils, e_exit, e_ret, e_nrm, e_ret_exit, e_exit_ret, e_nrm_exit, e_nrm_ret, e_exit_nrm, e_ret_nrm, Nat.zero_add, Nat.reduceAdd, noslR, noslP, noslB, noslA, List.all_cons, List.all_nil]

/-! ### Reserve -/
def rsvF (M : Int → Bool) : Nat → Int → Int → Int
  | 0, out, _ => out
  | n + 1, out, p => if M p = true then rsvF M n p (p + 10) else out
theorem rsvF_spec (M : Int → Bool) : ∀ (n : Nat) (out p : Int), (rsvF M n out p = out ∧ (n = 0 ∨ M p = false)) ∨ ∃ j : Nat, rsvF M n out p = p + 10 * (j : Int) ∧ j < n ∧ (∀ i : Nat, i ≤ j → M (p + 10 * (i : Int)) = true) ∧ (j + 1 = n ∨ M (p + 10 * (j : Int) + 10) = false)
  | 0, out, p => .inl ⟨rfl, .inl rfl⟩
  | n + 1, out, p => by
    unfold rsvF
    cases hM : M p with
    | false => exact .inl ⟨by rw [if_neg (by simp)], .inr rfl⟩
    | true =>
      rw [if_pos rfl]
      refine .inr ?_
      rcases rsvF_spec M n p (p + 10) with ⟨h1, h2⟩ | ⟨j, h1, h2, h3, h4⟩
      · refine ⟨0, by rw [h1]; omega, by omega, fun i hi => ?_, ?_⟩
        · have : i = 0 := by omega
          subst this
          have e : p + 10 * ((0 : Nat) : Int) = p := by omega
          rw [e, hM]
        · rcases h2 with h2 | h2
          · left; omega
          · right
            have e : p + 10 * ((0 : Nat) : Int) + 10 = p + 10 := by omega
            rw [e, h2]
      · refine ⟨j + 1, by rw [h1]; omega, by omega, fun i hi => ?_, ?_⟩
        · cases i with
          | zero =>
            have e : p + 10 * ((0 : Nat) : Int) = p := by omega
            rw [e, hM]
          | succ i =>
            have e : p + 10 * ((i + 1 : Nat) : Int) = p + 10 + 10 * (i : Int) := by omega
            rw [e, h3 i (by omega)]
        · rcases h4 with h4 | h4
          · left; omega
          · right
            have e : p + 10 * ((j + 1 : Nat) : Int) + 10 = p + 10 + 10 * (j : Int) + 10 := by omega
            rw [e, h4]

noncomputable def rsv (s : Shp) (ms : List Int) (f : Int × Int × Int) : Int := rsvF (fun p => metB s ms (prt f p)) 21 (-1) 0
theorem rsv_loop {s : Shp} {ms : List Int} (h : AOk s ms []) {f : Int × Int × Int} (hf : Sml 400 f) : ∀ (n : Nat) (out p : Int), p = 210 - 10 * (n : Int) → n ≤ 21 →
    lp E (denC E) 13 0 [] 0 { vals := [AV.sl 1 (intsK .i64 ms), AV.int .i64 out, AV.int .i64 p], blks := [Blk.box [AV.int .i64 s.bw, AV.int .i64 s.sn, AV.sl 6 (thK s.ts)], Blk.box [AV.int .i64 f.1, AV.int .i64 f.2.1, AV.int .i64 f.2.2]] } =
      some (Ex.exit 0, { vals := [AV.int .i64 (rsvF (fun p => metB s ms (prt f p)) n out p)], blks := [] })
  | 0, out, p, hp, hn => by
    have e : leB p 200 = false := by simp only [decide_eq_false_iff_not]; omega
    rw [r13_0, e]
    simp only [bnd_some, ctl_true, ctl_false, ctl_and, ctl_or', ctl_or2, x_toPV, x_toCs, x_toCs2, x_toEs, x_bEs, x_bCs, x_aPV, x_aCs, x_int, x_bool, x_str, x_es, x_esn, nth_0, nth_1, nth_2, nth_3, nth_4, nth_5, nth_6, nth_7, nth_8, nth_9, y_nil, y_int, y_bool, y_str, y_sl, y_nils, y_agg, y_ownp, y_own, z_nil, z_int, z_bool, z_str, z_sl, z_nils, b_nil, b_arr, b_box1, b_box2, b_box3, b_box4, List.map_cons, List.map_nil, Bool.and_self, Bool.and_true, Bool.true_and, Bool.not_true, Bool.not_false, Bool.or_false, Bool.false_or, cond_true, cond_false, okPack, okPut, okPutBlks, okPutCells, q_isP, q_isAg, q_isBox, q_isArr, q_int, q_bool, q_str, q_sl, q_nils, e_exit, e_ret, e_nrm, e_ret_exit, e_exit_ret, e_nrm_exit, e_nrm_ret, e_exit_nrm, e_ret_nrm, Nat.zero_add, Nat.reduceAdd, noslR, noslP, noslB, noslA, List.all_cons, List.all_nil]
    rfl
  | n + 1, out, p, hp, hn => by
    have ih := rsv_loop h hf n p (p + 10) (by omega) (by omega)
    have e : leB p 200 = true := by simp only [decide_eq_true_eq]; omega
    have hP := c_Part hf (p := p) (by omega)
    have hM := c_Meets h (prt_sml hf (p := p) (by omega))
    unfold shpC at hM
    rw [r13_0, e, hP]
    simp only [bnd_some, ctl_true, ctl_false, ctl_and, ctl_or', ctl_or2, x_toPV, x_toCs, x_toCs2, x_toEs, x_bEs, x_bCs, x_aPV, x_aCs, x_int, x_bool, x_str, x_es, x_esn, nth_0, nth_1, nth_2, nth_3, nth_4, nth_5, nth_6, nth_7, nth_8, nth_9, y_nil, y_int, y_bool, y_str, y_sl, y_nils, y_agg, y_ownp, y_own, z_nil, z_int, z_bool, z_str, z_sl, z_nils, b_nil, b_arr, b_box1, b_box2, b_box3, b_box4, List.map_cons, List.map_nil, Bool.and_self, Bool.and_true, Bool.true_and, Bool.not_true, Bool.not_false, Bool.or_false, Bool.false_or, cond_true, cond_false, okPack, okPut, okPutBlks, okPutCells, q_isP, q_isAg, q_isBox, q_isArr, q_int, q_bool, q_str, q_sl, q_nils, e_exit, e_ret, e_nrm, e_ret_exit, e_exit_ret, e_nrm_exit, e_nrm_ret, e_exit_nrm, e_ret_nrm, Nat.zero_add, Nat.reduceAdd, noslR, noslP, noslB, noslA, List.all_cons, List.all_nil]
    rw [hM]
    simp only [bnd_some, ctl_true, ctl_false, ctl_and, ctl_or', ctl_or2, x_toPV, x_toCs, x_toCs2, x_toEs, x_bEs, x_bCs, x_aPV, x_aCs, x_int, x_bool, x_str, x_es, x_esn, nth_0, nth_1, nth_2, nth_3, nth_4, nth_5, nth_6, nth_7, nth_8, nth_9, y_nil, y_int, y_bool, y_str, y_sl, y_nils, y_agg, y_ownp, y_own, z_nil, z_int, z_bool, z_str, z_sl, z_nils, b_nil, b_arr, b_box1, b_box2, b_box3, b_box4, List.map_cons, List.map_nil, Bool.and_self, Bool.and_true, Bool.true_and, Bool.not_true, Bool.not_false, Bool.or_false, Bool.false_or, cond_true, cond_false, okPack, okPut, okPutBlks, okPutCells, q_isP, q_isAg, q_isBox, q_isArr, q_int, q_bool, q_str, q_sl, q_nils, e_exit, e_ret, e_nrm, e_ret_exit, e_exit_ret, e_nrm_exit, e_nrm_ret, e_exit_nrm, e_ret_nrm, Nat.zero_add, Nat.reduceAdd, noslR, noslP, noslB, noslA, List.all_cons, List.all_nil]
    rw [w64 (n := p + 10) (by omega), ih]
    have er : rsvF (fun p => metB s ms (prt f p)) (n + 1) out p = if metB s ms (prt f p) = true then rsvF (fun p => metB s ms (prt f p)) n p (p + 10) else out := rfl
    rw [er]
    cases metB s ms (prt f p) with
    | false => rfl
    | true => rfl

theorem c_Reserve {s : Shp} {ms : List Int} (h : AOk s ms []) {f : Int × Int × Int} (hf : Sml 400 f) :
    denC E 13 [AV.agg (shpC s), AV.sl 1 (intsK .i64 ms), AV.agg [PV.int .i64 f.1, PV.int .i64 f.2.1, PV.int .i64 f.2.2]] [] = some ([RV.p (PV.int .i64 (rsv s ms f))], []) := by
  have hv := c_fvalid (Sml_mono hf (show (400 : Int) ≤ 1000 by omega))
  have hl := rsv_loop h hf 21 (-1) 0 (by omega) (by omega)
  unfold shpC
  rw [denC_eq, r13, hv]
  simp only [bnd_some, ctl_true, ctl_false, ctl_and, ctl_or', ctl_or2, x_toPV, x_toCs, x_toCs2, x_toEs, x_bEs, x_bCs, x_aPV, x_aCs, x_int, x_bool, x_str, x_es, x_esn, nth_0, nth_1, nth_2, nth_3, nth_4, nth_5, nth_6, nth_7, nth_8, nth_9, y_nil, y_int, y_bool, y_str, y_sl, y_nils, y_agg, y_ownp, y_own, z_nil, z_int, z_bool, z_str, z_sl, z_nils, b_nil, b_arr, b_box1, b_box2, b_box3, b_box4, List.map_cons, List.map_nil, Bool.and_self, Bool.and_true, Bool.true_and, Bool.not_true, Bool.not_false, Bool.or_false, Bool.false_or, cond_true, cond_false, okPack, okPut, okPutBlks, okPutCells, q_isP, q_isAg, q_isBox, q_isArr, q_int, q_bool, q_str, q_sl, q_nils, e_exit, e_ret, e_nrm, e_ret_exit, e_exit_ret, e_nrm_exit, e_nrm_ret, e_exit_nrm, e_ret_nrm, Nat.zero_add, Nat.reduceAdd, noslR, noslP, noslB, noslA, List.all_cons, List.all_nil]
  rw [hl]
  simp only [bnd_some, ctl_true, ctl_false, ctl_and, ctl_or', ctl_or2, x_toPV, x_toCs, x_toCs2, x_toEs, x_bEs, x_bCs, x_aPV, x_aCs, x_int, x_bool, x_str, x_es, x_esn, nth_0, nth_1, nth_2, nth_3, nth_4, nth_5, nth_6, nth_7, nth_8, nth_9, y_nil, y_int, y_bool, y_str, y_sl, y_nils, y_agg, y_ownp, y_own, z_nil, z_int, z_bool, z_str, z_sl, z_nils, b_nil, b_arr, b_box1, b_box2, b_box3, b_box4, List.map_cons, List.map_nil, Bool.and_self, Bool.and_true, Bool.true_and, Bool.not_true, Bool.not_false, Bool.or_false, Bool.false_or, cond_true, cond_false, okPack, okPut, okPutBlks, okPutCells, q_isP, q_isAg, q_isBox, q_isArr, q_int, q_bool, q_str, q_sl, q_nils, e_exit, e_ret, e_nrm, e_ret_exit, e_exit_ret, e_nrm_exit, e_nrm_ret, e_exit_nrm, e_ret_nrm, Nat.zero_add, Nat.reduceAdd, noslR, noslP, noslB, noslA, List.all_cons, List.all_nil]
  rfl

theorem gvA_zero {s : Shp} {ms : List Int} (h : AOk s ms []) : metB s ms (0, 0, 0) = true := by
  have hz := (thA_zero h).2
  have hb : bowF s (0, 0, 0) = 0 := by
    obtain ⟨g1, g2, g3, g4, g5, g6, g7⟩ := h.ok
    unfold bowF Half
    have e : 2 * (-(0 : Int) + -(0 : Int) * s.sn) + (s.bw + s.sn) = s.bw + s.sn := by simp
    simp only at e ⊢
    rw [e]
    exact Int.ediv_eq_zero_of_lt (by omega) (by omega)
  rw [metB_iff]
  unfold mis gvL
  rw [hb]
  have e1 : -(0 : Int) = 0 := rfl
  have e2 : (0 : Int) - 0 = 0 := rfl
  simp only [e1, e2, hz]

/-- A Reserve is a multiple of ten up to 200, and all up to it is met. -/
theorem rsv_spec {s : Shp} {ms : List Int} (h : AOk s ms []) (f : Int × Int × Int) : ∃ j : Nat, rsv s ms f = 10 * (j : Int) ∧ j ≤ 20 ∧ (∀ i : Nat, i ≤ j → metB s ms (prt f (10 * (i : Int))) = true) ∧ (j = 20 ∨ metB s ms (prt f (10 * (j : Int) + 10)) = false) := by
  have h0 : metB s ms (prt f 0) = true := by rw [prt_0]; exact gvA_zero h
  rcases rsvF_spec (fun p => metB s ms (prt f p)) 21 (-1) 0 with ⟨_, h2⟩ | ⟨j, h1, h2, h3, h4⟩
  · rcases h2 with h2 | h2
    · cases h2
    · rw [h0] at h2; cases h2
  · simp only [Int.zero_add] at h1 h3 h4
    exact ⟨j, h1, by omega, h3, by rcases h4 with h | h; (left; omega); exact .inr h⟩

/-! ### Without -/
/-- Zeros at the places of a list. -/
def wo : List Int → List Int → List Int
  | a, [] => a
  | a, i :: l => wo (if 0 ≤ i ∧ i < (a.length : Int) then a.set i.toNat 0 else a) l
theorem wo_length : ∀ (l a : List Int), (wo a l).length = a.length
  | [], a => rfl
  | i :: l, a => by
    unfold wo
    rw [wo_length l]
    split <;> simp
theorem wo_loop : ∀ (l p a : List Int), (p ++ l).length ≤ 1000 → a.length ≤ 1000 →
    lp E (denC E) 19 0 [] 0 { vals := [AV.sl 1 (intsK .i64 (p ++ l)), AV.int .i64 ((p ++ l).length : Int), AV.int .i64 (p.length : Int)], blks := [Blk.arr 1 (intsK .i64 a)] } =
      some (Ex.exit 0, { vals := [], blks := [Blk.arr 1 (intsK .i64 (wo a l))] })
  | [], p, a, h, ha => by
    rw [r19_0, ctl_dec, if_neg (by simp)]
    rfl
  | i :: l, p, a, h, ha => by
    have ih := fun a ha => wo_loop l (p ++ [i]) a (by simp at h ⊢; omega) ha
    simp only [List.append_assoc, List.cons_append, List.nil_append, List.length_append, List.length_cons, List.length_nil] at ih h
    rw [r19_0, ctl_dec, if_pos (by simp; omega), getE_int1]
    simp only [bnd_some, ctl_true, ctl_false, ctl_and, ctl_or', ctl_or2, x_toPV, x_toCs, x_toCs2, x_toEs, x_bEs, x_bCs, x_aPV, x_aCs, x_int, x_bool, x_str, x_es, x_esn, nth_0, nth_1, nth_2, nth_3, nth_4, nth_5, nth_6, nth_7, nth_8, nth_9, y_nil, y_int, y_bool, y_str, y_sl, y_nils, y_agg, y_ownp, y_own, z_nil, z_int, z_bool, z_str, z_sl, z_nils, b_nil, b_arr, b_box1, b_box2, b_box3, b_box4, List.map_cons, List.map_nil, Bool.and_self, Bool.and_true, Bool.true_and, Bool.not_true, Bool.not_false, Bool.or_false, Bool.false_or, cond_true, cond_false, okPack, okPut, okPutBlks, okPutCells, q_isP, q_isAg, q_isBox, q_isArr, q_int, q_bool, q_str, q_sl, q_nils, e_exit, e_ret, e_nrm, e_ret_exit, e_exit_ret, e_nrm_exit, e_nrm_ret, e_exit_nrm, e_ret_nrm, Nat.zero_add, Nat.reduceAdd, noslR, noslP, noslB, noslA, List.all_cons, List.all_nil, List.length_append, List.length_cons, intsK_length]
    rw [w64 (n := (p.length : Int) + 1) (by omega)]
    have e1 : ((p.length : Int) + 1) = ((p.length + (0 + 1) : Nat) : Int) := by omega
    rw [e1]
    unfold wo
    by_cases h1 : 0 ≤ i ∧ i < (a.length : Int)
    · have f1 : leB 0 i = true := by simp only [decide_eq_true_eq]; omega
      have f2 : ltB i (a.length : Int) = true := by simp only [decide_eq_true_eq]; omega
      rw [if_pos h1]
      simp only [f1, f2, bnd_some, ctl_true, ctl_false, ctl_and, ctl_or', ctl_or2, x_toPV, x_toCs, x_toCs2, x_toEs, x_bEs, x_bCs, x_aPV, x_aCs, x_int, x_bool, x_str, x_es, x_esn, nth_0, nth_1, nth_2, nth_3, nth_4, nth_5, nth_6, nth_7, nth_8, nth_9, y_nil, y_int, y_bool, y_str, y_sl, y_nils, y_agg, y_ownp, y_own, z_nil, z_int, z_bool, z_str, z_sl, z_nils, b_nil, b_arr, b_box1, b_box2, b_box3, b_box4, List.map_cons, List.map_nil, Bool.and_self, Bool.and_true, Bool.true_and, Bool.not_true, Bool.not_false, Bool.or_false, Bool.false_or, cond_true, cond_false, okPack, okPut, okPutBlks, okPutCells, q_isP, q_isAg, q_isBox, q_isArr, q_int, q_bool, q_str, q_sl, q_nils, e_exit, e_ret, e_nrm, e_ret_exit, e_exit_ret, e_nrm_exit, e_nrm_ret, e_exit_nrm, e_ret_nrm, Nat.zero_add, Nat.reduceAdd, noslR, noslP, noslB, noslA, List.all_cons, List.all_nil]
      rw [Div.setEs_ints (by omega), ih _ (by simpa using ha)]
    · rw [if_neg h1]
      by_cases h2 : 0 ≤ i
      · have f1 : leB 0 i = true := by simp only [decide_eq_true_eq]; omega
        have f2 : ltB i (a.length : Int) = false := by simp only [decide_eq_false_iff_not]; omega
        simp only [f1, f2, bnd_some, ctl_true, ctl_false, ctl_and, ctl_or', ctl_or2, x_toPV, x_toCs, x_toCs2, x_toEs, x_bEs, x_bCs, x_aPV, x_aCs, x_int, x_bool, x_str, x_es, x_esn, nth_0, nth_1, nth_2, nth_3, nth_4, nth_5, nth_6, nth_7, nth_8, nth_9, y_nil, y_int, y_bool, y_str, y_sl, y_nils, y_agg, y_ownp, y_own, z_nil, z_int, z_bool, z_str, z_sl, z_nils, b_nil, b_arr, b_box1, b_box2, b_box3, b_box4, List.map_cons, List.map_nil, Bool.and_self, Bool.and_true, Bool.true_and, Bool.not_true, Bool.not_false, Bool.or_false, Bool.false_or, cond_true, cond_false, okPack, okPut, okPutBlks, okPutCells, q_isP, q_isAg, q_isBox, q_isArr, q_int, q_bool, q_str, q_sl, q_nils, e_exit, e_ret, e_nrm, e_ret_exit, e_exit_ret, e_nrm_exit, e_nrm_ret, e_exit_nrm, e_ret_nrm, Nat.zero_add, Nat.reduceAdd, noslR, noslP, noslB, noslA, List.all_cons, List.all_nil]
        rw [ih _ ha]
      · have f1 : leB 0 i = false := by simp only [decide_eq_false_iff_not]; omega
        simp only [f1, Bool.false_and, bnd_some, ctl_true, ctl_false, ctl_and, ctl_or', ctl_or2, x_toPV, x_toCs, x_toCs2, x_toEs, x_bEs, x_bCs, x_aPV, x_aCs, x_int, x_bool, x_str, x_es, x_esn, nth_0, nth_1, nth_2, nth_3, nth_4, nth_5, nth_6, nth_7, nth_8, nth_9, y_nil, y_int, y_bool, y_str, y_sl, y_nils, y_agg, y_ownp, y_own, z_nil, z_int, z_bool, z_str, z_sl, z_nils, b_nil, b_arr, b_box1, b_box2, b_box3, b_box4, List.map_cons, List.map_nil, Bool.and_self, Bool.and_true, Bool.true_and, Bool.not_true, Bool.not_false, Bool.or_false, Bool.false_or, cond_true, cond_false, okPack, okPut, okPutBlks, okPutCells, q_isP, q_isAg, q_isBox, q_isArr, q_int, q_bool, q_str, q_sl, q_nils, e_exit, e_ret, e_nrm, e_ret_exit, e_exit_ret, e_nrm_exit, e_nrm_ret, e_exit_nrm, e_ret_nrm, Nat.zero_add, Nat.reduceAdd, noslR, noslP, noslB, noslA, List.all_cons, List.all_nil]
        rw [ih _ ha]

theorem rCn_nil (F : Fun) : funK E F 34 [AV.sl 1 []] [] = both (some ([RV.own 1 []], [])) (some ([RV.own 1 []], [])) := by kernel_rfl

theorem c_CloneI {a : List Int} (h : a.length ≤ 1000) : denC E 34 [AV.sl 1 (intsK .i64 a)] [] = some ([RV.own 1 (intsK .i64 a)], []) := by
  rw [denC_eq]
  cases a with
  | nil =>
    have e : intsK .i64 [] = [] := rfl
    rw [e, rCn_nil, both_same]
  | cons x a =>
    have e : intsK .i64 (x :: a) = [PV.int .i64 x] :: intsK .i64 a := rfl
    rw [e, r34c, List.nil_append, Nat.zero_add]
    have e : leN (([PV.int .i64 x] :: intsK .i64 a).length * 8) 140737488355328 = true := by
      simp only [List.length_cons, intsK_length, decide_eq_true_eq] at h ⊢
      omega
    rw [e, ctl_true]

theorem c_Without {a l : List Int} (ha : a.length ≤ 1000) (hl : l.length ≤ 1000) :
    denC E 19 [AV.sl 1 (intsK .i64 a), AV.sl 1 (intsK .i64 l)] [] = some ([RV.p (PV.sl 1 (intsK .i64 (wo a l)))], []) := by
  have hw := wo_loop l [] a (by simpa using hl) ha
  simp only [List.nil_append, List.length_nil] at hw
  have e0 : (((0 : Nat)) : Int) = 0 := rfl
  rw [e0] at hw
  rw [denC_eq, r19, c_CloneI ha]
  simp only [bnd_some, ctl_true, ctl_false, ctl_and, ctl_or', ctl_or2, x_toPV, x_toCs, x_toCs2, x_toEs, x_bEs, x_bCs, x_aPV, x_aCs, x_int, x_bool, x_str, x_es, x_esn, nth_0, nth_1, nth_2, nth_3, nth_4, nth_5, nth_6, nth_7, nth_8, nth_9, y_nil, y_int, y_bool, y_str, y_sl, y_nils, y_agg, y_ownp, y_own, z_nil, z_int, z_bool, z_str, z_sl, z_nils, b_nil, b_arr, b_box1, b_box2, b_box3, b_box4, List.map_cons, List.map_nil, Bool.and_self, Bool.and_true, Bool.true_and, Bool.not_true, Bool.not_false, Bool.or_false, Bool.false_or, cond_true, cond_false, okPack, okPut, okPutBlks, okPutCells, q_isP, q_isAg, q_isBox, q_isArr, q_int, q_bool, q_str, q_sl, q_nils, e_exit, e_ret, e_nrm, e_ret_exit, e_exit_ret, e_nrm_exit, e_nrm_ret, e_exit_nrm, e_ret_nrm, Nat.zero_add, Nat.reduceAdd, noslR, noslP, noslB, noslA, List.all_cons, List.all_nil, intsK_length]
  rw [hw]
  simp only [bnd_some, ctl_true, ctl_false, ctl_and, ctl_or', ctl_or2, x_toPV, x_toCs, x_toCs2, x_toEs, x_bEs, x_bCs, x_aPV, x_aCs, x_int, x_bool, x_str, x_es, x_esn, nth_0, nth_1, nth_2, nth_3, nth_4, nth_5, nth_6, nth_7, nth_8, nth_9, y_nil, y_int, y_bool, y_str, y_sl, y_nils, y_agg, y_ownp, y_own, z_nil, z_int, z_bool, z_str, z_sl, z_nils, b_nil, b_arr, b_box1, b_box2, b_box3, b_box4, List.map_cons, List.map_nil, Bool.and_self, Bool.and_true, Bool.true_and, Bool.not_true, Bool.not_false, Bool.or_false, Bool.false_or, cond_true, cond_false, okPack, okPut, okPutBlks, okPutCells, q_isP, q_isAg, q_isBox, q_isArr, q_int, q_bool, q_str, q_sl, q_nils, e_exit, e_ret, e_nrm, e_ret_exit, e_exit_ret, e_nrm_exit, e_nrm_ret, e_exit_nrm, e_ret_nrm, Nat.zero_add, Nat.reduceAdd, noslR, noslP, noslB, noslA, List.all_cons, List.all_nil]

/-! ### One main thruster -/
def mainT (mx rt : Int) : Thr := ⟨2, 0, mx, rt, 1, []⟩
def mainS (bw sn mx rt : Int) : Shp := ⟨bw, sn, [mainT mx rt]⟩
theorem main_ok {mx rt : Int} (hm : 0 ≤ mx ∧ mx ≤ 5000) (hr : 0 ≤ rt ∧ rt ≤ 5000) : okT (mainT mx rt) = true := by
  rw [okT_iff, okT0_iff]
  unfold mainT
  refine ⟨?_, ?_⟩
  · simp only [List.length_nil]; omega
  · rfl
theorem mainA {bw sn mx rt : Int} (hb : 0 ≤ bw ∧ bw ≤ 200) (hs : 1 ≤ sn ∧ sn ≤ 200) (hm : 0 ≤ mx ∧ mx ≤ 5000) (hr : 0 ≤ rt ∧ rt ≤ 5000) : AOk (mainS bw sn mx rt) [mx] [] := by
  unfold mainS
  refine ⟨⟨by simp, hb.1, hb.2, by simp only; omega, by simp only; omega, by simp only; omega, fun t ht => ?_⟩, rfl, fun m h => ?_, .inl rfl, fun v hv => by cases hv⟩
  · simp only [List.mem_cons, List.not_mem_nil, or_false] at ht
    subst ht
    exact ⟨main_ok hm hr, by unfold mainT; simp [maxLen]⟩
  · simp only [List.mem_cons, List.not_mem_nil, or_false] at h
    omega
theorem main_gv {bw sn mx rt : Int} (hb : 0 ≤ bw ∧ bw ≤ 200) (hs : 1 ≤ sn ∧ sn ≤ 200) (hm : 0 ≤ mx ∧ mx ≤ 5000) (hr : 0 ≤ rt ∧ rt ≤ 5000) {d0 d1 d2 : Int} (hd : Mod3 d0 d1 d2) :
    gvA (mainS bw sn mx rt) [mx] [] d0 d1 d2 = (Div.clamp d0 (-mx) mx, 0, 0) := by
  have hA := mainA hb hs hm hr
  have hk := main_ok hm hr
  have hW : Ws (mainS bw sn mx rt).ts [mx] = [mainT mx rt] := by
    show [withT (mainT mx rt) mx] = _
    have : withT (mainT mx rt) mx = mainT mx rt := by
      unfold withT mainT minI maxI
      simp only
      congr 1
      split <;> split <;> omega
    rw [this]
  have l1 : latF (mainT mx rt) = (0, 0) := by
    obtain ⟨a, b⟩ := IsLat_uniq (latF_is (mainT mx rt)) (noarc_lat hk rfl)
    exact Prod.ext a b
  have e0 : lats 0 [mainT mx rt] [] = [⟨0, 0, 1⟩] := by
    simp only [lats, latS, l1, List.head?_nil, List.tail_nil, Option.map_none, ratS]
    split <;> rfl
  have e1 : lats 1 [mainT mx rt] [] = [⟨0, 0, 1⟩] := by
    simp only [lats, latS, l1, List.head?_nil, List.tail_nil, Option.map_none, ratS]
    split <;> rfl
  obtain ⟨w1, w2, w3, w4, w5⟩ := wsa hA
  rw [hW] at w1 w2 w3
  have o0 := OkL_lats w2 w3 0 []
  have o1 := OkL_lats w2 w3 1 []
  have z0 := dv_in o0 hd.2.1
  have z1 := dv_in o1 hd.2.2
  have hy : ysA [mainT mx rt] [] d1 d2 = [0] := by
    unfold ysA
    rw [e0, e1] at *
    generalize dv [⟨0, 0, 1⟩] d1 = a at *
    generalize dv [⟨0, 0, 1⟩] d2 = b at *
    match a, b, z0, z1 with
    | [x], [y], z0, z1 =>
      have h0 := z0.1
      have h1 := z1.1
      simp only at h0 h1
      have : x = 0 := by omega
      have : y = 0 := by omega
      subst_vars; rfl
  have e2 : lons [mainT mx rt] [0] [] = [⟨-mx, mx, 1⟩] := by
    have := noarc_lon hk rfl (by unfold mainT; simp)
    simp only [lons, lonS, this, List.head?_nil, List.tail_nil, Option.map_none, ratS]
    rfl
  have c0 : ∀ d : Int, Div.clamp d 0 0 = 0 := fun d => by rw [Div.clamp_eq]; split <;> split <;> omega
  rw [gvA_eq hA hd, hW, hy, e0, e1, e2]
  unfold totC
  simp only [Div.lows, Div.highs, Int.add_zero, c0]

theorem main_met {bw sn mx rt : Int} (hb : 0 ≤ bw ∧ bw ≤ 200) (hs : 1 ≤ sn ∧ sn ≤ 200) (hm : 0 ≤ mx ∧ mx ≤ 5000) (hr : 0 ≤ rt ∧ rt ≤ 5000) {f : Int × Int × Int} (hf : Sml 1000 f) :
    metB (mainS bw sn mx rt) [mx] f = decide ((-mx ≤ f.1 ∧ f.1 ≤ mx) ∧ bowF (mainS bw sn mx rt) f = 0 ∧ f.2.1 = 0) := by
  have hA := mainA hb hs hm hr
  have hg := main_gv hb hs hm hr (dmd_mod hA.ok hf)
  rw [Bool.eq_iff_iff, metB_iff, decide_eq_true_iff]
  unfold mis gvL
  rw [hg, Div.clamp_eq]
  simp only [Prod.mk.injEq]
  split <;> split <;> omega

/-! ### The source -/
theorem c_Force {L : List Int} {k : Nat} (hL : L.length ≤ 600) (hk : k ≤ 600) :
    ∃ (f : Int × Int × Int) (k' : Nat), denC E 12 [AV.t (.ptr 0 0)] [src L k] = some ([RV.agg [PV.int .i64 f.1, PV.int .i64 f.2.1, PV.int .i64 f.2.2]], [src L k']) ∧ Sml 100 f ∧ k' ≤ 600 := by
  have hk1 := at'_le hL hk
  have hk2 := at'_le hL hk1
  have b0 := vRange_bounds (L := L) (k := k) (lo := -60) (hi := 60) (by omega)
  have b1 := vRange_bounds (L := L) (k := at' L k) (lo := -60) (hi := 60) (by omega)
  have b2 := vRange_bounds (L := L) (k := at' L (at' L k)) (lo := -900) (hi := 900) (by omega)
  refine ⟨(vRange L k (-60) 60, vRange L (at' L k) (-60) 60, vRange L (at' L (at' L k)) (-900) 900), _, ?_, ?_, at'_le hL hk2⟩
  rotate_left
  · unfold Sml
    simp only
    omega
  rw [denC_eq, r12, c_Range hL hk (by omega)]
  simp only [bnd_some, ctl_true, ctl_false, ctl_and, ctl_or', ctl_or2, x_toPV, x_toCs, x_toCs2, x_toEs, x_bEs, x_bCs, x_aPV, x_aCs, x_int, x_bool, x_str, x_es, x_esn, nth_0, nth_1, nth_2, nth_3, nth_4, nth_5, nth_6, nth_7, nth_8, nth_9, y_nil, y_int, y_bool, y_str, y_sl, y_nils, y_agg, y_ownp, y_own, z_nil, z_int, z_bool, z_str, z_sl, z_nils, b_nil, b_arr, b_box1, b_box2, b_box3, b_box4, List.map_cons, List.map_nil, Bool.and_self, Bool.and_true, Bool.true_and, Bool.not_true, Bool.not_false, Bool.or_false, Bool.false_or, cond_true, cond_false, okPack, okPut, okPutBlks, okPutCells, q_isP, q_isAg, q_isBox, q_isArr, q_int, q_bool, q_str, q_sl, q_nils, e_exit, e_ret, e_nrm, e_ret_exit, e_exit_ret, e_nrm_exit, e_nrm_ret, e_exit_nrm, e_ret_nrm, Nat.zero_add, Nat.reduceAdd, noslR, noslP, noslB, noslA, List.all_cons, List.all_nil]
  rw [c_Range hL hk1 (by omega)]
  simp only [bnd_some, ctl_true, ctl_false, ctl_and, ctl_or', ctl_or2, x_toPV, x_toCs, x_toCs2, x_toEs, x_bEs, x_bCs, x_aPV, x_aCs, x_int, x_bool, x_str, x_es, x_esn, nth_0, nth_1, nth_2, nth_3, nth_4, nth_5, nth_6, nth_7, nth_8, nth_9, y_nil, y_int, y_bool, y_str, y_sl, y_nils, y_agg, y_ownp, y_own, z_nil, z_int, z_bool, z_str, z_sl, z_nils, b_nil, b_arr, b_box1, b_box2, b_box3, b_box4, List.map_cons, List.map_nil, Bool.and_self, Bool.and_true, Bool.true_and, Bool.not_true, Bool.not_false, Bool.or_false, Bool.false_or, cond_true, cond_false, okPack, okPut, okPutBlks, okPutCells, q_isP, q_isAg, q_isBox, q_isArr, q_int, q_bool, q_str, q_sl, q_nils, e_exit, e_ret, e_nrm, e_ret_exit, e_exit_ret, e_nrm_exit, e_nrm_ret, e_exit_nrm, e_ret_nrm, Nat.zero_add, Nat.reduceAdd, noslR, noslP, noslB, noslA, List.all_cons, List.all_nil]
  rw [c_Range hL hk2 (by omega)]
  simp only [bnd_some, ctl_true, ctl_false, ctl_and, ctl_or', ctl_or2, x_toPV, x_toCs, x_toCs2, x_toEs, x_bEs, x_bCs, x_aPV, x_aCs, x_int, x_bool, x_str, x_es, x_esn, nth_0, nth_1, nth_2, nth_3, nth_4, nth_5, nth_6, nth_7, nth_8, nth_9, y_nil, y_int, y_bool, y_str, y_sl, y_nils, y_agg, y_ownp, y_own, z_nil, z_int, z_bool, z_str, z_sl, z_nils, b_nil, b_arr, b_box1, b_box2, b_box3, b_box4, List.map_cons, List.map_nil, Bool.and_self, Bool.and_true, Bool.true_and, Bool.not_true, Bool.not_false, Bool.or_false, Bool.false_or, cond_true, cond_false, okPack, okPut, okPutBlks, okPutCells, q_isP, q_isAg, q_isBox, q_isArr, q_int, q_bool, q_str, q_sl, q_nils, e_exit, e_ret, e_nrm, e_ret_exit, e_exit_ret, e_nrm_exit, e_nrm_ret, e_exit_nrm, e_ret_nrm, Nat.zero_add, Nat.reduceAdd, noslR, noslP, noslB, noslA, List.all_cons, List.all_nil]

theorem some_loop {L : List Int} (hL : L.length ≤ 600) (m : Int) (hm : 1 ≤ m ∧ m ≤ 1000) (N : Nat) (hN : N ≤ 1000) : ∀ (n : Nat) (i : Nat) (k : Nat) (acc : List Int), k ≤ 600 → i + n = N → acc.length ≤ i →
    ∃ (l : List Int) (k' : Nat), lp E (denC E) 18 1 [] 0 { vals := [AV.int .i64 N, AV.int .i64 m, AV.int .i64 i], blks := [src L k, Blk.arr 1 (intsK .i64 acc)] } =
      some (Ex.exit 0, { vals := [], blks := [src L k', Blk.arr 1 (intsK .i64 (acc ++ l))] }) ∧ l.length ≤ n ∧ k' ≤ 600
  | 0, i, k, acc, hk, hi, ha => by
    refine ⟨[], k, ?_, by simp, hk⟩
    rw [r18_0, ctl_dec, if_neg (by omega), List.append_nil]
  | n + 1, i, k, acc, hk, hi, ha => by
    have hk1 := at'_le hL hk
    have hN' := c_N hL hk m (by omega)
    have e2 : leN (((intsK .i64 acc).length + 1) * 8) 140737488355328 = true := by rw [intsK_length]; simp only [decide_eq_true_eq]; omega
    have e3 : (i : Int) + 1 = ((i + 1 : Nat) : Int) := by omega
    have e4 : intsK .i64 (acc ++ [(i : Int)]) = intsK .i64 acc ++ [[PV.int .i64 i]] := by simp [intsK]
    by_cases hv : vN L k m = m - 1
    · obtain ⟨l, k', h2, h3, h4⟩ := some_loop hL m hm N hN n (i + 1) (at' L k) (acc ++ [(i : Int)]) hk1 (by omega) (by simp; omega)
      refine ⟨(i : Int) :: l, k', ?_, by simp; omega, h4⟩
      have f : (vN L k m == m - 1) = true := by simpa using hv
      rw [r18_0, ctl_dec, if_pos (by omega), hN']
      simp only [bnd_some, ctl_true, ctl_false, ctl_and, ctl_or', ctl_or2, x_toPV, x_toCs, x_toCs2, x_toEs, x_bEs, x_bCs, x_aPV, x_aCs, x_int, x_bool, x_str, x_es, x_esn, nth_0, nth_1, nth_2, nth_3, nth_4, nth_5, nth_6, nth_7, nth_8, nth_9, y_nil, y_int, y_bool, y_str, y_sl, y_nils, y_agg, y_ownp, y_own, z_nil, z_int, z_bool, z_str, z_sl, z_nils, b_nil, b_arr, b_box1, b_box2, b_box3, b_box4, List.map_cons, List.map_nil, Bool.and_self, Bool.and_true, Bool.true_and, Bool.not_true, Bool.not_false, Bool.or_false, Bool.false_or, cond_true, cond_false, okPack, okPut, okPutBlks, okPutCells, q_isP, q_isAg, q_isBox, q_isArr, q_int, q_bool, q_str, q_sl, q_nils, e_exit, e_ret, e_nrm, e_ret_exit, e_exit_ret, e_nrm_exit, e_nrm_ret, e_exit_nrm, e_ret_nrm, Nat.zero_add, Nat.reduceAdd, noslR, noslP, noslB, noslA, List.all_cons, List.all_nil]
      rw [w64 (n := m - 1) (by omega), f, e2, w64 (n := (i : Int) + 1) (by omega), e3]
      rw [e4] at h2
      simp only [ctl_true]
      refine Eq.trans h2 ?_
      simp only [List.append_assoc, List.cons_append, List.nil_append]
    · obtain ⟨l, k', h2, h3, h4⟩ := some_loop hL m hm N hN n (i + 1) (at' L k) acc hk1 (by omega) (by omega)
      refine ⟨l, k', ?_, by omega, h4⟩
      have f : (vN L k m == m - 1) = false := by simpa using hv
      rw [r18_0, ctl_dec, if_pos (by omega), hN']
      simp only [bnd_some, ctl_true, ctl_false, ctl_and, ctl_or', ctl_or2, x_toPV, x_toCs, x_toCs2, x_toEs, x_bEs, x_bCs, x_aPV, x_aCs, x_int, x_bool, x_str, x_es, x_esn, nth_0, nth_1, nth_2, nth_3, nth_4, nth_5, nth_6, nth_7, nth_8, nth_9, y_nil, y_int, y_bool, y_str, y_sl, y_nils, y_agg, y_ownp, y_own, z_nil, z_int, z_bool, z_str, z_sl, z_nils, b_nil, b_arr, b_box1, b_box2, b_box3, b_box4, List.map_cons, List.map_nil, Bool.and_self, Bool.and_true, Bool.true_and, Bool.not_true, Bool.not_false, Bool.or_false, Bool.false_or, cond_true, cond_false, okPack, okPut, okPutBlks, okPutCells, q_isP, q_isAg, q_isBox, q_isArr, q_int, q_bool, q_str, q_sl, q_nils, e_exit, e_ret, e_nrm, e_ret_exit, e_exit_ret, e_nrm_exit, e_nrm_ret, e_exit_nrm, e_ret_nrm, Nat.zero_add, Nat.reduceAdd, noslR, noslP, noslB, noslA, List.all_cons, List.all_nil]
      rw [w64 (n := m - 1) (by omega), f, w64 (n := (i : Int) + 1) (by omega), e3]
      simp only [ctl_false]
      exact h2

theorem c_Some {L : List Int} {k : Nat} (hL : L.length ≤ 600) (hk : k ≤ 600) (N : Nat) (hN : N ≤ 1000) {m : Int} (hm : 1 ≤ m ∧ m ≤ 1000) :
    ∃ (l : List Int) (k' : Nat), denC E 18 [AV.t (.ptr 0 0), AV.int .i64 N, AV.int .i64 m] [src L k] = some ([RV.p (PV.sl 1 (intsK .i64 l))], [src L k']) ∧ l.length ≤ 1000 ∧ k' ≤ 600 := by
  obtain ⟨l, k', h1, h2, h3⟩ := some_loop hL m hm N hN N 0 k [] hk (by omega) (by simp)
  refine ⟨l, k', ?_, by omega, h3⟩
  have ea : intsK .i64 [] = [] := rfl
  have e0 : (((0 : Nat)) : Int) = 0 := rfl
  rw [ea, e0] at h1
  rw [denC_eq, r18, h1]
  simp only [bnd_some, ctl_true, ctl_false, ctl_and, ctl_or', ctl_or2, x_toPV, x_toCs, x_toCs2, x_toEs, x_bEs, x_bCs, x_aPV, x_aCs, x_int, x_bool, x_str, x_es, x_esn, nth_0, nth_1, nth_2, nth_3, nth_4, nth_5, nth_6, nth_7, nth_8, nth_9, y_nil, y_int, y_bool, y_str, y_sl, y_nils, y_agg, y_ownp, y_own, z_nil, z_int, z_bool, z_str, z_sl, z_nils, b_nil, b_arr, b_box1, b_box2, b_box3, b_box4, List.map_cons, List.map_nil, Bool.and_self, Bool.and_true, Bool.true_and, Bool.not_true, Bool.not_false, Bool.or_false, Bool.false_or, cond_true, cond_false, okPack, okPut, okPutBlks, okPutCells, q_isP, q_isAg, q_isBox, q_isArr, q_int, q_bool, q_str, q_sl, q_nils, e_exit, e_ret, e_nrm, e_ret_exit, e_exit_ret, e_nrm_exit, e_nrm_ret, e_exit_nrm, e_ret_nrm, Nat.zero_add, Nat.reduceAdd, noslR, noslP, noslB, noslA, List.all_cons, List.all_nil, List.nil_append]

/-! ### Has -/
theorem has_loop (x : Int) : ∀ (l p : List Int), (p ++ l).length ≤ 10000 →
    lp E (denC E) 20 0 [] 0 { vals := [AV.int .i64 x, AV.sl 1 (intsK .i64 (p ++ l)), AV.int .i64 ((p ++ l).length : Int), AV.int .i64 (p.length : Int)], blks := [] } =
      if x ∈ l then some (Ex.ret, { vals := [AV.bool true], blks := [] }) else some (Ex.exit 0, { vals := [], blks := [] })
  | [], p, h => by
    rw [r20_0, ctl_dec, if_neg (by simp), if_neg (by simp)]
  | s :: l, p, h => by
    have ih := has_loop x l (p ++ [s]) (by simp at h ⊢; omega)
    simp only [List.append_assoc, List.cons_append, List.nil_append, List.length_append, List.length_cons, List.length_nil] at ih h
    rw [r20_0, ctl_dec, if_pos (by simp; omega), getE_int1]
    simp only [bnd_some, ctl_true, ctl_false, ctl_and, ctl_or', ctl_or2, x_toPV, x_toCs, x_toCs2, x_toEs, x_bEs, x_bCs, x_aPV, x_aCs, x_int, x_bool, x_str, x_es, x_esn, nth_0, nth_1, nth_2, nth_3, nth_4, nth_5, nth_6, nth_7, nth_8, nth_9, y_nil, y_int, y_bool, y_str, y_sl, y_nils, y_agg, y_ownp, y_own, z_nil, z_int, z_bool, z_str, z_sl, z_nils, b_nil, b_arr, b_box1, b_box2, b_box3, b_box4, List.map_cons, List.map_nil, Bool.and_self, Bool.and_true, Bool.true_and, Bool.not_true, Bool.not_false, Bool.or_false, Bool.false_or, cond_true, cond_false, okPack, okPut, okPutBlks, okPutCells, q_isP, q_isAg, q_isBox, q_isArr, q_int, q_bool, q_str, q_sl, q_nils, e_exit, e_ret, e_nrm, e_ret_exit, e_exit_ret, e_nrm_exit, e_nrm_ret, e_exit_nrm, e_ret_nrm, Nat.zero_add, Nat.reduceAdd, noslR, noslP, noslB, noslA, List.all_cons, List.all_nil, List.length_append, List.length_cons]
    rw [w64 (n := (p.length : Int) + 1) (by omega)]
    have e1 : ((p.length : Int) + 1) = ((p.length + (0 + 1) : Nat) : Int) := by omega
    rw [e1, ih]
    by_cases hx : s = x
    · have f : (s == x) = true := by simpa using hx
      rw [f, ctl_true, if_pos (by rw [hx]; exact List.mem_cons_self ..)]
    · have f : (s == x) = false := by simpa using hx
      have e : (x ∈ s :: l) = (x ∈ l) := propext ⟨fun h => (List.mem_cons.1 h).resolve_left fun h => hx h.symm, fun h => List.mem_cons_of_mem _ h⟩
      simp only [f, ctl_false, e]

theorem c_Has {l : List Int} (h : l.length ≤ 10000) (x : Int) : denC E 20 [AV.sl 1 (intsK .i64 l), AV.int .i64 x] [] = some ([RV.p (PV.bool (decide (x ∈ l)))], []) := by
  have hl := has_loop x l [] (by simpa using h)
  simp only [List.nil_append, List.length_nil] at hl
  have e0 : (((0 : Nat)) : Int) = 0 := rfl
  rw [e0] at hl
  rw [denC_eq, r20, intsK_length, hl]
  by_cases hx : x ∈ l
  · rw [if_pos hx]
    simp only [bnd_some, ctl_true, ctl_false, ctl_and, ctl_or', ctl_or2, x_toPV, x_toCs, x_toCs2, x_toEs, x_bEs, x_bCs, x_aPV, x_aCs, x_int, x_bool, x_str, x_es, x_esn, nth_0, nth_1, nth_2, nth_3, nth_4, nth_5, nth_6, nth_7, nth_8, nth_9, y_nil, y_int, y_bool, y_str, y_sl, y_nils, y_agg, y_ownp, y_own, z_nil, z_int, z_bool, z_str, z_sl, z_nils, b_nil, b_arr, b_box1, b_box2, b_box3, b_box4, List.map_cons, List.map_nil, Bool.and_self, Bool.and_true, Bool.true_and, Bool.not_true, Bool.not_false, Bool.or_false, Bool.false_or, cond_true, cond_false, okPack, okPut, okPutBlks, okPutCells, q_isP, q_isAg, q_isBox, q_isArr, q_int, q_bool, q_str, q_sl, q_nils, e_exit, e_ret, e_nrm, e_ret_exit, e_exit_ret, e_nrm_exit, e_nrm_ret, e_exit_nrm, e_ret_nrm, Nat.zero_add, Nat.reduceAdd, noslR, noslP, noslB, noslA, List.all_cons, List.all_nil, hx, decide_true]
  · rw [if_neg hx]
    simp only [bnd_some, ctl_true, ctl_false, ctl_and, ctl_or', ctl_or2, x_toPV, x_toCs, x_toCs2, x_toEs, x_bEs, x_bCs, x_aPV, x_aCs, x_int, x_bool, x_str, x_es, x_esn, nth_0, nth_1, nth_2, nth_3, nth_4, nth_5, nth_6, nth_7, nth_8, nth_9, y_nil, y_int, y_bool, y_str, y_sl, y_nils, y_agg, y_ownp, y_own, z_nil, z_int, z_bool, z_str, z_sl, z_nils, b_nil, b_arr, b_box1, b_box2, b_box3, b_box4, List.map_cons, List.map_nil, Bool.and_self, Bool.and_true, Bool.true_and, Bool.not_true, Bool.not_false, Bool.or_false, Bool.false_or, cond_true, cond_false, okPack, okPut, okPutBlks, okPutCells, q_isP, q_isAg, q_isBox, q_isArr, q_int, q_bool, q_str, q_sl, q_nils, e_exit, e_ret, e_nrm, e_ret_exit, e_exit_ret, e_nrm_exit, e_nrm_ret, e_exit_nrm, e_ret_nrm, Nat.zero_add, Nat.reduceAdd, noslR, noslP, noslB, noslA, List.all_cons, List.all_nil, hx, decide_false]

/-! ### The example -/
theorem bow_along {s : Shp} (h : OkShp s) {f : Int × Int × Int} (h1 : f.2.1 = 0) (h2 : f.2.2 = 0) : bowF s f = 0 := by
  obtain ⟨g1, g2, g3, g4, g5, g6, g7⟩ := h
  unfold bowF Half
  rw [h1, h2]
  have e : 2 * (-(0 : Int) + -(0 : Int) * s.sn) + (s.bw + s.sn) = s.bw + s.sn := by simp
  rw [e]
  exact Int.ediv_eq_zero_of_lt (by omega) (by omega)

theorem main_along {bw sn mx rt : Int} (hb : 0 ≤ bw ∧ bw ≤ 200) (hs : 1 ≤ sn ∧ sn ≤ 200) (hm : 0 ≤ mx ∧ mx ≤ 5000) (hr : 0 ≤ rt ∧ rt ≤ 5000) {n : Int} (hn : -1000 ≤ n ∧ n ≤ 1000) :
    metB (mainS bw sn mx rt) [mx] (n, 0, 0) = decide (-mx ≤ n ∧ n ≤ mx) := by
  have hA := mainA hb hs hm hr
  rw [main_met hb hs hm hr (by unfold Sml; simp only; omega), bow_along hA.ok rfl rfl]
  simp

theorem c_sane : denC E 8 [] [] = some ([RV.p (PV.bool true)], []) := by
  have hA := mainA (bw := 0) (sn := 1) (mx := 100) (rt := 1) (by omega) (by omega) (by omega) (by omega)
  have m1 := c_Meets hA (f := (-100, 0, 0)) (by unfold Sml; simp only; omega)
  have m2 := c_Meets hA (f := (-101, 0, 0)) (by unfold Sml; simp only; omega)
  have m3 := c_Meets hA (f := (0, 5, 0)) (by unfold Sml; simp only; omega)
  have hR := c_Reserve hA (f := (-50, 0, 0)) (by unfold Sml; simp only; omega)
  rw [main_along (by omega) (by omega) (by omega) (by omega) (by omega)] at m1 m2
  rw [main_met (by omega) (by omega) (by omega) (by omega) (by unfold Sml; simp only; omega)] at m3
  have hr : rsv (mainS 0 1 100 1) [100] (-50, 0, 0) = 200 := by
    obtain ⟨j, h1, h2, h3, h4⟩ := rsv_spec hA (-50, 0, 0)
    by_cases hj : j = 20
    · omega
    · exfalso
      have h4 := h4.resolve_left hj
      have e : prt (-50, 0, 0) (10 * (j : Int) + 10) = (Half (-50 * (10 * (j : Int) + 10)) 100, 0, 0) := by
        unfold prt
        refine Prod.ext rfl (Prod.ext ?_ ?_) <;> (unfold Half; simp only; omega)
      rw [e, main_along (by omega) (by omega) (by omega) (by omega) (by unfold Half; omega)] at h4
      have := of_decide_eq_false h4
      unfold Half at this
      omega
  rw [hr] at hR
  have hW := c_Without (a := [4, 5, 6]) (l := [1, 7, -1]) (by decide) (by decide)
  have ew : wo [4, 5, 6] [1, 7, -1] = [4, 0, 6] := by decide
  rw [ew] at hW
  have hI := c_Ints [4, 0, 6] [4, 0, 6] (by decide)
  have eS : shpC (mainS 0 1 100 1) = [PV.int .i64 0, PV.int .i64 1, PV.sl 6 [[PV.int .i64 2, PV.int .i64 0, PV.int .i64 100, PV.int .i64 1, PV.int .i64 1, PV.sl 2 []]]] := rfl
  have eM : intsK .i64 [100] = [[PV.int .i64 100]] := rfl
  have eA : intsK .i64 [4, 5, 6] = [[PV.int .i64 4], [PV.int .i64 5], [PV.int .i64 6]] := rfl
  have eB : intsK .i64 [1, 7, -1] = [[PV.int .i64 1], [PV.int .i64 7], [PV.int .i64 (-1)]] := rfl
  have eC : intsK .i64 [4, 0, 6] = [[PV.int .i64 4], [PV.int .i64 0], [PV.int .i64 6]] := rfl
  rw [eS, eM] at m1 m2 m3 hR
  rw [eA, eB, eC] at hW
  rw [eC] at hI
  have d1 : decide (-(100 : Int) ≤ -100 ∧ -100 ≤ (100 : Int)) = true := by decide
  have d2 : decide (-(100 : Int) ≤ -101 ∧ -101 ≤ (100 : Int)) = false := by decide
  have d3 : decide ((-(100 : Int) ≤ (0, (5 : Int), (0 : Int)).1 ∧ (0, (5 : Int), (0 : Int)).1 ≤ (100 : Int)) ∧ bowF (mainS 0 1 100 1) (0, 5, 0) = 0 ∧ ((0 : Int), (5 : Int), (0 : Int)).2.1 = 0) = false := by decide +kernel
  rw [d1] at m1
  rw [d2] at m2
  rw [d3] at m3
  simp only at m1 m2 m3 hR
  rw [denC_eq, r8, m1]
  simp only [bnd_some, ctl_true, ctl_false, ctl_and, ctl_or', ctl_or2, x_toPV, x_toCs, x_toCs2, x_toEs, x_bEs, x_bCs, x_aPV, x_aCs, x_int, x_bool, x_str, x_es, x_esn, nth_0, nth_1, nth_2, nth_3, nth_4, nth_5, nth_6, nth_7, nth_8, nth_9, y_nil, y_int, y_bool, y_str, y_sl, y_nils, y_agg, y_ownp, y_own, z_nil, z_int, z_bool, z_str, z_sl, z_nils, b_nil, b_arr, b_box1, b_box2, b_box3, b_box4, List.map_cons, List.map_nil, Bool.and_self, Bool.and_true, Bool.true_and, Bool.not_true, Bool.not_false, Bool.or_false, Bool.false_or, cond_true, cond_false, okPack, okPut, okPutBlks, okPutCells, q_isP, q_isAg, q_isBox, q_isArr, q_int, q_bool, q_str, q_sl, q_nils, e_exit, e_ret, e_nrm, e_ret_exit, e_exit_ret, e_nrm_exit, e_nrm_ret, e_exit_nrm, e_ret_nrm, Nat.zero_add, Nat.reduceAdd, noslR, noslP, noslB, noslA, List.all_cons, List.all_nil]
  rw [m2]
  simp only [bnd_some, ctl_true, ctl_false, ctl_and, ctl_or', ctl_or2, x_toPV, x_toCs, x_toCs2, x_toEs, x_bEs, x_bCs, x_aPV, x_aCs, x_int, x_bool, x_str, x_es, x_esn, nth_0, nth_1, nth_2, nth_3, nth_4, nth_5, nth_6, nth_7, nth_8, nth_9, y_nil, y_int, y_bool, y_str, y_sl, y_nils, y_agg, y_ownp, y_own, z_nil, z_int, z_bool, z_str, z_sl, z_nils, b_nil, b_arr, b_box1, b_box2, b_box3, b_box4, List.map_cons, List.map_nil, Bool.and_self, Bool.and_true, Bool.true_and, Bool.not_true, Bool.not_false, Bool.or_false, Bool.false_or, cond_true, cond_false, okPack, okPut, okPutBlks, okPutCells, q_isP, q_isAg, q_isBox, q_isArr, q_int, q_bool, q_str, q_sl, q_nils, e_exit, e_ret, e_nrm, e_ret_exit, e_exit_ret, e_nrm_exit, e_nrm_ret, e_exit_nrm, e_ret_nrm, Nat.zero_add, Nat.reduceAdd, noslR, noslP, noslB, noslA, List.all_cons, List.all_nil]
  rw [m3]
  simp only [bnd_some, ctl_true, ctl_false, ctl_and, ctl_or', ctl_or2, x_toPV, x_toCs, x_toCs2, x_toEs, x_bEs, x_bCs, x_aPV, x_aCs, x_int, x_bool, x_str, x_es, x_esn, nth_0, nth_1, nth_2, nth_3, nth_4, nth_5, nth_6, nth_7, nth_8, nth_9, y_nil, y_int, y_bool, y_str, y_sl, y_nils, y_agg, y_ownp, y_own, z_nil, z_int, z_bool, z_str, z_sl, z_nils, b_nil, b_arr, b_box1, b_box2, b_box3, b_box4, List.map_cons, List.map_nil, Bool.and_self, Bool.and_true, Bool.true_and, Bool.not_true, Bool.not_false, Bool.or_false, Bool.false_or, cond_true, cond_false, okPack, okPut, okPutBlks, okPutCells, q_isP, q_isAg, q_isBox, q_isArr, q_int, q_bool, q_str, q_sl, q_nils, e_exit, e_ret, e_nrm, e_ret_exit, e_exit_ret, e_nrm_exit, e_nrm_ret, e_exit_nrm, e_ret_nrm, Nat.zero_add, Nat.reduceAdd, noslR, noslP, noslB, noslA, List.all_cons, List.all_nil]
  rw [hR]
  simp only [bnd_some, ctl_true, ctl_false, ctl_and, ctl_or', ctl_or2, x_toPV, x_toCs, x_toCs2, x_toEs, x_bEs, x_bCs, x_aPV, x_aCs, x_int, x_bool, x_str, x_es, x_esn, nth_0, nth_1, nth_2, nth_3, nth_4, nth_5, nth_6, nth_7, nth_8, nth_9, y_nil, y_int, y_bool, y_str, y_sl, y_nils, y_agg, y_ownp, y_own, z_nil, z_int, z_bool, z_str, z_sl, z_nils, b_nil, b_arr, b_box1, b_box2, b_box3, b_box4, List.map_cons, List.map_nil, Bool.and_self, Bool.and_true, Bool.true_and, Bool.not_true, Bool.not_false, Bool.or_false, Bool.false_or, cond_true, cond_false, okPack, okPut, okPutBlks, okPutCells, q_isP, q_isAg, q_isBox, q_isArr, q_int, q_bool, q_str, q_sl, q_nils, e_exit, e_ret, e_nrm, e_ret_exit, e_exit_ret, e_nrm_exit, e_nrm_ret, e_exit_nrm, e_ret_nrm, Nat.zero_add, Nat.reduceAdd, noslR, noslP, noslB, noslA, List.all_cons, List.all_nil, beq_self_eq_true]
  rw [hW]
  simp only [bnd_some, ctl_true, ctl_false, ctl_and, ctl_or', ctl_or2, x_toPV, x_toCs, x_toCs2, x_toEs, x_bEs, x_bCs, x_aPV, x_aCs, x_int, x_bool, x_str, x_es, x_esn, nth_0, nth_1, nth_2, nth_3, nth_4, nth_5, nth_6, nth_7, nth_8, nth_9, y_nil, y_int, y_bool, y_str, y_sl, y_nils, y_agg, y_ownp, y_own, z_nil, z_int, z_bool, z_str, z_sl, z_nils, b_nil, b_arr, b_box1, b_box2, b_box3, b_box4, List.map_cons, List.map_nil, Bool.and_self, Bool.and_true, Bool.true_and, Bool.not_true, Bool.not_false, Bool.or_false, Bool.false_or, cond_true, cond_false, okPack, okPut, okPutBlks, okPutCells, q_isP, q_isAg, q_isBox, q_isArr, q_int, q_bool, q_str, q_sl, q_nils, e_exit, e_ret, e_nrm, e_ret_exit, e_exit_ret, e_nrm_exit, e_nrm_ret, e_exit_nrm, e_ret_nrm, Nat.zero_add, Nat.reduceAdd, noslR, noslP, noslB, noslA, List.all_cons, List.all_nil]
  rw [hI]
  simp only [bnd_some, ctl_true, ctl_false, ctl_and, ctl_or', ctl_or2, x_toPV, x_toCs, x_toCs2, x_toEs, x_bEs, x_bCs, x_aPV, x_aCs, x_int, x_bool, x_str, x_es, x_esn, nth_0, nth_1, nth_2, nth_3, nth_4, nth_5, nth_6, nth_7, nth_8, nth_9, y_nil, y_int, y_bool, y_str, y_sl, y_nils, y_agg, y_ownp, y_own, z_nil, z_int, z_bool, z_str, z_sl, z_nils, b_nil, b_arr, b_box1, b_box2, b_box3, b_box4, List.map_cons, List.map_nil, Bool.and_self, Bool.and_true, Bool.true_and, Bool.not_true, Bool.not_false, Bool.or_false, Bool.false_or, cond_true, cond_false, okPack, okPut, okPutBlks, okPutCells, q_isP, q_isAg, q_isBox, q_isArr, q_int, q_bool, q_str, q_sl, q_nils, e_exit, e_ret, e_nrm, e_ret_exit, e_exit_ret, e_nrm_exit, e_nrm_ret, e_exit_nrm, e_ret_nrm, Nat.zero_add, Nat.reduceAdd, noslR, noslP, noslB, noslA, List.all_cons, List.all_nil, decide_true]

/-! ### No power -/
/-- A thruster whose greatest force is 0. -/
theorem lat_none {t : Thr} (hv : okT t = true) (hm : t.mx = 0) : latF t = (0, 0) := by
  have := lat_in hv
  exact Prod.ext (by simp only; omega) (by simp only; omega)
theorem lon_none {t : Thr} (hv : okT t = true) (hm : t.mx = 0) (y : Int) : lonF t y = (0, 0) := by
  have := lon_in hv y
  exact Prod.ext (by simp only; omega) (by simp only; omega)

theorem InR_none : ∀ {l : List Div.Shr} {xs : List Int}, (∀ s ∈ l, s.lo = 0 ∧ s.hi = 0) → InR l xs → ∀ x ∈ xs, x = 0
  | [], [], _, _, x, hx => by cases hx
  | [], _ :: _, _, h, _, _ => h.elim
  | _ :: _, [], _, h, _, _ => h.elim
  | s :: l, y :: xs, hs, h, x, hx => by
    rcases List.mem_cons.1 hx with rfl | hx
    · have := hs s (List.mem_cons_self ..)
      have := h.1
      omega
    · exact InR_none (fun z hz => hs z (List.mem_cons_of_mem _ hz)) h.2 x hx
theorem totC_none {l : List Div.Shr} (h : ∀ s ∈ l, s.lo = 0 ∧ s.hi = 0) (d : Int) : totC l d = 0 := by
  have hl : Div.lows l = 0 ∧ Div.highs l = 0 := by
    induction l with
    | nil => exact ⟨rfl, rfl⟩
    | cons s l ih =>
      have := ih fun x hx => h x (List.mem_cons_of_mem _ hx)
      have := h s (List.mem_cons_self ..)
      simp only [Div.lows, Div.highs]
      omega
  unfold totC
  rw [hl.1, hl.2, Div.clamp_eq]
  split <;> split <;> omega

theorem lats_none (k : Int) : ∀ {ts : List Thr}, (∀ t ∈ ts, okT t = true ∧ t.mx = 0) → ∀ s ∈ lats k ts [], s.lo = 0 ∧ s.hi = 0
  | [], _, s, hs => by cases hs
  | t :: ts, h, s, hs => by
    rcases List.mem_cons.1 hs with rfl | hs
    · have h1 := lat_none (h t (List.mem_cons_self ..)).1 (h t (List.mem_cons_self ..)).2
      unfold latS
      split
      · simp only [List.head?_nil, Option.map_none, ratS, h1, and_self]
      · exact ⟨rfl, rfl⟩
    · exact lats_none k (fun x hx => h x (List.mem_cons_of_mem _ hx)) s hs
theorem lons_none : ∀ {ts : List Thr} (ys : List Int), (∀ t ∈ ts, okT t = true ∧ t.mx = 0) → ∀ s ∈ lons ts ys [], s.lo = 0 ∧ s.hi = 0
  | [], _, _, s, hs => by cases hs
  | t :: ts, [], _, s, hs => by cases hs
  | t :: ts, y :: ys, h, s, hs => by
    rcases List.mem_cons.1 hs with rfl | hs
    · have h1 := lon_none (h t (List.mem_cons_self ..)).1 (h t (List.mem_cons_self ..)).2 y
      unfold lonS
      simp only [List.head?_nil, Option.map_none, ratS, h1, and_self]
    · exact lons_none ys (fun x hx => h x (List.mem_cons_of_mem _ hx)) s hs

theorem Ws_none : ∀ {ts : List Thr} {n : Nat}, (∀ t ∈ ts, okT t = true) → ∀ w ∈ Ws ts (List.replicate n 0), okT w = true ∧ w.mx = 0
  | [], _, _, w, hw => by cases hw
  | t :: ts, 0, h, w, hw => by cases hw
  | t :: ts, n + 1, h, w, hw => by
    rcases List.mem_cons.1 hw with rfl | hw
    · have ht := h t (List.mem_cons_self ..)
      have hv := okT0_iff.1 (okT_iff.1 ht).1
      refine ⟨withT_ok ht 0, ?_⟩
      unfold withT minI maxI
      simp only
      split <;> split <;> omega
    · exact Ws_none (fun x hx => h x (List.mem_cons_of_mem _ hx)) w hw

/-- A ship without power. -/
theorem thA_none {s : Shp} (h : AOk s (List.replicate s.ts.length 0) []) {d0 d1 d2 : Int} (hd : Mod3 d0 d1 d2) :
    (∀ v ∈ thA (Ws s.ts (List.replicate s.ts.length 0)) [] d0 d1 d2, v = (0, 0)) ∧ gvA s (List.replicate s.ts.length 0) [] d0 d1 d2 = (0, 0, 0) := by
  obtain ⟨w1, w2, w3, w4, w5⟩ := wsa h
  have hw := Ws_none (ts := s.ts) (n := s.ts.length) fun t ht => (h.ok.2.2.2.2.2.2 t ht).1
  have hy := ysA_len h hd
  have o0 := OkL_lats w2 w3 0 []
  have o1 := OkL_lats w2 w3 1 []
  have o2 := OkL_lons w2 w3 (ys := ysA (Ws s.ts (List.replicate s.ts.length 0)) [] d1 d2) (by rw [hy.1, w1]) []
  have z0 := InR_none (lats_none 0 hw) (dv_in o0 hd.2.1)
  have z1 := InR_none (lats_none 1 hw) (dv_in o1 hd.2.2)
  have z2 := InR_none (lons_none _ hw) (dv_in o2 hd.1)
  refine ⟨pairL_zero z2 (addL_zero z1 z0), ?_⟩
  rw [gvA_eq h hd, totC_none (lats_none 0 hw), totC_none (lats_none 1 hw), totC_none (lons_none _ hw)]

end Go.Proofs.Ytaekifnmofjhhaa.Vm
