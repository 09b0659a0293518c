/- Contracts of the functions that judge the status. -/
import Derived.Test.YtiagcaefhjibjaaMkC
namespace Go.Proofs.Ytiagcaefhjibjaa.Vm
set_option linter.unusedVariables false
set_option linter.unusedSimpArgs false

def Lev (n : Int) : Bool := leB 1 n && leB n 3
theorem Lev_iff {n : Int} : Lev n = true ↔ 1 ≤ n ∧ n ≤ 3 := by unfold Lev; simp
theorem c_level (n : Int) : denC E 27 [AV.int .i64 n] [] = some ([RV.p (PV.bool (Lev n))], []) := by
  rw [denC_eq, r27]
  simp only [bnd_some, ctl_true, ctl_false, ctl_and, ctl_or', ctl_or2, x_toPV, x_toCs, x_toCs2, x_toEs, x_bEs, x_bCs, x_aPV, x_aCs, x_int, x_bool, x_str, x_es, x_esn, nth_0, nth_1, nth_2, nth_3, nth_4, nth_5, nth_6, nth_7, nth_8, nth_9, y_nil, y_int, y_bool, y_str, y_sl, y_nils, y_agg, y_ownp, y_own, z_nil, z_int, z_bool, z_str, z_sl, z_nils, b_nil, b_arr, b_box1, b_box2, b_box3, b_box4, List.map_cons, List.map_nil, Bool.and_self, Bool.and_true, Bool.true_and, Bool.not_true, Bool.not_false, Bool.or_false, Bool.false_or, cond_true, cond_false, okPack, okPut, okPutBlks, okPutCells, q_isP, q_isAg, q_isBox, q_isArr, q_int, q_bool, q_str, q_sl, q_nils, e_exit, e_ret, e_nrm, e_ret_exit, e_exit_ret, e_nrm_exit, e_nrm_ret, e_exit_nrm, e_ret_nrm, Nat.zero_add, Nat.reduceAdd, Lev]

def VC (c0 c1 time : Int) : Bool := Lev c0 && leB (-1) c1 && leB c1 time && (ltB c0 3 || c1 == -1)
theorem VC_iff {c0 c1 time : Int} : VC c0 c1 time = true ↔ 1 ≤ c0 ∧ c0 ≤ 3 ∧ -1 ≤ c1 ∧ c1 ≤ time ∧ (c0 < 3 ∨ c1 = -1) := by
  unfold VC Lev; simp only [Bool.and_eq_true, Bool.or_eq_true, decide_eq_true_eq, beq_iff_eq]; omega
theorem c_SValid (c0 c1 time : Int) : denC E 13 [AV.agg [PV.int .i64 c0, PV.int .i64 c1], AV.int .i64 time] [] = some ([RV.p (PV.bool (VC c0 c1 time))], []) := by
  rw [denC_eq, r13, c_level]
  simp only [bnd_some, ctl_true, ctl_false, ctl_and, ctl_or', ctl_or2, x_toPV, x_toCs, x_toCs2, x_toEs, x_bEs, x_bCs, x_aPV, x_aCs, x_int, x_bool, x_str, x_es, x_esn, nth_0, nth_1, nth_2, nth_3, nth_4, nth_5, nth_6, nth_7, nth_8, nth_9, y_nil, y_int, y_bool, y_str, y_sl, y_nils, y_agg, y_ownp, y_own, z_nil, z_int, z_bool, z_str, z_sl, z_nils, b_nil, b_arr, b_box1, b_box2, b_box3, b_box4, List.map_cons, List.map_nil, Bool.and_self, Bool.and_true, Bool.true_and, Bool.not_true, Bool.not_false, Bool.or_false, Bool.false_or, cond_true, cond_false, okPack, okPut, okPutBlks, okPutCells, q_isP, q_isAg, q_isBox, q_isArr, q_int, q_bool, q_str, q_sl, q_nils, e_exit, e_ret, e_nrm, e_ret_exit, e_exit_ret, e_nrm_exit, e_nrm_ret, e_exit_nrm, e_ret_nrm, Nat.zero_add, Nat.reduceAdd, VC]

/-- One step: the class behind it and the error. -/
def nextF (c0 c1 time judged delay : Int) : Int × Int × Int :=
  if (!VC c0 c1 time || !Lev judged) = true then (0, 0, 64)
  else if (ltB time 0 || ltB 2147483648 time || ltB delay 0 || ltB 600 delay) = true then (0, 0, 1)
  else if c0 < judged then
    (if time - (if c1 = -1 then time else c1) < delay then (c0, (if c1 = -1 then time else c1), 0)
     else if c0 + 1 < judged then (c0 + 1, time, 0) else (c0 + 1, -1, 0))
  else (judged, -1, 0)

theorem c_better {m0 m1 m2 c0 c1 : Int} (h0 : -1000000000000 ≤ m0 ∧ m0 ≤ 1000000000000) (h1 : -1000000000000 ≤ c1 ∧ c1 ≤ 1000000000000) (h2 : -1000000000000 ≤ c0 ∧ c0 ≤ 1000000000000) :
    denC E 30 [AV.agg [PV.int .i64 m0, PV.int .i64 m1, PV.int .i64 m2], AV.agg [PV.int .i64 c0, PV.int .i64 c1]] [] =
      some ([RV.agg (if m0 - (if c1 = -1 then m0 else c1) < m2 then [PV.int .i64 c0, PV.int .i64 (if c1 = -1 then m0 else c1)] else if c0 + 1 < m1 then [PV.int .i64 (c0 + 1), PV.int .i64 m0] else [PV.int .i64 (c0 + 1), PV.int .i64 (-1)])], []) := by
  rw [denC_eq, r30]
  rw [w64 (n := m0 - m0) (by omega), w64 (n := m0 - c1) (by omega), w64 (n := c0 + 1) (by omega)]
  simp only [ctl_if, decide_eq_true_eq, beq_iff_eq]
  have key : ∀ b : Int, (if m0 - b < m2 then some ([RV.agg [PV.int .i64 c0, PV.int .i64 b]], ([] : List Blk)) else if c0 + 1 < m1 then some ([RV.agg [PV.int .i64 (c0 + 1), PV.int .i64 m0]], []) else some ([RV.agg [PV.int .i64 (c0 + 1), PV.int .i64 (-1)]], [])) =
      some ([RV.agg (if m0 - b < m2 then [PV.int .i64 c0, PV.int .i64 b] else if c0 + 1 < m1 then [PV.int .i64 (c0 + 1), PV.int .i64 m0] else [PV.int .i64 (c0 + 1), PV.int .i64 (-1)])], []) := by
    intro b
    by_cases h3 : m0 - b < m2
    · simp only [if_pos h3]
    · simp only [if_neg h3]
      by_cases h4 : c0 + 1 < m1
      · simp only [if_pos h4]
      · simp only [if_neg h4]
  by_cases h : c1 = -1
  · simp only [if_pos h]
    exact key m0
  · simp only [if_neg h]
    exact key c1

theorem c_Next (c0 c1 time judged delay : Int) : denC E 15 [AV.agg [PV.int .i64 c0, PV.int .i64 c1], AV.int .i64 time, AV.int .i64 judged, AV.int .i64 delay] [] =
    some ([RV.agg [PV.int .i64 (nextF c0 c1 time judged delay).1, PV.int .i64 (nextF c0 c1 time judged delay).2.1], RV.p (PV.int .i64 (nextF c0 c1 time judged delay).2.2)], []) := by
  rw [denC_eq, r15, c_SValid]
  simp only [bnd_some, ctl_true, ctl_false, ctl_and, ctl_or', ctl_or2, x_toPV, x_toCs, x_toCs2, x_toEs, x_bEs, x_bCs, x_aPV, x_aCs, x_int, x_bool, x_str, x_es, x_esn, nth_0, nth_1, nth_2, nth_3, nth_4, nth_5, nth_6, nth_7, nth_8, nth_9, y_nil, y_int, y_bool, y_str, y_sl, y_nils, y_agg, y_ownp, y_own, z_nil, z_int, z_bool, z_str, z_sl, z_nils, b_nil, b_arr, b_box1, b_box2, b_box3, b_box4, List.map_cons, List.map_nil, Bool.and_self, Bool.and_true, Bool.true_and, Bool.not_true, Bool.not_false, Bool.or_false, Bool.false_or, cond_true, cond_false, okPack, okPut, okPutBlks, okPutCells, q_isP, q_isAg, q_isBox, q_isArr, q_int, q_bool, q_str, q_sl, q_nils, e_exit, e_ret, e_nrm, e_ret_exit, e_exit_ret, e_nrm_exit, e_nrm_ret, e_exit_nrm, e_ret_nrm, Nat.zero_add, Nat.reduceAdd, c_level]
  unfold nextF
  by_cases h1 : (!VC c0 c1 time || !Lev judged) = true
  · rw [h1]; simp only [ctl_true, if_true]
  · have h1' : (!VC c0 c1 time || !Lev judged) = false := by simpa using h1
    rw [h1']
    simp only [ctl_false, Bool.false_eq_true, if_false]
    by_cases h2 : (ltB time 0 || ltB 2147483648 time || ltB delay 0 || ltB 600 delay) = true
    · rw [h2]; simp only [ctl_true, if_true]
    · have h2' : (ltB time 0 || ltB 2147483648 time || ltB delay 0 || ltB 600 delay) = false := by simpa using h2
      rw [h2']
      simp only [ctl_false, Bool.false_eq_true, if_false]
      have hv : VC c0 c1 time = true := by
        simp only [Bool.or_eq_false_iff, Bool.not_eq_false'] at h1'; exact h1'.1
      have hv := VC_iff.1 hv
      simp only [Bool.or_eq_false_iff, decide_eq_false_iff_not] at h2'
      rw [ctl_dec]
      by_cases h3 : c0 < judged
      · rw [if_pos h3, if_pos h3, c_better (by omega) (by omega) (by omega)]
        by_cases h4 : time - (if c1 = -1 then time else c1) < delay
        · simp only [if_pos h4, bnd_some, ctl_true, ctl_false, ctl_and, ctl_or', ctl_or2, x_toPV, x_toCs, x_toCs2, x_toEs, x_bEs, x_bCs, x_aPV, x_aCs, x_int, x_bool, x_str, x_es, x_esn, nth_0, nth_1, nth_2, nth_3, nth_4, nth_5, nth_6, nth_7, nth_8, nth_9, y_nil, y_int, y_bool, y_str, y_sl, y_nils, y_agg, y_ownp, y_own, z_nil, z_int, z_bool, z_str, z_sl, z_nils, b_nil, b_arr, b_box1, b_box2, b_box3, b_box4, List.map_cons, List.map_nil, Bool.and_self, Bool.and_true, Bool.true_and, Bool.not_true, Bool.not_false, Bool.or_false, Bool.false_or, cond_true, cond_false, okPack, okPut, okPutBlks, okPutCells, q_isP, q_isAg, q_isBox, q_isArr, q_int, q_bool, q_str, q_sl, q_nils, e_exit, e_ret, e_nrm, e_ret_exit, e_exit_ret, e_nrm_exit, e_nrm_ret, e_exit_nrm, e_ret_nrm, Nat.zero_add, Nat.reduceAdd]
        · simp only [if_neg h4]
          by_cases h5 : c0 + 1 < judged
          · simp only [if_pos h5, bnd_some, ctl_true, ctl_false, ctl_and, ctl_or', ctl_or2, x_toPV, x_toCs, x_toCs2, x_toEs, x_bEs, x_bCs, x_aPV, x_aCs, x_int, x_bool, x_str, x_es, x_esn, nth_0, nth_1, nth_2, nth_3, nth_4, nth_5, nth_6, nth_7, nth_8, nth_9, y_nil, y_int, y_bool, y_str, y_sl, y_nils, y_agg, y_ownp, y_own, z_nil, z_int, z_bool, z_str, z_sl, z_nils, b_nil, b_arr, b_box1, b_box2, b_box3, b_box4, List.map_cons, List.map_nil, Bool.and_self, Bool.and_true, Bool.true_and, Bool.not_true, Bool.not_false, Bool.or_false, Bool.false_or, cond_true, cond_false, okPack, okPut, okPutBlks, okPutCells, q_isP, q_isAg, q_isBox, q_isArr, q_int, q_bool, q_str, q_sl, q_nils, e_exit, e_ret, e_nrm, e_ret_exit, e_exit_ret, e_nrm_exit, e_nrm_ret, e_exit_nrm, e_ret_nrm, Nat.zero_add, Nat.reduceAdd]
          · simp only [if_neg h5, bnd_some, ctl_true, ctl_false, ctl_and, ctl_or', ctl_or2, x_toPV, x_toCs, x_toCs2, x_toEs, x_bEs, x_bCs, x_aPV, x_aCs, x_int, x_bool, x_str, x_es, x_esn, nth_0, nth_1, nth_2, nth_3, nth_4, nth_5, nth_6, nth_7, nth_8, nth_9, y_nil, y_int, y_bool, y_str, y_sl, y_nils, y_agg, y_ownp, y_own, z_nil, z_int, z_bool, z_str, z_sl, z_nils, b_nil, b_arr, b_box1, b_box2, b_box3, b_box4, List.map_cons, List.map_nil, Bool.and_self, Bool.and_true, Bool.true_and, Bool.not_true, Bool.not_false, Bool.or_false, Bool.false_or, cond_true, cond_false, okPack, okPut, okPutBlks, okPutCells, q_isP, q_isAg, q_isBox, q_isArr, q_int, q_bool, q_str, q_sl, q_nils, e_exit, e_ret, e_nrm, e_ret_exit, e_exit_ret, e_nrm_exit, e_nrm_ret, e_exit_nrm, e_ret_nrm, Nat.zero_add, Nat.reduceAdd]
      · rw [if_neg h3, if_neg h3, denC_eq, r29]
        simp only [bnd_some, ctl_true, ctl_false, ctl_and, ctl_or', ctl_or2, x_toPV, x_toCs, x_toCs2, x_toEs, x_bEs, x_bCs, x_aPV, x_aCs, x_int, x_bool, x_str, x_es, x_esn, nth_0, nth_1, nth_2, nth_3, nth_4, nth_5, nth_6, nth_7, nth_8, nth_9, y_nil, y_int, y_bool, y_str, y_sl, y_nils, y_agg, y_ownp, y_own, z_nil, z_int, z_bool, z_str, z_sl, z_nils, b_nil, b_arr, b_box1, b_box2, b_box3, b_box4, List.map_cons, List.map_nil, Bool.and_self, Bool.and_true, Bool.true_and, Bool.not_true, Bool.not_false, Bool.or_false, Bool.false_or, cond_true, cond_false, okPack, okPut, okPutBlks, okPutCells, q_isP, q_isAg, q_isBox, q_isArr, q_int, q_bool, q_str, q_sl, q_nils, e_exit, e_ret, e_nrm, e_ret_exit, e_exit_ret, e_nrm_exit, e_nrm_ret, e_exit_nrm, e_ret_nrm, Nat.zero_add, Nat.reduceAdd]

theorem c_Enough (c0 c1 n : Int) : denC E 17 [AV.agg [PV.int .i64 c0, PV.int .i64 c1], AV.int .i64 n] [] = some ([RV.p (PV.bool (leB n c0))], []) := by
  rw [denC_eq, r17]

def judge (holds safe : Bool) (state causes : Int) : Int := if (!holds || state != 1) = true then 1 else if (safe && leB 2 causes) = true then 3 else 2
theorem c_Judge (holds safe : Bool) (e0 e1 e2 e3 e4 causes : Int) :
    denC E 24 [AV.bool holds, AV.bool safe, AV.agg [PV.int .i64 e0, PV.int .i64 e1, PV.int .i64 e2, PV.int .i64 e3, PV.int .i64 e4], AV.int .i64 causes] [] = some ([RV.p (PV.int .i64 (judge holds safe e4 causes))], []) := by
  rw [denC_eq, r24]
  simp only [bnd_some, ctl_true, ctl_false, ctl_and, ctl_or', ctl_or2, x_toPV, x_toCs, x_toCs2, x_toEs, x_bEs, x_bCs, x_aPV, x_aCs, x_int, x_bool, x_str, x_es, x_esn, nth_0, nth_1, nth_2, nth_3, nth_4, nth_5, nth_6, nth_7, nth_8, nth_9, y_nil, y_int, y_bool, y_str, y_sl, y_nils, y_agg, y_ownp, y_own, z_nil, z_int, z_bool, z_str, z_sl, z_nils, b_nil, b_arr, b_box1, b_box2, b_box3, b_box4, List.map_cons, List.map_nil, Bool.and_self, Bool.and_true, Bool.true_and, Bool.not_true, Bool.not_false, Bool.or_false, Bool.false_or, cond_true, cond_false, okPack, okPut, okPutBlks, okPutCells, q_isP, q_isAg, q_isBox, q_isArr, q_int, q_bool, q_str, q_sl, q_nils, e_exit, e_ret, e_nrm, e_ret_exit, e_exit_ret, e_nrm_exit, e_nrm_ret, e_exit_nrm, e_ret_nrm, Nat.zero_add, Nat.reduceAdd]
  unfold judge
  cases (!holds || e4 != 1) <;> cases (safe && leB 2 causes) <;> rfl

/-! ### A whole time -/
def runL (delay : Int) : List Int → Int → Int → Int → List Int × Int
  | [], _, _, _ => ([], 0)
  | x :: l, t, c0, c1 =>
    if (nextF c0 c1 t x delay).2.2 = 0 then ((nextF c0 c1 t x delay).1 :: (runL delay l (t + 1) (nextF c0 c1 t x delay).1 (nextF c0 c1 t x delay).2.1).1, (runL delay l (t + 1) (nextF c0 c1 t x delay).1 (nextF c0 c1 t x delay).2.1).2)
    else ([], (nextF c0 c1 t x delay).2.2)

theorem intsK_append (k : IntKind) (a b : List Int) : intsK k (a ++ b) = intsK k a ++ intsK k b := by simp [intsK]

theorem run_loop (delay : Int) : ∀ (l pre : List Int) (c0 c1 : Int) (acc : List (List PV)), (pre ++ l).length ≤ 400 → acc.length = pre.length →
    lp E (denC E) 20 0 [] 0 { vals := [AV.int .i64 delay, AV.sl 1 (intsK .i64 (pre ++ l)), AV.int .i64 ((pre ++ l).length : Int), AV.int .i64 (pre.length : Int)], blks := [Blk.box [AV.int .i64 c0, AV.int .i64 c1], Blk.arr 1 acc] } =
      if (runL delay l pre.length c0 c1).2 = 0 then some (Ex.exit 0, { vals := [], blks := [Blk.arr 1 (acc ++ intsK .i64 (runL delay l pre.length c0 c1).1)] })
      else some (Ex.ret, { vals := [AV.sl 1 [], AV.int .i64 (runL delay l pre.length c0 c1).2], blks := [] })
  | [], pre, c0, c1, acc, hl, ha => by
    rw [r20_0, ctl_dec, if_neg (by simp)]
    simp [runL, intsK]
  | x :: l, pre, c0, c1, acc, hl, ha => by
    simp only [List.length_append, List.length_cons] at hl
    rw [r20_0, ctl_dec, if_pos (by simp; omega), getE_ints (by simp; omega)]
    have hx : (pre ++ x :: l).getD ((pre.length : Int)).toNat 0 = x := by simp [List.getD]
    rw [hx]
    simp only [bnd_some, ctl_true, ctl_false, ctl_and, ctl_or', ctl_or2, x_toPV, x_toCs, x_toCs2, x_toEs, x_bEs, x_bCs, x_aPV, x_aCs, x_int, x_bool, x_str, x_es, x_esn, nth_0, nth_1, nth_2, nth_3, nth_4, nth_5, nth_6, nth_7, nth_8, nth_9, y_nil, y_int, y_bool, y_str, y_sl, y_nils, y_agg, y_ownp, y_own, z_nil, z_int, z_bool, z_str, z_sl, z_nils, b_nil, b_arr, b_box1, b_box2, b_box3, b_box4, List.map_cons, List.map_nil, Bool.and_self, Bool.and_true, Bool.true_and, Bool.not_true, Bool.not_false, Bool.or_false, Bool.false_or, cond_true, cond_false, okPack, okPut, okPutBlks, okPutCells, q_isP, q_isAg, q_isBox, q_isArr, q_int, q_bool, q_str, q_sl, q_nils, e_exit, e_ret, e_nrm, e_ret_exit, e_exit_ret, e_nrm_exit, e_nrm_ret, e_exit_nrm, e_ret_nrm, Nat.zero_add, Nat.reduceAdd, c_Next]
    by_cases h : (nextF c0 c1 pre.length x delay).2.2 = 0
    · have hroom : (leN ((acc.length + 1) * 8) 140737488355328) = true := by simp; omega
      have hz : ((nextF c0 c1 pre.length x delay).2.2 != 0) = false := by simp [h]
      rw [hz, ctl_false, hroom, ctl_true, w64 (by omega)]
      have ih := run_loop delay l (pre ++ [x]) (nextF c0 c1 pre.length x delay).1 (nextF c0 c1 pre.length x delay).2.1 (acc ++ [[PV.int .i64 (nextF c0 c1 pre.length x delay).1]]) (by simp; omega) (by simp [ha])
      simp only [List.append_assoc, List.cons_append, List.nil_append, List.length_append, List.length_cons, List.length_nil] at ih
      simp only [List.length_append, List.length_cons]
      have e1 : ((pre.length : Int) + 1) = ((pre.length + (0 + 1) : Nat) : Int) := by omega
      rw [e1, ih]
      have e2 : ((pre.length + (0 + 1) : Nat) : Int) = (pre.length : Int) + 1 := by omega
      simp only [runL, if_pos h, e2]
      split
      · simp [intsK]
      · rfl
    · have hz : ((nextF c0 c1 pre.length x delay).2.2 != 0) = true := by simp [h]
      rw [hz, ctl_true]
      simp only [runL, if_neg h]

def runR (L : List Int) (delay : Int) : List Int × Int := runL delay L 0 1 (-1)
theorem c_Run {L : List Int} (delay : Int) (hL : L.length ≤ 400) : denC E 20 [AV.sl 1 (intsK .i64 L), AV.int .i64 delay] [] =
    some ([RV.p (PV.sl 1 (if (runR L delay).2 = 0 then intsK .i64 (runR L delay).1 else [])), RV.p (PV.int .i64 (runR L delay).2)], []) := by
  rw [denC_eq, r20, intsK_length, ctl_dec, if_neg (by omega)]
  have h := run_loop delay L [] 1 (-1) [] (by simpa using hL) rfl
  simp only [List.nil_append, List.length_nil] at h
  have e0 : (((0 : Nat)) : Int) = 0 := rfl
  rw [e0] at h
  rw [h]
  unfold runR
  by_cases hz : (runL delay L 0 1 (-1)).2 = 0
  · rw [if_pos hz, if_pos hz]
    simp only [bnd_some, ctl_true, ctl_false, ctl_and, ctl_or', ctl_or2, x_toPV, x_toCs, x_toCs2, x_toEs, x_bEs, x_bCs, x_aPV, x_aCs, x_int, x_bool, x_str, x_es, x_esn, nth_0, nth_1, nth_2, nth_3, nth_4, nth_5, nth_6, nth_7, nth_8, nth_9, y_nil, y_int, y_bool, y_str, y_sl, y_nils, y_agg, y_ownp, y_own, z_nil, z_int, z_bool, z_str, z_sl, z_nils, b_nil, b_arr, b_box1, b_box2, b_box3, b_box4, List.map_cons, List.map_nil, Bool.and_self, Bool.and_true, Bool.true_and, Bool.not_true, Bool.not_false, Bool.or_false, Bool.false_or, cond_true, cond_false, okPack, okPut, okPutBlks, okPutCells, q_isP, q_isAg, q_isBox, q_isArr, q_int, q_bool, q_str, q_sl, q_nils, e_exit, e_ret, e_nrm, e_ret_exit, e_exit_ret, e_nrm_exit, e_nrm_ret, e_exit_nrm, e_ret_nrm, Nat.zero_add, Nat.reduceAdd]
    rw [hz]
  · rw [if_neg hz, if_neg hz]
    simp only [bnd_some, ctl_true, ctl_false, ctl_and, ctl_or', ctl_or2, x_toPV, x_toCs, x_toCs2, x_toEs, x_bEs, x_bCs, x_aPV, x_aCs, x_int, x_bool, x_str, x_es, x_esn, nth_0, nth_1, nth_2, nth_3, nth_4, nth_5, nth_6, nth_7, nth_8, nth_9, y_nil, y_int, y_bool, y_str, y_sl, y_nils, y_agg, y_ownp, y_own, z_nil, z_int, z_bool, z_str, z_sl, z_nils, b_nil, b_arr, b_box1, b_box2, b_box3, b_box4, List.map_cons, List.map_nil, Bool.and_self, Bool.and_true, Bool.true_and, Bool.not_true, Bool.not_false, Bool.or_false, Bool.false_or, cond_true, cond_false, okPack, okPut, okPutBlks, okPutCells, q_isP, q_isAg, q_isBox, q_isArr, q_int, q_bool, q_str, q_sl, q_nils, e_exit, e_ret, e_nrm, e_ret_exit, e_exit_ret, e_nrm_exit, e_nrm_ret, e_exit_nrm, e_ret_nrm, Nat.zero_add, Nat.reduceAdd]

end Go.Proofs.Ytiagcaefhjibjaa.Vm
