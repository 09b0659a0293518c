/- Contracts of the functions that say which forces a thruster may give. -/
import Derived.Test.YtphcfpphnmpcbaaSectorM
namespace Go.Proofs.Ytphcfpphnmpcbaa.Vm
set_option linter.unusedVariables false
set_option linter.unusedSimpArgs false

theorem getE_midG {α β : Type} (f : β → List PV) (p : List β) (s : β) (l : List β) (K : List PV → Option α) : getE ((p ++ s :: l).map f) (p.length : Int) K = K (f s) := by
  unfold getE
  rw [List.length_map]
  have h1 : leB 0 (p.length : Int) = true := by simp
  have h2 : ltB (p.length : Int) ((p ++ s :: l).length : Int) = true := by simp; omega
  rw [h1, h2]
  simp only [Bool.and_self, ctl_true, Int.toNat_natCast]
  rw [nth_eq]
  simp [List.getD]
theorem getE_arc {α : Type} (p : List (Int × Int)) (s : Int × Int) (l : List (Int × Int)) (K : List PV → Option α) : getE (arcK (p ++ s :: l)) (p.length : Int) K = K (arcC s) := getE_midG arcC p s l K

theorem c_in (n lo hi : Int) : denC E 27 [AV.int .i64 n, AV.int .i64 lo, AV.int .i64 hi] [] = some ([RV.p (PV.bool (leB lo n && leB n hi))], []) := by
  rw [denC_eq, r27]
  simp only [bnd_some, ctl_true, ctl_false, ctl_and, ctl_or', ctl_or2, x_toPV, x_toCs, x_toCs2, x_toEs, x_bEs, x_bCs, x_aPV, x_aCs, x_int, x_bool, x_str, x_es, x_esn, nth_0, nth_1, nth_2, nth_3, nth_4, nth_5, nth_6, nth_7, nth_8, nth_9, y_nil, y_int, y_bool, y_str, y_sl, y_nils, y_agg, y_ownp, y_own, z_nil, z_int, z_bool, z_str, z_sl, z_nils, b_nil, b_arr, b_box1, b_box2, b_box3, b_box4, List.map_cons, List.map_nil, Bool.and_self, Bool.and_true, Bool.true_and, Bool.not_true, Bool.not_false, Bool.or_false, Bool.false_or, cond_true, cond_false, okPack, okPut, okPutBlks, okPutCells, q_isP, q_isAg, q_isBox, q_isArr, q_int, q_bool, q_str, q_sl, q_nils, e_exit, e_ret, e_nrm, e_ret_exit, e_exit_ret, e_nrm_exit, e_nrm_ret, e_exit_nrm, e_ret_nrm, Nat.zero_add, Nat.reduceAdd, noslR, noslP, noslB, noslA, List.all_cons, List.all_nil]

theorem c_TV1 (a : Int × Int) : denC E 29 [AV.agg [PV.int .i64 a.1, PV.int .i64 a.2]] [] = some ([RV.p (PV.bool (!Valid a.1 a.2))], []) := by
  rw [denC_eq, r29, c_Valid]
  simp only [bnd_some, ctl_true, ctl_false, ctl_and, ctl_or', ctl_or2, x_toPV, x_toCs, x_toCs2, x_toEs, x_bEs, x_bCs, x_aPV, x_aCs, x_int, x_bool, x_str, x_es, x_esn, nth_0, nth_1, nth_2, nth_3, nth_4, nth_5, nth_6, nth_7, nth_8, nth_9, y_nil, y_int, y_bool, y_str, y_sl, y_nils, y_agg, y_ownp, y_own, z_nil, z_int, z_bool, z_str, z_sl, z_nils, b_nil, b_arr, b_box1, b_box2, b_box3, b_box4, List.map_cons, List.map_nil, Bool.and_self, Bool.and_true, Bool.true_and, Bool.not_true, Bool.not_false, Bool.or_false, Bool.false_or, cond_true, cond_false, okPack, okPut, okPutBlks, okPutCells, q_isP, q_isAg, q_isBox, q_isArr, q_int, q_bool, q_str, q_sl, q_nils, e_exit, e_ret, e_nrm, e_ret_exit, e_exit_ret, e_nrm_exit, e_nrm_ret, e_exit_nrm, e_ret_nrm, Nat.zero_add, Nat.reduceAdd, noslR, noslP, noslB, noslA, List.all_cons, List.all_nil]

/-- The place of the first bad element, behind k others. -/
def ixB (p : Int × Int → Bool) : List (Int × Int) → Nat → Option Nat
  | [], _ => none
  | a :: l, k => if p a = true then some k else ixB p l (k + 1)
theorem ixB_cons (p : Int × Int → Bool) (a : Int × Int) (l : List (Int × Int)) (k : Nat) : ixB p (a :: l) k = if p a = true then some k else ixB p l (k + 1) := rfl
theorem ixB_none {p : Int × Int → Bool} : ∀ {l : List (Int × Int)} {k : Nat}, ixB p l k = none ↔ l.all (fun a => !p a) = true
  | [], k => by simp [ixB]
  | a :: l, k => by
    unfold ixB
    cases h : p a with
    | true => simp [h]
    | false =>
      simp only [Bool.false_eq_true, if_false, List.all_cons, h, Bool.not_false, Bool.true_and]
      exact ixB_none

def ixR (p : Int × Int → Bool) (l : List (Int × Int)) : Int := match ixB p l 0 with | some j => j | none => -1
theorem ixR_le (p : Int × Int → Bool) (l : List (Int × Int)) : leB 0 (ixR p l) = !l.all (fun a => !p a) := by
  unfold ixR
  cases h : ixB p l 0 with
  | none =>
    rw [ixB_none.1 h]
    rfl
  | some j =>
    have : l.all (fun a => !p a) = false := by
      cases h2 : l.all (fun a => !p a) with
      | false => rfl
      | true => rw [ixB_none.2 h2] at h; cases h
    rw [this]
    simp

theorem ix34_loop : ∀ (l p : List (Int × Int)), (p ++ l).length ≤ maxLen →
    lp E (denC E) 36 0 [AV.undef, AV.fn 29 []] 0 { vals := [AV.sl 2 (arcK (p ++ l)), AV.int .i64 ((p ++ l).length : Int), AV.int .i64 (p.length : Int)], blks := [] } =
      (match ixB (fun a => !Valid a.1 a.2) l p.length with
       | some j => some (Ex.ret, { vals := [AV.int .i64 (j : Int)], blks := [] })
       | none => some (Ex.exit 0, { vals := [], blks := [] }))
  | [], p, h => by
    rw [r36_0a, ctl_dec, if_neg (by simp)]
    rfl
  | s :: l, p, h => by
    simp only [List.length_append, List.length_cons] at h
    have hm : maxLen ≤ 9223372036854775807 := by decide
    rw [r36_0a, ctl_dec, if_pos (by simp; omega), getE_arc]
    have ih := ix34_loop l (p ++ [s]) (by simp; omega)
    simp only [List.append_assoc, List.cons_append, List.nil_append, List.length_append, List.length_cons, List.length_nil] at ih
    simp only [List.length_append, List.length_cons, arcC, bnd_some, ctl_true, ctl_false, ctl_and, ctl_or', ctl_or2, x_toPV, x_toCs, x_toCs2, x_toEs, x_bEs, x_bCs, x_aPV, x_aCs, x_int, x_bool, x_str, x_es, x_esn, nth_0, nth_1, nth_2, nth_3, nth_4, nth_5, nth_6, nth_7, nth_8, nth_9, y_nil, y_int, y_bool, y_str, y_sl, y_nils, y_agg, y_ownp, y_own, z_nil, z_int, z_bool, z_str, z_sl, z_nils, b_nil, b_arr, b_box1, b_box2, b_box3, b_box4, List.map_cons, List.map_nil, Bool.and_self, Bool.and_true, Bool.true_and, Bool.not_true, Bool.not_false, Bool.or_false, Bool.false_or, cond_true, cond_false, okPack, okPut, okPutBlks, okPutCells, q_isP, q_isAg, q_isBox, q_isArr, q_int, q_bool, q_str, q_sl, q_nils, e_exit, e_ret, e_nrm, e_ret_exit, e_exit_ret, e_nrm_exit, e_nrm_ret, e_exit_nrm, e_ret_nrm, Nat.zero_add, Nat.reduceAdd, noslR, noslP, noslB, noslA, List.all_cons, List.all_nil, c_TV1]
    rw [w64 (n := (p.length : Int) + 1) (by omega)]
    have e1 : ((p.length : Int) + 1) = ((p.length + (0 + 1) : Nat) : Int) := by omega
    rw [e1, ih]
    rw [ixB_cons]
    cases hv : (!Valid s.1 s.2) with
    | true => simp only [ctl_true, if_true]
    | false => simp only [ctl_false, Bool.false_eq_true, if_false, Nat.zero_add]

theorem c_CF34 {l : List (Int × Int)} (h : l.length ≤ maxLen) : denC E 28 [AV.sl 2 (arcK l), AV.fn 29 []] [] = some ([RV.p (PV.bool (!okA' l))], []) := by
  have hix : denC E 36 [AV.sl 2 (arcK l), AV.fn 29 []] [] = some ([RV.p (PV.int .i64 (ixR (fun a => !Valid a.1 a.2) l))], []) := by
    rw [denC_eq, r36a, arcK_length]
    have hl := ix34_loop l [] (by simpa using h)
    simp only [List.nil_append, List.length_nil] at hl
    have e0 : (((0 : Nat)) : Int) = 0 := rfl
    rw [e0] at hl
    rw [hl]
    unfold ixR
    cases ixB (fun a => !Valid a.1 a.2) l 0 with
    | none => simp only [bnd_some, ctl_true, ctl_false, ctl_and, ctl_or', ctl_or2, x_toPV, x_toCs, x_toCs2, x_toEs, x_bEs, x_bCs, x_aPV, x_aCs, x_int, x_bool, x_str, x_es, x_esn, nth_0, nth_1, nth_2, nth_3, nth_4, nth_5, nth_6, nth_7, nth_8, nth_9, y_nil, y_int, y_bool, y_str, y_sl, y_nils, y_agg, y_ownp, y_own, z_nil, z_int, z_bool, z_str, z_sl, z_nils, b_nil, b_arr, b_box1, b_box2, b_box3, b_box4, List.map_cons, List.map_nil, Bool.and_self, Bool.and_true, Bool.true_and, Bool.not_true, Bool.not_false, Bool.or_false, Bool.false_or, cond_true, cond_false, okPack, okPut, okPutBlks, okPutCells, q_isP, q_isAg, q_isBox, q_isArr, q_int, q_bool, q_str, q_sl, q_nils, e_exit, e_ret, e_nrm, e_ret_exit, e_exit_ret, e_nrm_exit, e_nrm_ret, e_exit_nrm, e_ret_nrm, Nat.zero_add, Nat.reduceAdd, noslR, noslP, noslB, noslA, List.all_cons, List.all_nil]
    | some j => simp only [bnd_some, ctl_true, ctl_false, ctl_and, ctl_or', ctl_or2, x_toPV, x_toCs, x_toCs2, x_toEs, x_bEs, x_bCs, x_aPV, x_aCs, x_int, x_bool, x_str, x_es, x_esn, nth_0, nth_1, nth_2, nth_3, nth_4, nth_5, nth_6, nth_7, nth_8, nth_9, y_nil, y_int, y_bool, y_str, y_sl, y_nils, y_agg, y_ownp, y_own, z_nil, z_int, z_bool, z_str, z_sl, z_nils, b_nil, b_arr, b_box1, b_box2, b_box3, b_box4, List.map_cons, List.map_nil, Bool.and_self, Bool.and_true, Bool.true_and, Bool.not_true, Bool.not_false, Bool.or_false, Bool.false_or, cond_true, cond_false, okPack, okPut, okPutBlks, okPutCells, q_isP, q_isAg, q_isBox, q_isArr, q_int, q_bool, q_str, q_sl, q_nils, e_exit, e_ret, e_nrm, e_ret_exit, e_exit_ret, e_nrm_exit, e_nrm_ret, e_exit_nrm, e_ret_nrm, Nat.zero_add, Nat.reduceAdd, noslR, noslP, noslB, noslA, List.all_cons, List.all_nil]
  rw [denC_eq, r28a, hix]
  simp only [bnd_some, ctl_true, ctl_false, ctl_and, ctl_or', ctl_or2, x_toPV, x_toCs, x_toCs2, x_toEs, x_bEs, x_bCs, x_aPV, x_aCs, x_int, x_bool, x_str, x_es, x_esn, nth_0, nth_1, nth_2, nth_3, nth_4, nth_5, nth_6, nth_7, nth_8, nth_9, y_nil, y_int, y_bool, y_str, y_sl, y_nils, y_agg, y_ownp, y_own, z_nil, z_int, z_bool, z_str, z_sl, z_nils, b_nil, b_arr, b_box1, b_box2, b_box3, b_box4, List.map_cons, List.map_nil, Bool.and_self, Bool.and_true, Bool.true_and, Bool.not_true, Bool.not_false, Bool.or_false, Bool.false_or, cond_true, cond_false, okPack, okPut, okPutBlks, okPutCells, q_isP, q_isAg, q_isBox, q_isArr, q_int, q_bool, q_str, q_sl, q_nils, e_exit, e_ret, e_nrm, e_ret_exit, e_exit_ret, e_nrm_exit, e_nrm_ret, e_exit_nrm, e_ret_nrm, Nat.zero_add, Nat.reduceAdd, noslR, noslP, noslB, noslA, List.all_cons, List.all_nil, ixR_le]
  simp only [Bool.not_not]
  rfl

theorem okT_raw (t : Thr) : okT t = (leB 1 t.kd && leB t.kd 3 && (leB 0 t.st && leB t.st 1) && (leB 0 t.mx && leB t.mx 5000) && (leB 0 t.rt && leB t.rt 5000) && (leB 1 t.ct && leB t.ct 100) && leB (t.fb.length : Int) 4 && okA' t.fb) := by
  unfold okT
  congr 1
  rw [Bool.eq_iff_iff, okT0_iff]
  simp only [Bool.and_eq_true, decide_eq_true_eq]
  omega

theorem c_TValid {t : Thr} (h : t.fb.length ≤ maxLen) : denC E 23 [AV.agg (thC t)] [] = some ([RV.p (PV.bool (okT t))], []) := by
  unfold thC
  rw [denC_eq, r23]
  simp only [c_in, c_CF34 h, arcK_length, bnd_some, ctl_true, ctl_false, ctl_and, ctl_or', ctl_or2, x_toPV, x_toCs, x_toCs2, x_toEs, x_bEs, x_bCs, x_aPV, x_aCs, x_int, x_bool, x_str, x_es, x_esn, nth_0, nth_1, nth_2, nth_3, nth_4, nth_5, nth_6, nth_7, nth_8, nth_9, y_nil, y_int, y_bool, y_str, y_sl, y_nils, y_agg, y_ownp, y_own, z_nil, z_int, z_bool, z_str, z_sl, z_nils, b_nil, b_arr, b_box1, b_box2, b_box3, b_box4, List.map_cons, List.map_nil, Bool.and_self, Bool.and_true, Bool.true_and, Bool.not_true, Bool.not_false, Bool.or_false, Bool.false_or, cond_true, cond_false, okPack, okPut, okPutBlks, okPutCells, q_isP, q_isAg, q_isBox, q_isArr, q_int, q_bool, q_str, q_sl, q_nils, e_exit, e_ret, e_nrm, e_ret_exit, e_exit_ret, e_nrm_exit, e_nrm_ret, e_exit_nrm, e_ret_nrm, Nat.zero_add, Nat.reduceAdd, noslR, noslP, noslB, noslA, List.all_cons, List.all_nil]
  rw [okT_raw]
  simp only [ctl_and, bnd_some, Bool.not_not]
  cases (leB 1 t.kd && leB t.kd 3) <;> simp only [bnd_some, ctl_true, ctl_false, ctl_and, ctl_or', ctl_or2, x_toPV, x_toCs, x_toCs2, x_toEs, x_bEs, x_bCs, x_aPV, x_aCs, x_int, x_bool, x_str, x_es, x_esn, nth_0, nth_1, nth_2, nth_3, nth_4, nth_5, nth_6, nth_7, nth_8, nth_9, y_nil, y_int, y_bool, y_str, y_sl, y_nils, y_agg, y_ownp, y_own, z_nil, z_int, z_bool, z_str, z_sl, z_nils, b_nil, b_arr, b_box1, b_box2, b_box3, b_box4, List.map_cons, List.map_nil, Bool.and_self, Bool.and_true, Bool.true_and, Bool.not_true, Bool.not_false, Bool.or_false, Bool.false_or, cond_true, cond_false, okPack, okPut, okPutBlks, okPutCells, q_isP, q_isAg, q_isBox, q_isArr, q_int, q_bool, q_str, q_sl, q_nils, e_exit, e_ret, e_nrm, e_ret_exit, e_exit_ret, e_nrm_exit, e_nrm_ret, e_exit_nrm, e_ret_nrm, Nat.zero_add, Nat.reduceAdd, noslR, noslP, noslB, noslA, List.all_cons, List.all_nil, Bool.false_and]
  cases (leB 0 t.st && leB t.st 1) <;> simp only [bnd_some, ctl_true, ctl_false, ctl_and, ctl_or', ctl_or2, x_toPV, x_toCs, x_toCs2, x_toEs, x_bEs, x_bCs, x_aPV, x_aCs, x_int, x_bool, x_str, x_es, x_esn, nth_0, nth_1, nth_2, nth_3, nth_4, nth_5, nth_6, nth_7, nth_8, nth_9, y_nil, y_int, y_bool, y_str, y_sl, y_nils, y_agg, y_ownp, y_own, z_nil, z_int, z_bool, z_str, z_sl, z_nils, b_nil, b_arr, b_box1, b_box2, b_box3, b_box4, List.map_cons, List.map_nil, Bool.and_self, Bool.and_true, Bool.true_and, Bool.not_true, Bool.not_false, Bool.or_false, Bool.false_or, cond_true, cond_false, okPack, okPut, okPutBlks, okPutCells, q_isP, q_isAg, q_isBox, q_isArr, q_int, q_bool, q_str, q_sl, q_nils, e_exit, e_ret, e_nrm, e_ret_exit, e_exit_ret, e_nrm_exit, e_nrm_ret, e_exit_nrm, e_ret_nrm, Nat.zero_add, Nat.reduceAdd, noslR, noslP, noslB, noslA, List.all_cons, List.all_nil, Bool.false_and]
  cases (leB 0 t.mx && leB t.mx 5000) <;> simp only [bnd_some, ctl_true, ctl_false, ctl_and, ctl_or', ctl_or2, x_toPV, x_toCs, x_toCs2, x_toEs, x_bEs, x_bCs, x_aPV, x_aCs, x_int, x_bool, x_str, x_es, x_esn, nth_0, nth_1, nth_2, nth_3, nth_4, nth_5, nth_6, nth_7, nth_8, nth_9, y_nil, y_int, y_bool, y_str, y_sl, y_nils, y_agg, y_ownp, y_own, z_nil, z_int, z_bool, z_str, z_sl, z_nils, b_nil, b_arr, b_box1, b_box2, b_box3, b_box4, List.map_cons, List.map_nil, Bool.and_self, Bool.and_true, Bool.true_and, Bool.not_true, Bool.not_false, Bool.or_false, Bool.false_or, cond_true, cond_false, okPack, okPut, okPutBlks, okPutCells, q_isP, q_isAg, q_isBox, q_isArr, q_int, q_bool, q_str, q_sl, q_nils, e_exit, e_ret, e_nrm, e_ret_exit, e_exit_ret, e_nrm_exit, e_nrm_ret, e_exit_nrm, e_ret_nrm, Nat.zero_add, Nat.reduceAdd, noslR, noslP, noslB, noslA, List.all_cons, List.all_nil, Bool.false_and]
  cases (leB 0 t.rt && leB t.rt 5000) <;> simp only [bnd_some, ctl_true, ctl_false, ctl_and, ctl_or', ctl_or2, x_toPV, x_toCs, x_toCs2, x_toEs, x_bEs, x_bCs, x_aPV, x_aCs, x_int, x_bool, x_str, x_es, x_esn, nth_0, nth_1, nth_2, nth_3, nth_4, nth_5, nth_6, nth_7, nth_8, nth_9, y_nil, y_int, y_bool, y_str, y_sl, y_nils, y_agg, y_ownp, y_own, z_nil, z_int, z_bool, z_str, z_sl, z_nils, b_nil, b_arr, b_box1, b_box2, b_box3, b_box4, List.map_cons, List.map_nil, Bool.and_self, Bool.and_true, Bool.true_and, Bool.not_true, Bool.not_false, Bool.or_false, Bool.false_or, cond_true, cond_false, okPack, okPut, okPutBlks, okPutCells, q_isP, q_isAg, q_isBox, q_isArr, q_int, q_bool, q_str, q_sl, q_nils, e_exit, e_ret, e_nrm, e_ret_exit, e_exit_ret, e_nrm_exit, e_nrm_ret, e_exit_nrm, e_ret_nrm, Nat.zero_add, Nat.reduceAdd, noslR, noslP, noslB, noslA, List.all_cons, List.all_nil, Bool.false_and]
  cases (leB 1 t.ct && leB t.ct 100) <;> simp only [bnd_some, ctl_true, ctl_false, ctl_and, ctl_or', ctl_or2, x_toPV, x_toCs, x_toCs2, x_toEs, x_bEs, x_bCs, x_aPV, x_aCs, x_int, x_bool, x_str, x_es, x_esn, nth_0, nth_1, nth_2, nth_3, nth_4, nth_5, nth_6, nth_7, nth_8, nth_9, y_nil, y_int, y_bool, y_str, y_sl, y_nils, y_agg, y_ownp, y_own, z_nil, z_int, z_bool, z_str, z_sl, z_nils, b_nil, b_arr, b_box1, b_box2, b_box3, b_box4, List.map_cons, List.map_nil, Bool.and_self, Bool.and_true, Bool.true_and, Bool.not_true, Bool.not_false, Bool.or_false, Bool.false_or, cond_true, cond_false, okPack, okPut, okPutBlks, okPutCells, q_isP, q_isAg, q_isBox, q_isArr, q_int, q_bool, q_str, q_sl, q_nils, e_exit, e_ret, e_nrm, e_ret_exit, e_exit_ret, e_nrm_exit, e_nrm_ret, e_exit_nrm, e_ret_nrm, Nat.zero_add, Nat.reduceAdd, noslR, noslP, noslB, noslA, List.all_cons, List.all_nil, Bool.false_and]
  cases (leB (t.fb.length : Int) 4) <;> simp only [bnd_some, ctl_true, ctl_false, ctl_and, ctl_or', ctl_or2, x_toPV, x_toCs, x_toCs2, x_toEs, x_bEs, x_bCs, x_aPV, x_aCs, x_int, x_bool, x_str, x_es, x_esn, nth_0, nth_1, nth_2, nth_3, nth_4, nth_5, nth_6, nth_7, nth_8, nth_9, y_nil, y_int, y_bool, y_str, y_sl, y_nils, y_agg, y_ownp, y_own, z_nil, z_int, z_bool, z_str, z_sl, z_nils, b_nil, b_arr, b_box1, b_box2, b_box3, b_box4, List.map_cons, List.map_nil, Bool.and_self, Bool.and_true, Bool.true_and, Bool.not_true, Bool.not_false, Bool.or_false, Bool.false_or, cond_true, cond_false, okPack, okPut, okPutBlks, okPutCells, q_isP, q_isAg, q_isBox, q_isArr, q_int, q_bool, q_str, q_sl, q_nils, e_exit, e_ret, e_nrm, e_ret_exit, e_exit_ret, e_nrm_exit, e_nrm_ret, e_exit_nrm, e_ret_nrm, Nat.zero_add, Nat.reduceAdd, noslR, noslP, noslB, noslA, List.all_cons, List.all_nil, Bool.false_and]

theorem sq_le {a m : Int} (h : -m ≤ a ∧ a ≤ m) : 0 ≤ a * a ∧ a * a ≤ m * m := by
  have h1 := mul_le (a := a) (b := a) (m := m) (n := m) h h
  have h2 := Int.mul_self_nonneg a
  omega
where
  Int.mul_self_nonneg (a : Int) : 0 ≤ a * a := by
    rcases Int.le_total 0 a with h | h
    · exact Int.mul_nonneg h h
    · exact Int.mul_nonneg_of_nonpos_of_nonpos h h

/-! ### Runs -/
abbrev thB (t : Thr) : Blk := Blk.box [AV.int .i64 t.kd, AV.int .i64 t.st, AV.int .i64 t.mx, AV.int .i64 t.rt, AV.int .i64 t.ct, AV.sl 2 (arcK t.fb)]

/-- The run of a property whose numbers are bounded. -/
theorem run_ex {p : Int → Bool} (h0 : p 0 = true) (hb : ∀ n, p n = true → -5000 ≤ n ∧ n ≤ 5000) :
    ∃ i j : Nat, i ≤ 5000 ∧ j ≤ 5000 ∧ IsRun p (0 - i) (0 + j) ∧ p (0 - i - 1) = false ∧ (∀ k : Nat, k < i → p (0 - k - 1) = true) ∧ p (0 + j + 1) = false ∧ (∀ k : Nat, k < j → p (0 + k + 1) = true) := by
  obtain ⟨i, h1, h2⟩ := run_down p 5000 (fun n hn => (hb n hn).1) 5000 0 (by omega)
  obtain ⟨j, h3, h4⟩ := run_up p 5000 (fun n hn => (hb n hn).2) 5000 0 (by omega)
  have hr := IsRun_of h0 h1 h2 h3 h4
  have hi := hb _ (hr.2.2.1 (-i) (by omega) (by omega))
  have hj := hb _ (hr.2.2.1 j (by omega) (by omega))
  refine ⟨i, j, by omega, by omega, ?_, h1, h2, h3, h4⟩
  have e1 : (0 : Int) - i = -i := by omega
  have e2 : (0 : Int) + j = j := by omega
  rw [e1, e2]; exact hr

end Go.Proofs.Ytphcfpphnmpcbaa.Vm
