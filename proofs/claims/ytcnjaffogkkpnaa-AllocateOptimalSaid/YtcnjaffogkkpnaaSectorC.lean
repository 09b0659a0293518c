/- Contracts of the functions that say which forces a thruster may give. -/
import Derived.Test.YtcnjaffogkkpnaaSectorM
namespace Go.Proofs.Ytcnjaffogkkpnaa.Vm
set_option linter.unusedVariables false
set_option linter.unusedSimpArgs false

theorem getE_midG {α β : Type} (f : β → List PV) (p : List β) (s : β) (l : List β) (K : List PV → Option α) : getE ((p ++ s :: l).map f) (p.length : Int) K = K (f s) := by
  unfold getE
  rw [List.length_map]
  have h1 : leB 0 (p.length : Int) = true := by simp
  have h2 : ltB (p.length : Int) ((p ++ s :: l).length : Int) = true := by simp; omega
  rw [h1, h2]
  simp only [Bool.and_self, ctl_true, Int.toNat_natCast]
  rw [nth_eq]
  simp [List.getD]
theorem getE_arc {α : Type} (p : List (Int × Int)) (s : Int × Int) (l : List (Int × Int)) (K : List PV → Option α) : getE (arcK (p ++ s :: l)) (p.length : Int) K = K (arcC s) := getE_midG arcC p s l K

theorem c_in (n lo hi : Int) : denC E 86 [AV.int .i64 n, AV.int .i64 lo, AV.int .i64 hi] [] = some ([RV.p (PV.bool (leB lo n && leB n hi))], []) := by
  rw [denC_eq, r86]
  simp only [bnd_some, ctl_true, ctl_false, ctl_and, ctl_or', ctl_or2, x_toPV, x_toCs, x_toCs2, x_toEs, x_bEs, x_bCs, x_aPV, x_aCs, x_int, x_bool, x_str, x_es, x_esn, nth_0, nth_1, nth_2, nth_3, nth_4, nth_5, nth_6, nth_7, nth_8, nth_9, y_nil, y_int, y_bool, y_str, y_sl, y_nils, y_agg, y_ownp, y_own, z_nil, z_int, z_bool, z_str, z_sl, z_nils, b_nil, b_arr, b_box1, b_box2, b_box3, b_box4, List.map_cons, List.map_nil, Bool.and_self, Bool.and_true, Bool.true_and, Bool.not_true, Bool.not_false, Bool.or_false, Bool.false_or, cond_true, cond_false, okPack, okPut, okPutBlks, okPutCells, q_isP, q_isAg, q_isBox, q_isArr, q_int, q_bool, q_str, q_sl, q_nils, e_exit, e_ret, e_nrm, e_ret_exit, e_exit_ret, e_nrm_exit, e_nrm_ret, e_exit_nrm, e_ret_nrm, Nat.zero_add, Nat.reduceAdd, noslR, noslP, noslB, noslA, List.all_cons, List.all_nil]

theorem c_TV1 (a : Int × Int) : denC E 88 [AV.agg [PV.int .i64 a.1, PV.int .i64 a.2]] [] = some ([RV.p (PV.bool (!Valid a.1 a.2))], []) := by
  rw [denC_eq, r88, c_Valid]
  simp only [bnd_some, ctl_true, ctl_false, ctl_and, ctl_or', ctl_or2, x_toPV, x_toCs, x_toCs2, x_toEs, x_bEs, x_bCs, x_aPV, x_aCs, x_int, x_bool, x_str, x_es, x_esn, nth_0, nth_1, nth_2, nth_3, nth_4, nth_5, nth_6, nth_7, nth_8, nth_9, y_nil, y_int, y_bool, y_str, y_sl, y_nils, y_agg, y_ownp, y_own, z_nil, z_int, z_bool, z_str, z_sl, z_nils, b_nil, b_arr, b_box1, b_box2, b_box3, b_box4, List.map_cons, List.map_nil, Bool.and_self, Bool.and_true, Bool.true_and, Bool.not_true, Bool.not_false, Bool.or_false, Bool.false_or, cond_true, cond_false, okPack, okPut, okPutBlks, okPutCells, q_isP, q_isAg, q_isBox, q_isArr, q_int, q_bool, q_str, q_sl, q_nils, e_exit, e_ret, e_nrm, e_ret_exit, e_exit_ret, e_nrm_exit, e_nrm_ret, e_exit_nrm, e_ret_nrm, Nat.zero_add, Nat.reduceAdd, noslR, noslP, noslB, noslA, List.all_cons, List.all_nil]

/-- The place of the first bad element, behind k others. -/
def ixB (p : Int × Int → Bool) : List (Int × Int) → Nat → Option Nat
  | [], _ => none
  | a :: l, k => if p a = true then some k else ixB p l (k + 1)
theorem ixB_cons (p : Int × Int → Bool) (a : Int × Int) (l : List (Int × Int)) (k : Nat) : ixB p (a :: l) k = if p a = true then some k else ixB p l (k + 1) := rfl
theorem ixB_none {p : Int × Int → Bool} : ∀ {l : List (Int × Int)} {k : Nat}, ixB p l k = none ↔ l.all (fun a => !p a) = true
  | [], k => by simp [ixB]
  | a :: l, k => by
    unfold ixB
    cases h : p a with
    | true => simp [h]
    | false =>
      simp only [Bool.false_eq_true, if_false, List.all_cons, h, Bool.not_false, Bool.true_and]
      exact ixB_none

def ixR (p : Int × Int → Bool) (l : List (Int × Int)) : Int := match ixB p l 0 with | some j => j | none => -1
theorem ixR_le (p : Int × Int → Bool) (l : List (Int × Int)) : leB 0 (ixR p l) = !l.all (fun a => !p a) := by
  unfold ixR
  cases h : ixB p l 0 with
  | none =>
    rw [ixB_none.1 h]
    rfl
  | some j =>
    have : l.all (fun a => !p a) = false := by
      cases h2 : l.all (fun a => !p a) with
      | false => rfl
      | true => rw [ixB_none.2 h2] at h; cases h
    rw [this]
    simp

theorem ix34_loop : ∀ (l p : List (Int × Int)), (p ++ l).length ≤ maxLen →
    lp E (denC E) 98 0 [AV.undef, AV.fn 88 []] 0 { vals := [AV.sl 2 (arcK (p ++ l)), AV.int .i64 ((p ++ l).length : Int), AV.int .i64 (p.length : Int)], blks := [] } =
      (match ixB (fun a => !Valid a.1 a.2) l p.length with
       | some j => some (Ex.ret, { vals := [AV.int .i64 (j : Int)], blks := [] })
       | none => some (Ex.exit 0, { vals := [], blks := [] }))
  | [], p, h => by
    rw [r98_0a, ctl_dec, if_neg (by simp)]
    rfl
  | s :: l, p, h => by
    simp only [List.length_append, List.length_cons] at h
    have hm : maxLen ≤ 9223372036854775807 := by decide
    rw [r98_0a, ctl_dec, if_pos (by simp; omega), getE_arc]
    have ih := ix34_loop l (p ++ [s]) (by simp; omega)
    simp only [List.append_assoc, List.cons_append, List.nil_append, List.length_append, List.length_cons, List.length_nil] at ih
    simp only [List.length_append, List.length_cons, arcC, bnd_some, ctl_true, ctl_false, ctl_and, ctl_or', ctl_or2, x_toPV, x_toCs, x_toCs2, x_toEs, x_bEs, x_bCs, x_aPV, x_aCs, x_int, x_bool, x_str, x_es, x_esn, nth_0, nth_1, nth_2, nth_3, nth_4, nth_5, nth_6, nth_7, nth_8, nth_9, y_nil, y_int, y_bool, y_str, y_sl, y_nils, y_agg, y_ownp, y_own, z_nil, z_int, z_bool, z_str, z_sl, z_nils, b_nil, b_arr, b_box1, b_box2, b_box3, b_box4, List.map_cons, List.map_nil, Bool.and_self, Bool.and_true, Bool.true_and, Bool.not_true, Bool.not_false, Bool.or_false, Bool.false_or, cond_true, cond_false, okPack, okPut, okPutBlks, okPutCells, q_isP, q_isAg, q_isBox, q_isArr, q_int, q_bool, q_str, q_sl, q_nils, e_exit, e_ret, e_nrm, e_ret_exit, e_exit_ret, e_nrm_exit, e_nrm_ret, e_exit_nrm, e_ret_nrm, Nat.zero_add, Nat.reduceAdd, noslR, noslP, noslB, noslA, List.all_cons, List.all_nil, c_TV1]
    rw [w64 (n := (p.length : Int) + 1) (by omega)]
    have e1 : ((p.length : Int) + 1) = ((p.length + (0 + 1) : Nat) : Int) := by omega
    rw [e1, ih]
    rw [ixB_cons]
    cases hv : (!Valid s.1 s.2) with
    | true => simp only [ctl_true, if_true]
    | false => simp only [ctl_false, Bool.false_eq_true, if_false, Nat.zero_add]

theorem c_CF34 {l : List (Int × Int)} (h : l.length ≤ maxLen) : denC E 87 [AV.sl 2 (arcK l), AV.fn 88 []] [] = some ([RV.p (PV.bool (!okA' l))], []) := by
  have hix : denC E 98 [AV.sl 2 (arcK l), AV.fn 88 []] [] = some ([RV.p (PV.int .i64 (ixR (fun a => !Valid a.1 a.2) l))], []) := by
    rw [denC_eq, r98a, arcK_length]
    have hl := ix34_loop l [] (by simpa using h)
    simp only [List.nil_append, List.length_nil] at hl
    have e0 : (((0 : Nat)) : Int) = 0 := rfl
    rw [e0] at hl
    rw [hl]
    unfold ixR
    cases ixB (fun a => !Valid a.1 a.2) l 0 with
    | none => simp only [bnd_some, ctl_true, ctl_false, ctl_and, ctl_or', ctl_or2, x_toPV, x_toCs, x_toCs2, x_toEs, x_bEs, x_bCs, x_aPV, x_aCs, x_int, x_bool, x_str, x_es, x_esn, nth_0, nth_1, nth_2, nth_3, nth_4, nth_5, nth_6, nth_7, nth_8, nth_9, y_nil, y_int, y_bool, y_str, y_sl, y_nils, y_agg, y_ownp, y_own, z_nil, z_int, z_bool, z_str, z_sl, z_nils, b_nil, b_arr, b_box1, b_box2, b_box3, b_box4, List.map_cons, List.map_nil, Bool.and_self, Bool.and_true, Bool.true_and, Bool.not_true, Bool.not_false, Bool.or_false, Bool.false_or, cond_true, cond_false, okPack, okPut, okPutBlks, okPutCells, q_isP, q_isAg, q_isBox, q_isArr, q_int, q_bool, q_str, q_sl, q_nils, e_exit, e_ret, e_nrm, e_ret_exit, e_exit_ret, e_nrm_exit, e_nrm_ret, e_exit_nrm, e_ret_nrm, Nat.zero_add, Nat.reduceAdd, noslR, noslP, noslB, noslA, List.all_cons, List.all_nil]
    | some j => simp only [bnd_some, ctl_true, ctl_false, ctl_and, ctl_or', ctl_or2, x_toPV, x_toCs, x_toCs2, x_toEs, x_bEs, x_bCs, x_aPV, x_aCs, x_int, x_bool, x_str, x_es, x_esn, nth_0, nth_1, nth_2, nth_3, nth_4, nth_5, nth_6, nth_7, nth_8, nth_9, y_nil, y_int, y_bool, y_str, y_sl, y_nils, y_agg, y_ownp, y_own, z_nil, z_int, z_bool, z_str, z_sl, z_nils, b_nil, b_arr, b_box1, b_box2, b_box3, b_box4, List.map_cons, List.map_nil, Bool.and_self, Bool.and_true, Bool.true_and, Bool.not_true, Bool.not_false, Bool.or_false, Bool.false_or, cond_true, cond_false, okPack, okPut, okPutBlks, okPutCells, q_isP, q_isAg, q_isBox, q_isArr, q_int, q_bool, q_str, q_sl, q_nils, e_exit, e_ret, e_nrm, e_ret_exit, e_exit_ret, e_nrm_exit, e_nrm_ret, e_exit_nrm, e_ret_nrm, Nat.zero_add, Nat.reduceAdd, noslR, noslP, noslB, noslA, List.all_cons, List.all_nil]
  rw [denC_eq, r87a, hix]
  simp only [bnd_some, ctl_true, ctl_false, ctl_and, ctl_or', ctl_or2, x_toPV, x_toCs, x_toCs2, x_toEs, x_bEs, x_bCs, x_aPV, x_aCs, x_int, x_bool, x_str, x_es, x_esn, nth_0, nth_1, nth_2, nth_3, nth_4, nth_5, nth_6, nth_7, nth_8, nth_9, y_nil, y_int, y_bool, y_str, y_sl, y_nils, y_agg, y_ownp, y_own, z_nil, z_int, z_bool, z_str, z_sl, z_nils, b_nil, b_arr, b_box1, b_box2, b_box3, b_box4, List.map_cons, List.map_nil, Bool.and_self, Bool.and_true, Bool.true_and, Bool.not_true, Bool.not_false, Bool.or_false, Bool.false_or, cond_true, cond_false, okPack, okPut, okPutBlks, okPutCells, q_isP, q_isAg, q_isBox, q_isArr, q_int, q_bool, q_str, q_sl, q_nils, e_exit, e_ret, e_nrm, e_ret_exit, e_exit_ret, e_nrm_exit, e_nrm_ret, e_exit_nrm, e_ret_nrm, Nat.zero_add, Nat.reduceAdd, noslR, noslP, noslB, noslA, List.all_cons, List.all_nil, ixR_le]
  simp only [Bool.not_not]
  rfl

theorem okT_raw (t : Thr) : okT t = (leB 1 t.kd && leB t.kd 3 && (leB 0 t.st && leB t.st 1) && (leB 0 t.mx && leB t.mx 5000) && (leB 0 t.rt && leB t.rt 5000) && (leB 1 t.ct && leB t.ct 100) && leB (t.fb.length : Int) 4 && okA' t.fb) := by
  unfold okT
  congr 1
  rw [Bool.eq_iff_iff, okT0_iff]
  simp only [Bool.and_eq_true, decide_eq_true_eq]
  omega

theorem c_TValid {t : Thr} (h : t.fb.length ≤ maxLen) : denC E 64 [AV.agg (thC t)] [] = some ([RV.p (PV.bool (okT t))], []) := by
  unfold thC
  rw [denC_eq, r64]
  simp only [c_in, c_CF34 h, arcK_length, bnd_some, ctl_true, ctl_false, ctl_and, ctl_or', ctl_or2, x_toPV, x_toCs, x_toCs2, x_toEs, x_bEs, x_bCs, x_aPV, x_aCs, x_int, x_bool, x_str, x_es, x_esn, nth_0, nth_1, nth_2, nth_3, nth_4, nth_5, nth_6, nth_7, nth_8, nth_9, y_nil, y_int, y_bool, y_str, y_sl, y_nils, y_agg, y_ownp, y_own, z_nil, z_int, z_bool, z_str, z_sl, z_nils, b_nil, b_arr, b_box1, b_box2, b_box3, b_box4, List.map_cons, List.map_nil, Bool.and_self, Bool.and_true, Bool.true_and, Bool.not_true, Bool.not_false, Bool.or_false, Bool.false_or, cond_true, cond_false, okPack, okPut, okPutBlks, okPutCells, q_isP, q_isAg, q_isBox, q_isArr, q_int, q_bool, q_str, q_sl, q_nils, e_exit, e_ret, e_nrm, e_ret_exit, e_exit_ret, e_nrm_exit, e_nrm_ret, e_exit_nrm, e_ret_nrm, Nat.zero_add, Nat.reduceAdd, noslR, noslP, noslB, noslA, List.all_cons, List.all_nil]
  rw [okT_raw]
  simp only [ctl_and, bnd_some, Bool.not_not]
  cases (leB 1 t.kd && leB t.kd 3) <;> simp only [bnd_some, ctl_true, ctl_false, ctl_and, ctl_or', ctl_or2, x_toPV, x_toCs, x_toCs2, x_toEs, x_bEs, x_bCs, x_aPV, x_aCs, x_int, x_bool, x_str, x_es, x_esn, nth_0, nth_1, nth_2, nth_3, nth_4, nth_5, nth_6, nth_7, nth_8, nth_9, y_nil, y_int, y_bool, y_str, y_sl, y_nils, y_agg, y_ownp, y_own, z_nil, z_int, z_bool, z_str, z_sl, z_nils, b_nil, b_arr, b_box1, b_box2, b_box3, b_box4, List.map_cons, List.map_nil, Bool.and_self, Bool.and_true, Bool.true_and, Bool.not_true, Bool.not_false, Bool.or_false, Bool.false_or, cond_true, cond_false, okPack, okPut, okPutBlks, okPutCells, q_isP, q_isAg, q_isBox, q_isArr, q_int, q_bool, q_str, q_sl, q_nils, e_exit, e_ret, e_nrm, e_ret_exit, e_exit_ret, e_nrm_exit, e_nrm_ret, e_exit_nrm, e_ret_nrm, Nat.zero_add, Nat.reduceAdd, noslR, noslP, noslB, noslA, List.all_cons, List.all_nil, Bool.false_and]
  cases (leB 0 t.st && leB t.st 1) <;> simp only [bnd_some, ctl_true, ctl_false, ctl_and, ctl_or', ctl_or2, x_toPV, x_toCs, x_toCs2, x_toEs, x_bEs, x_bCs, x_aPV, x_aCs, x_int, x_bool, x_str, x_es, x_esn, nth_0, nth_1, nth_2, nth_3, nth_4, nth_5, nth_6, nth_7, nth_8, nth_9, y_nil, y_int, y_bool, y_str, y_sl, y_nils, y_agg, y_ownp, y_own, z_nil, z_int, z_bool, z_str, z_sl, z_nils, b_nil, b_arr, b_box1, b_box2, b_box3, b_box4, List.map_cons, List.map_nil, Bool.and_self, Bool.and_true, Bool.true_and, Bool.not_true, Bool.not_false, Bool.or_false, Bool.false_or, cond_true, cond_false, okPack, okPut, okPutBlks, okPutCells, q_isP, q_isAg, q_isBox, q_isArr, q_int, q_bool, q_str, q_sl, q_nils, e_exit, e_ret, e_nrm, e_ret_exit, e_exit_ret, e_nrm_exit, e_nrm_ret, e_exit_nrm, e_ret_nrm, Nat.zero_add, Nat.reduceAdd, noslR, noslP, noslB, noslA, List.all_cons, List.all_nil, Bool.false_and]
  cases (leB 0 t.mx && leB t.mx 5000) <;> simp only [bnd_some, ctl_true, ctl_false, ctl_and, ctl_or', ctl_or2, x_toPV, x_toCs, x_toCs2, x_toEs, x_bEs, x_bCs, x_aPV, x_aCs, x_int, x_bool, x_str, x_es, x_esn, nth_0, nth_1, nth_2, nth_3, nth_4, nth_5, nth_6, nth_7, nth_8, nth_9, y_nil, y_int, y_bool, y_str, y_sl, y_nils, y_agg, y_ownp, y_own, z_nil, z_int, z_bool, z_str, z_sl, z_nils, b_nil, b_arr, b_box1, b_box2, b_box3, b_box4, List.map_cons, List.map_nil, Bool.and_self, Bool.and_true, Bool.true_and, Bool.not_true, Bool.not_false, Bool.or_false, Bool.false_or, cond_true, cond_false, okPack, okPut, okPutBlks, okPutCells, q_isP, q_isAg, q_isBox, q_isArr, q_int, q_bool, q_str, q_sl, q_nils, e_exit, e_ret, e_nrm, e_ret_exit, e_exit_ret, e_nrm_exit, e_nrm_ret, e_exit_nrm, e_ret_nrm, Nat.zero_add, Nat.reduceAdd, noslR, noslP, noslB, noslA, List.all_cons, List.all_nil, Bool.false_and]
  cases (leB 0 t.rt && leB t.rt 5000) <;> simp only [bnd_some, ctl_true, ctl_false, ctl_and, ctl_or', ctl_or2, x_toPV, x_toCs, x_toCs2, x_toEs, x_bEs, x_bCs, x_aPV, x_aCs, x_int, x_bool, x_str, x_es, x_esn, nth_0, nth_1, nth_2, nth_3, nth_4, nth_5, nth_6, nth_7, nth_8, nth_9, y_nil, y_int, y_bool, y_str, y_sl, y_nils, y_agg, y_ownp, y_own, z_nil, z_int, z_bool, z_str, z_sl, z_nils, b_nil, b_arr, b_box1, b_box2, b_box3, b_box4, List.map_cons, List.map_nil, Bool.and_self, Bool.and_true, Bool.true_and, Bool.not_true, Bool.not_false, Bool.or_false, Bool.false_or, cond_true, cond_false, okPack, okPut, okPutBlks, okPutCells, q_isP, q_isAg, q_isBox, q_isArr, q_int, q_bool, q_str, q_sl, q_nils, e_exit, e_ret, e_nrm, e_ret_exit, e_exit_ret, e_nrm_exit, e_nrm_ret, e_exit_nrm, e_ret_nrm, Nat.zero_add, Nat.reduceAdd, noslR, noslP, noslB, noslA, List.all_cons, List.all_nil, Bool.false_and]
  cases (leB 1 t.ct && leB t.ct 100) <;> simp only [bnd_some, ctl_true, ctl_false, ctl_and, ctl_or', ctl_or2, x_toPV, x_toCs, x_toCs2, x_toEs, x_bEs, x_bCs, x_aPV, x_aCs, x_int, x_bool, x_str, x_es, x_esn, nth_0, nth_1, nth_2, nth_3, nth_4, nth_5, nth_6, nth_7, nth_8, nth_9, y_nil, y_int, y_bool, y_str, y_sl, y_nils, y_agg, y_ownp, y_own, z_nil, z_int, z_bool, z_str, z_sl, z_nils, b_nil, b_arr, b_box1, b_box2, b_box3, b_box4, List.map_cons, List.map_nil, Bool.and_self, Bool.and_true, Bool.true_and, Bool.not_true, Bool.not_false, Bool.or_false, Bool.false_or, cond_true, cond_false, okPack, okPut, okPutBlks, okPutCells, q_isP, q_isAg, q_isBox, q_isArr, q_int, q_bool, q_str, q_sl, q_nils, e_exit, e_ret, e_nrm, e_ret_exit, e_exit_ret, e_nrm_exit, e_nrm_ret, e_exit_nrm, e_ret_nrm, Nat.zero_add, Nat.reduceAdd, noslR, noslP, noslB, noslA, List.all_cons, List.all_nil, Bool.false_and]
  cases (leB (t.fb.length : Int) 4) <;> simp only [bnd_some, ctl_true, ctl_false, ctl_and, ctl_or', ctl_or2, x_toPV, x_toCs, x_toCs2, x_toEs, x_bEs, x_bCs, x_aPV, x_aCs, x_int, x_bool, x_str, x_es, x_esn, nth_0, nth_1, nth_2, nth_3, nth_4, nth_5, nth_6, nth_7, nth_8, nth_9, y_nil, y_int, y_bool, y_str, y_sl, y_nils, y_agg, y_ownp, y_own, z_nil, z_int, z_bool, z_str, z_sl, z_nils, b_nil, b_arr, b_box1, b_box2, b_box3, b_box4, List.map_cons, List.map_nil, Bool.and_self, Bool.and_true, Bool.true_and, Bool.not_true, Bool.not_false, Bool.or_false, Bool.false_or, cond_true, cond_false, okPack, okPut, okPutBlks, okPutCells, q_isP, q_isAg, q_isBox, q_isArr, q_int, q_bool, q_str, q_sl, q_nils, e_exit, e_ret, e_nrm, e_ret_exit, e_exit_ret, e_nrm_exit, e_nrm_ret, e_exit_nrm, e_ret_nrm, Nat.zero_add, Nat.reduceAdd, noslR, noslP, noslB, noslA, List.all_cons, List.all_nil, Bool.false_and]

/-! ### allowed -/
theorem c_al1 (a : Int × Int) (x y : Int) : denC E 96 [AV.agg [PV.int .i64 a.1, PV.int .i64 a.2], AV.t (.ptr 0 0), AV.t (.ptr 1 0)] [Blk.box [AV.int .i64 x], Blk.box [AV.int .i64 y]] =
    some ([RV.p (PV.bool (Within a.1 a.2 x y))], [Blk.box [AV.int .i64 x], Blk.box [AV.int .i64 y]]) := by
  rw [denC_eq, r96, c_Within]
  simp only [bnd_some, ctl_true, ctl_false, ctl_and, ctl_or', ctl_or2, x_toPV, x_toCs, x_toCs2, x_toEs, x_bEs, x_bCs, x_aPV, x_aCs, x_int, x_bool, x_str, x_es, x_esn, nth_0, nth_1, nth_2, nth_3, nth_4, nth_5, nth_6, nth_7, nth_8, nth_9, y_nil, y_int, y_bool, y_str, y_sl, y_nils, y_agg, y_ownp, y_own, z_nil, z_int, z_bool, z_str, z_sl, z_nils, b_nil, b_arr, b_box1, b_box2, b_box3, b_box4, List.map_cons, List.map_nil, Bool.and_self, Bool.and_true, Bool.true_and, Bool.not_true, Bool.not_false, Bool.or_false, Bool.false_or, cond_true, cond_false, okPack, okPut, okPutBlks, okPutCells, q_isP, q_isAg, q_isBox, q_isArr, q_int, q_bool, q_str, q_sl, q_nils, e_exit, e_ret, e_nrm, e_ret_exit, e_exit_ret, e_nrm_exit, e_nrm_ret, e_exit_nrm, e_ret_nrm, Nat.zero_add, Nat.reduceAdd, noslR, noslP, noslB, noslA, List.all_cons, List.all_nil]

theorem ix40_loop (x y : Int) : ∀ (l p : List (Int × Int)), (p ++ l).length ≤ maxLen →
    lp E (denC E) 98 2 [AV.undef, AV.fn 96 [TV.ptr 0 0, TV.ptr 1 0]] 0 { vals := [AV.sl 2 (arcK (p ++ l)), AV.int .i64 ((p ++ l).length : Int), AV.int .i64 (p.length : Int)], blks := [Blk.box [AV.int .i64 x], Blk.box [AV.int .i64 y]] } =
      (match ixB (fun a => Within a.1 a.2 x y) l p.length with
       | some j => some (Ex.ret, { vals := [AV.int .i64 (j : Int)], blks := [Blk.box [AV.int .i64 x], Blk.box [AV.int .i64 y]] })
       | none => some (Ex.exit 0, { vals := [], blks := [Blk.box [AV.int .i64 x], Blk.box [AV.int .i64 y]] }))
  | [], p, h => by
    rw [r98_0b, ctl_dec, if_neg (by simp)]
    rfl
  | s :: l, p, h => by
    simp only [List.length_append, List.length_cons] at h
    have hm : maxLen ≤ 9223372036854775807 := by decide
    rw [r98_0b, ctl_dec, if_pos (by simp; omega), getE_arc]
    have ih := ix40_loop x y l (p ++ [s]) (by simp; omega)
    simp only [List.append_assoc, List.cons_append, List.nil_append, List.length_append, List.length_cons, List.length_nil] at ih
    simp only [List.length_append, List.length_cons, arcC, bnd_some, ctl_true, ctl_false, ctl_and, ctl_or', ctl_or2, x_toPV, x_toCs, x_toCs2, x_toEs, x_bEs, x_bCs, x_aPV, x_aCs, x_int, x_bool, x_str, x_es, x_esn, nth_0, nth_1, nth_2, nth_3, nth_4, nth_5, nth_6, nth_7, nth_8, nth_9, y_nil, y_int, y_bool, y_str, y_sl, y_nils, y_agg, y_ownp, y_own, z_nil, z_int, z_bool, z_str, z_sl, z_nils, b_nil, b_arr, b_box1, b_box2, b_box3, b_box4, List.map_cons, List.map_nil, Bool.and_self, Bool.and_true, Bool.true_and, Bool.not_true, Bool.not_false, Bool.or_false, Bool.false_or, cond_true, cond_false, okPack, okPut, okPutBlks, okPutCells, q_isP, q_isAg, q_isBox, q_isArr, q_int, q_bool, q_str, q_sl, q_nils, e_exit, e_ret, e_nrm, e_ret_exit, e_exit_ret, e_nrm_exit, e_nrm_ret, e_exit_nrm, e_ret_nrm, Nat.zero_add, Nat.reduceAdd, noslR, noslP, noslB, noslA, List.all_cons, List.all_nil, c_al1]
    rw [w64 (n := (p.length : Int) + 1) (by omega)]
    have e1 : ((p.length : Int) + 1) = ((p.length + (0 + 1) : Nat) : Int) := by omega
    rw [e1, ih]
    rw [ixB_cons]
    cases hv : Within s.1 s.2 x y with
    | true => simp only [ctl_true, if_true]
    | false => simp only [ctl_false, Bool.false_eq_true, if_false, Nat.zero_add]

theorem c_CF40 {l : List (Int × Int)} (h : l.length ≤ maxLen) (x y : Int) : denC E 87 [AV.sl 2 (arcK l), AV.fn 96 [TV.ptr 0 0, TV.ptr 1 0]] [Blk.box [AV.int .i64 x], Blk.box [AV.int .i64 y]] =
    some ([RV.p (PV.bool (!free l x y))], [Blk.box [AV.int .i64 x], Blk.box [AV.int .i64 y]]) := by
  have hix : denC E 98 [AV.sl 2 (arcK l), AV.fn 96 [TV.ptr 0 0, TV.ptr 1 0]] [Blk.box [AV.int .i64 x], Blk.box [AV.int .i64 y]] =
      some ([RV.p (PV.int .i64 (ixR (fun a => Within a.1 a.2 x y) l))], [Blk.box [AV.int .i64 x], Blk.box [AV.int .i64 y]]) := by
    rw [denC_eq, r98b, arcK_length]
    have hl := ix40_loop x y l [] (by simpa using h)
    simp only [List.nil_append, List.length_nil] at hl
    have e0 : (((0 : Nat)) : Int) = 0 := rfl
    rw [e0] at hl
    rw [hl]
    unfold ixR
    cases ixB (fun a => Within a.1 a.2 x y) l 0 with
    | none => simp only [bnd_some, ctl_true, ctl_false, ctl_and, ctl_or', ctl_or2, x_toPV, x_toCs, x_toCs2, x_toEs, x_bEs, x_bCs, x_aPV, x_aCs, x_int, x_bool, x_str, x_es, x_esn, nth_0, nth_1, nth_2, nth_3, nth_4, nth_5, nth_6, nth_7, nth_8, nth_9, y_nil, y_int, y_bool, y_str, y_sl, y_nils, y_agg, y_ownp, y_own, z_nil, z_int, z_bool, z_str, z_sl, z_nils, b_nil, b_arr, b_box1, b_box2, b_box3, b_box4, List.map_cons, List.map_nil, Bool.and_self, Bool.and_true, Bool.true_and, Bool.not_true, Bool.not_false, Bool.or_false, Bool.false_or, cond_true, cond_false, okPack, okPut, okPutBlks, okPutCells, q_isP, q_isAg, q_isBox, q_isArr, q_int, q_bool, q_str, q_sl, q_nils, e_exit, e_ret, e_nrm, e_ret_exit, e_exit_ret, e_nrm_exit, e_nrm_ret, e_exit_nrm, e_ret_nrm, Nat.zero_add, Nat.reduceAdd, noslR, noslP, noslB, noslA, List.all_cons, List.all_nil]
    | some j => simp only [bnd_some, ctl_true, ctl_false, ctl_and, ctl_or', ctl_or2, x_toPV, x_toCs, x_toCs2, x_toEs, x_bEs, x_bCs, x_aPV, x_aCs, x_int, x_bool, x_str, x_es, x_esn, nth_0, nth_1, nth_2, nth_3, nth_4, nth_5, nth_6, nth_7, nth_8, nth_9, y_nil, y_int, y_bool, y_str, y_sl, y_nils, y_agg, y_ownp, y_own, z_nil, z_int, z_bool, z_str, z_sl, z_nils, b_nil, b_arr, b_box1, b_box2, b_box3, b_box4, List.map_cons, List.map_nil, Bool.and_self, Bool.and_true, Bool.true_and, Bool.not_true, Bool.not_false, Bool.or_false, Bool.false_or, cond_true, cond_false, okPack, okPut, okPutBlks, okPutCells, q_isP, q_isAg, q_isBox, q_isArr, q_int, q_bool, q_str, q_sl, q_nils, e_exit, e_ret, e_nrm, e_ret_exit, e_exit_ret, e_nrm_exit, e_nrm_ret, e_exit_nrm, e_ret_nrm, Nat.zero_add, Nat.reduceAdd, noslR, noslP, noslB, noslA, List.all_cons, List.all_nil]
  rw [denC_eq, r87b, hix]
  simp only [bnd_some, ctl_true, ctl_false, ctl_and, ctl_or', ctl_or2, x_toPV, x_toCs, x_toCs2, x_toEs, x_bEs, x_bCs, x_aPV, x_aCs, x_int, x_bool, x_str, x_es, x_esn, nth_0, nth_1, nth_2, nth_3, nth_4, nth_5, nth_6, nth_7, nth_8, nth_9, y_nil, y_int, y_bool, y_str, y_sl, y_nils, y_agg, y_ownp, y_own, z_nil, z_int, z_bool, z_str, z_sl, z_nils, b_nil, b_arr, b_box1, b_box2, b_box3, b_box4, List.map_cons, List.map_nil, Bool.and_self, Bool.and_true, Bool.true_and, Bool.not_true, Bool.not_false, Bool.or_false, Bool.false_or, cond_true, cond_false, okPack, okPut, okPutBlks, okPutCells, q_isP, q_isAg, q_isBox, q_isArr, q_int, q_bool, q_str, q_sl, q_nils, e_exit, e_ret, e_nrm, e_ret_exit, e_exit_ret, e_nrm_exit, e_nrm_ret, e_exit_nrm, e_ret_nrm, Nat.zero_add, Nat.reduceAdd, noslR, noslP, noslB, noslA, List.all_cons, List.all_nil, ixR_le]
  rfl

theorem sq_le {a m : Int} (h : -m ≤ a ∧ a ≤ m) : 0 ≤ a * a ∧ a * a ≤ m * m := by
  have h1 := mul_le (a := a) (b := a) (m := m) (n := m) h h
  have h2 := Int.mul_self_nonneg a
  omega
where
  Int.mul_self_nonneg (a : Int) : 0 ≤ a * a := by
    rcases Int.le_total 0 a with h | h
    · exact Int.mul_nonneg h h
    · exact Int.mul_nonneg_of_nonpos_of_nonpos h h

theorem c_allowed {t : Thr} (hv : 0 ≤ t.mx ∧ t.mx ≤ 5000) (h : t.fb.length ≤ maxLen) (x y : Int) : denC E 82 [AV.agg (thC t), AV.int .i64 x, AV.int .i64 y] [] = some ([RV.p (PV.bool (alw t x y))], []) := by
  unfold thC
  rw [denC_eq, r82]
  rw [w64 (n := 0 - t.mx) (by omega)]
  by_cases h0 : -t.mx ≤ x ∧ x ≤ t.mx ∧ -t.mx ≤ y ∧ y ≤ t.mx
  · have s1 := sq_le (a := x) (m := t.mx) (by omega)
    have s2 := sq_le (a := y) (m := t.mx) (by omega)
    have s3 := sq_le (a := t.mx) (m := 5000) (by omega)
    rw [w64 (n := t.mx * t.mx) (by omega), w64 (n := x * x) (by omega), w64 (n := y * y) (by omega), w64 (n := x * x + y * y) (by omega)]
    have e1 : ltB t.mx (maxI y x) = false := by simp only [decide_eq_false_iff_not]; unfold maxI; split <;> omega
    have e2 : ltB (minI y x) (0 - t.mx) = false := by simp only [decide_eq_false_iff_not]; unfold minI; split <;> omega
    rw [e1, e2, c_CF40 h]
    simp only [bnd_some, ctl_true, ctl_false, ctl_and, ctl_or', ctl_or2, x_toPV, x_toCs, x_toCs2, x_toEs, x_bEs, x_bCs, x_aPV, x_aCs, x_int, x_bool, x_str, x_es, x_esn, nth_0, nth_1, nth_2, nth_3, nth_4, nth_5, nth_6, nth_7, nth_8, nth_9, y_nil, y_int, y_bool, y_str, y_sl, y_nils, y_agg, y_ownp, y_own, z_nil, z_int, z_bool, z_str, z_sl, z_nils, b_nil, b_arr, b_box1, b_box2, b_box3, b_box4, List.map_cons, List.map_nil, Bool.and_self, Bool.and_true, Bool.true_and, Bool.not_true, Bool.not_false, Bool.or_false, Bool.false_or, cond_true, cond_false, okPack, okPut, okPutBlks, okPutCells, q_isP, q_isAg, q_isBox, q_isArr, q_int, q_bool, q_str, q_sl, q_nils, e_exit, e_ret, e_nrm, e_ret_exit, e_exit_ret, e_nrm_exit, e_nrm_ret, e_exit_nrm, e_ret_nrm, Nat.zero_add, Nat.reduceAdd, noslR, noslP, noslB, noslA, List.all_cons, List.all_nil, Bool.true_or, Bool.or_true]
    unfold alw
    have e3 : alw0 t x y = (!ltB (t.mx * t.mx) (x * x + y * y) && !((t.kd == 1) && (x != 0)) && !((t.kd == 2) && (y != 0))) := by
      rw [Bool.eq_iff_iff, alw0_iff]
      simp only [Bool.and_eq_true, Bool.not_eq_true', decide_eq_false_iff_not, Bool.and_eq_false_iff, beq_eq_false_iff_ne, bne_eq_false_iff_eq]
      omega
    rw [e3]
    simp only [Bool.not_not]
    cases ltB (t.mx * t.mx) (x * x + y * y) <;> simp only [bnd_some, ctl_true, ctl_false, ctl_and, ctl_or', ctl_or2, x_toPV, x_toCs, x_toCs2, x_toEs, x_bEs, x_bCs, x_aPV, x_aCs, x_int, x_bool, x_str, x_es, x_esn, nth_0, nth_1, nth_2, nth_3, nth_4, nth_5, nth_6, nth_7, nth_8, nth_9, y_nil, y_int, y_bool, y_str, y_sl, y_nils, y_agg, y_ownp, y_own, z_nil, z_int, z_bool, z_str, z_sl, z_nils, b_nil, b_arr, b_box1, b_box2, b_box3, b_box4, List.map_cons, List.map_nil, Bool.and_self, Bool.and_true, Bool.true_and, Bool.not_true, Bool.not_false, Bool.or_false, Bool.false_or, cond_true, cond_false, okPack, okPut, okPutBlks, okPutCells, q_isP, q_isAg, q_isBox, q_isArr, q_int, q_bool, q_str, q_sl, q_nils, e_exit, e_ret, e_nrm, e_ret_exit, e_exit_ret, e_nrm_exit, e_nrm_ret, e_exit_nrm, e_ret_nrm, Nat.zero_add, Nat.reduceAdd, noslR, noslP, noslB, noslA, List.all_cons, List.all_nil, Bool.false_and, Bool.true_or, Bool.or_true]
    cases (t.kd == 1) <;> cases (x != 0) <;> simp only [bnd_some, ctl_true, ctl_false, ctl_and, ctl_or', ctl_or2, x_toPV, x_toCs, x_toCs2, x_toEs, x_bEs, x_bCs, x_aPV, x_aCs, x_int, x_bool, x_str, x_es, x_esn, nth_0, nth_1, nth_2, nth_3, nth_4, nth_5, nth_6, nth_7, nth_8, nth_9, y_nil, y_int, y_bool, y_str, y_sl, y_nils, y_agg, y_ownp, y_own, z_nil, z_int, z_bool, z_str, z_sl, z_nils, b_nil, b_arr, b_box1, b_box2, b_box3, b_box4, List.map_cons, List.map_nil, Bool.and_self, Bool.and_true, Bool.true_and, Bool.not_true, Bool.not_false, Bool.or_false, Bool.false_or, cond_true, cond_false, okPack, okPut, okPutBlks, okPutCells, q_isP, q_isAg, q_isBox, q_isArr, q_int, q_bool, q_str, q_sl, q_nils, e_exit, e_ret, e_nrm, e_ret_exit, e_exit_ret, e_nrm_exit, e_nrm_ret, e_exit_nrm, e_ret_nrm, Nat.zero_add, Nat.reduceAdd, noslR, noslP, noslB, noslA, List.all_cons, List.all_nil, Bool.false_and, Bool.true_or, Bool.or_true] <;> cases (t.kd == 2) <;> cases (y != 0) <;> simp only [bnd_some, ctl_true, ctl_false, ctl_and, ctl_or', ctl_or2, x_toPV, x_toCs, x_toCs2, x_toEs, x_bEs, x_bCs, x_aPV, x_aCs, x_int, x_bool, x_str, x_es, x_esn, nth_0, nth_1, nth_2, nth_3, nth_4, nth_5, nth_6, nth_7, nth_8, nth_9, y_nil, y_int, y_bool, y_str, y_sl, y_nils, y_agg, y_ownp, y_own, z_nil, z_int, z_bool, z_str, z_sl, z_nils, b_nil, b_arr, b_box1, b_box2, b_box3, b_box4, List.map_cons, List.map_nil, Bool.and_self, Bool.and_true, Bool.true_and, Bool.not_true, Bool.not_false, Bool.or_false, Bool.false_or, cond_true, cond_false, okPack, okPut, okPutBlks, okPutCells, q_isP, q_isAg, q_isBox, q_isArr, q_int, q_bool, q_str, q_sl, q_nils, e_exit, e_ret, e_nrm, e_ret_exit, e_exit_ret, e_nrm_exit, e_nrm_ret, e_exit_nrm, e_ret_nrm, Nat.zero_add, Nat.reduceAdd, noslR, noslP, noslB, noslA, List.all_cons, List.all_nil, Bool.false_and, Bool.true_or, Bool.or_true]
  · have e0 : alw t x y = false := by
      cases hh : alw t x y with
      | false => rfl
      | true => exact absurd (by have := alw_bounds hh; omega) h0
    rw [e0]
    by_cases h1 : t.mx < maxI y x
    · have e1 : ltB t.mx (maxI y x) = true := by simpa using h1
      rw [e1]
      simp only [bnd_some, ctl_true, ctl_false, ctl_and, ctl_or', ctl_or2, x_toPV, x_toCs, x_toCs2, x_toEs, x_bEs, x_bCs, x_aPV, x_aCs, x_int, x_bool, x_str, x_es, x_esn, nth_0, nth_1, nth_2, nth_3, nth_4, nth_5, nth_6, nth_7, nth_8, nth_9, y_nil, y_int, y_bool, y_str, y_sl, y_nils, y_agg, y_ownp, y_own, z_nil, z_int, z_bool, z_str, z_sl, z_nils, b_nil, b_arr, b_box1, b_box2, b_box3, b_box4, List.map_cons, List.map_nil, Bool.and_self, Bool.and_true, Bool.true_and, Bool.not_true, Bool.not_false, Bool.or_false, Bool.false_or, cond_true, cond_false, okPack, okPut, okPutBlks, okPutCells, q_isP, q_isAg, q_isBox, q_isArr, q_int, q_bool, q_str, q_sl, q_nils, e_exit, e_ret, e_nrm, e_ret_exit, e_exit_ret, e_nrm_exit, e_nrm_ret, e_exit_nrm, e_ret_nrm, Nat.zero_add, Nat.reduceAdd, noslR, noslP, noslB, noslA, List.all_cons, List.all_nil, Bool.true_or, Bool.or_true]
    · have e1 : ltB t.mx (maxI y x) = false := by simpa using h1
      have e2 : ltB (minI y x) (0 - t.mx) = true := by
        simp only [decide_eq_true_eq]
        unfold maxI at h1
        unfold minI
        split <;> split at h1 <;> omega
      rw [e1, e2]
      simp only [bnd_some, ctl_true, ctl_false, ctl_and, ctl_or', ctl_or2, x_toPV, x_toCs, x_toCs2, x_toEs, x_bEs, x_bCs, x_aPV, x_aCs, x_int, x_bool, x_str, x_es, x_esn, nth_0, nth_1, nth_2, nth_3, nth_4, nth_5, nth_6, nth_7, nth_8, nth_9, y_nil, y_int, y_bool, y_str, y_sl, y_nils, y_agg, y_ownp, y_own, z_nil, z_int, z_bool, z_str, z_sl, z_nils, b_nil, b_arr, b_box1, b_box2, b_box3, b_box4, List.map_cons, List.map_nil, Bool.and_self, Bool.and_true, Bool.true_and, Bool.not_true, Bool.not_false, Bool.or_false, Bool.false_or, cond_true, cond_false, okPack, okPut, okPutBlks, okPutCells, q_isP, q_isAg, q_isBox, q_isArr, q_int, q_bool, q_str, q_sl, q_nils, e_exit, e_ret, e_nrm, e_ret_exit, e_exit_ret, e_nrm_exit, e_nrm_ret, e_exit_nrm, e_ret_nrm, Nat.zero_add, Nat.reduceAdd, noslR, noslP, noslB, noslA, List.all_cons, List.all_nil, Bool.true_or, Bool.or_true]

/-! ### Runs -/
abbrev thB (t : Thr) : Blk := Blk.box [AV.int .i64 t.kd, AV.int .i64 t.st, AV.int .i64 t.mx, AV.int .i64 t.rt, AV.int .i64 t.ct, AV.sl 2 (arcK t.fb)]

theorem c_L1 {t : Thr} (hv : 0 ≤ t.mx ∧ t.mx ≤ 5000) (h : t.fb.length ≤ maxLen) (y : Int) : denC E 81 [AV.int .i64 y, AV.t (.ptr 0 0)] [thB t] = some ([RV.p (PV.bool (alw t 0 y))], [thB t]) := by
  have hA := c_allowed hv h 0 y
  unfold thC at hA
  rw [denC_eq, r81, hA]
  simp only [bnd_some, ctl_true, ctl_false, ctl_and, ctl_or', ctl_or2, x_toPV, x_toCs, x_toCs2, x_toEs, x_bEs, x_bCs, x_aPV, x_aCs, x_int, x_bool, x_str, x_es, x_esn, nth_0, nth_1, nth_2, nth_3, nth_4, nth_5, nth_6, nth_7, nth_8, nth_9, y_nil, y_int, y_bool, y_str, y_sl, y_nils, y_agg, y_ownp, y_own, z_nil, z_int, z_bool, z_str, z_sl, z_nils, b_nil, b_arr, b_box1, b_box2, b_box3, b_box4, List.map_cons, List.map_nil, Bool.and_self, Bool.and_true, Bool.true_and, Bool.not_true, Bool.not_false, Bool.or_false, Bool.false_or, cond_true, cond_false, okPack, okPut, okPutBlks, okPutCells, q_isP, q_isAg, q_isBox, q_isArr, q_int, q_bool, q_str, q_sl, q_nils, e_exit, e_ret, e_nrm, e_ret_exit, e_exit_ret, e_nrm_exit, e_nrm_ret, e_exit_nrm, e_ret_nrm, Nat.zero_add, Nat.reduceAdd, noslR, noslP, noslB, noslA, List.all_cons, List.all_nil, b_box6]
theorem c_G1 {t : Thr} (hv : 0 ≤ t.mx ∧ t.mx ≤ 5000) (h : t.fb.length ≤ maxLen) (x y : Int) : denC E 84 [AV.int .i64 x, AV.t (.ptr 0 0), AV.t (.ptr 1 0)] [thB t, Blk.box [AV.int .i64 y]] = some ([RV.p (PV.bool (alw t x y))], [thB t, Blk.box [AV.int .i64 y]]) := by
  have hA := c_allowed hv h x y
  unfold thC at hA
  rw [denC_eq, r84, hA]
  simp only [bnd_some, ctl_true, ctl_false, ctl_and, ctl_or', ctl_or2, x_toPV, x_toCs, x_toCs2, x_toEs, x_bEs, x_bCs, x_aPV, x_aCs, x_int, x_bool, x_str, x_es, x_esn, nth_0, nth_1, nth_2, nth_3, nth_4, nth_5, nth_6, nth_7, nth_8, nth_9, y_nil, y_int, y_bool, y_str, y_sl, y_nils, y_agg, y_ownp, y_own, z_nil, z_int, z_bool, z_str, z_sl, z_nils, b_nil, b_arr, b_box1, b_box2, b_box3, b_box4, List.map_cons, List.map_nil, Bool.and_self, Bool.and_true, Bool.true_and, Bool.not_true, Bool.not_false, Bool.or_false, Bool.false_or, cond_true, cond_false, okPack, okPut, okPutBlks, okPutCells, q_isP, q_isAg, q_isBox, q_isArr, q_int, q_bool, q_str, q_sl, q_nils, e_exit, e_ret, e_nrm, e_ret_exit, e_exit_ret, e_nrm_exit, e_nrm_ret, e_exit_nrm, e_ret_nrm, Nat.zero_add, Nat.reduceAdd, noslR, noslP, noslB, noslA, List.all_cons, List.all_nil, b_box6]

theorem run0a {t : Thr} (hv : 0 ≤ t.mx ∧ t.mx ≤ 5000) (h : t.fb.length ≤ maxLen) (b : Int) : ∀ (j : Nat) (lo : Int), -5000 ≤ lo - j → lo ≤ 0 → alw t 0 (lo - j - 1) = false → (∀ i : Nat, i < j → alw t 0 (lo - i - 1) = true) →
    lp E (denC E) 80 1 [AV.fn 81 [TV.ptr 0 0]] 0 { vals := [AV.int .i64 lo, AV.int .i64 b], blks := [thB t] } = some (Ex.exit 0, { vals := [AV.int .i64 (lo - j), AV.int .i64 b], blks := [thB t] })
  | 0, lo, h1, h2, h3, h4 => by
    rw [r80_0a, w64 (n := lo - 1) (by omega), c_L1 hv h]
    have e : lo - ((0 : Nat) : Int) - 1 = lo - 1 := by omega
    rw [e] at h3
    have e2 : lo - ((0 : Nat) : Int) = lo := by omega
    rw [h3, e2]
    simp only [bnd_some, ctl_true, ctl_false, ctl_and, ctl_or', ctl_or2, x_toPV, x_toCs, x_toCs2, x_toEs, x_bEs, x_bCs, x_aPV, x_aCs, x_int, x_bool, x_str, x_es, x_esn, nth_0, nth_1, nth_2, nth_3, nth_4, nth_5, nth_6, nth_7, nth_8, nth_9, y_nil, y_int, y_bool, y_str, y_sl, y_nils, y_agg, y_ownp, y_own, z_nil, z_int, z_bool, z_str, z_sl, z_nils, b_nil, b_arr, b_box1, b_box2, b_box3, b_box4, List.map_cons, List.map_nil, Bool.and_self, Bool.and_true, Bool.true_and, Bool.not_true, Bool.not_false, Bool.or_false, Bool.false_or, cond_true, cond_false, okPack, okPut, okPutBlks, okPutCells, q_isP, q_isAg, q_isBox, q_isArr, q_int, q_bool, q_str, q_sl, q_nils, e_exit, e_ret, e_nrm, e_ret_exit, e_exit_ret, e_nrm_exit, e_nrm_ret, e_exit_nrm, e_ret_nrm, Nat.zero_add, Nat.reduceAdd, noslR, noslP, noslB, noslA, List.all_cons, List.all_nil, b_box6]
  | j + 1, lo, h1, h2, h3, h4 => by
    have h5 := h4 0 (by omega)
    have e : lo - ((0 : Nat) : Int) - 1 = lo - 1 := by omega
    rw [e] at h5
    have e3 : lo - ((j + 1 : Nat) : Int) - 1 = lo - 1 - j - 1 := by omega
    have ih := run0a hv h b j (lo - 1) (by omega) (by omega) (by rw [← e3]; exact h3) (fun i hi => by
      have := h4 (i + 1) (by omega)
      have e4 : lo - ((i + 1 : Nat) : Int) - 1 = lo - 1 - i - 1 := by omega
      rw [e4] at this; exact this)
    rw [r80_0a, w64 (n := lo - 1) (by omega), c_L1 hv h, h5]
    simp only [bnd_some, ctl_true, ctl_false, ctl_and, ctl_or', ctl_or2, x_toPV, x_toCs, x_toCs2, x_toEs, x_bEs, x_bCs, x_aPV, x_aCs, x_int, x_bool, x_str, x_es, x_esn, nth_0, nth_1, nth_2, nth_3, nth_4, nth_5, nth_6, nth_7, nth_8, nth_9, y_nil, y_int, y_bool, y_str, y_sl, y_nils, y_agg, y_ownp, y_own, z_nil, z_int, z_bool, z_str, z_sl, z_nils, b_nil, b_arr, b_box1, b_box2, b_box3, b_box4, List.map_cons, List.map_nil, Bool.and_self, Bool.and_true, Bool.true_and, Bool.not_true, Bool.not_false, Bool.or_false, Bool.false_or, cond_true, cond_false, okPack, okPut, okPutBlks, okPutCells, q_isP, q_isAg, q_isBox, q_isArr, q_int, q_bool, q_str, q_sl, q_nils, e_exit, e_ret, e_nrm, e_ret_exit, e_exit_ret, e_nrm_exit, e_nrm_ret, e_exit_nrm, e_ret_nrm, Nat.zero_add, Nat.reduceAdd, noslR, noslP, noslB, noslA, List.all_cons, List.all_nil, b_box6]
    rw [ih]
    have e5 : lo - ((j + 1 : Nat) : Int) = lo - 1 - j := by omega
    rw [e5]

theorem run2a {t : Thr} (hv : 0 ≤ t.mx ∧ t.mx ≤ 5000) (h : t.fb.length ≤ maxLen) (b : Int) : ∀ (j : Nat) (hi : Int), hi + j ≤ 5000 → 0 ≤ hi → alw t 0 (hi + j + 1) = false → (∀ i : Nat, i < j → alw t 0 (hi + i + 1) = true) →
    lp E (denC E) 80 1 [AV.fn 81 [TV.ptr 0 0]] 2 { vals := [AV.int .i64 b, AV.int .i64 hi], blks := [thB t] } = some (Ex.exit 2, { vals := [AV.int .i64 b, AV.int .i64 (hi + j)], blks := [thB t] })
  | 0, hi, h1, h2, h3, h4 => by
    rw [r80_2a, w64 (n := hi + 1) (by omega), c_L1 hv h]
    have e : hi + ((0 : Nat) : Int) + 1 = hi + 1 := by omega
    rw [e] at h3
    have e2 : hi + ((0 : Nat) : Int) = hi := by omega
    rw [h3, e2]
    simp only [bnd_some, ctl_true, ctl_false, ctl_and, ctl_or', ctl_or2, x_toPV, x_toCs, x_toCs2, x_toEs, x_bEs, x_bCs, x_aPV, x_aCs, x_int, x_bool, x_str, x_es, x_esn, nth_0, nth_1, nth_2, nth_3, nth_4, nth_5, nth_6, nth_7, nth_8, nth_9, y_nil, y_int, y_bool, y_str, y_sl, y_nils, y_agg, y_ownp, y_own, z_nil, z_int, z_bool, z_str, z_sl, z_nils, b_nil, b_arr, b_box1, b_box2, b_box3, b_box4, List.map_cons, List.map_nil, Bool.and_self, Bool.and_true, Bool.true_and, Bool.not_true, Bool.not_false, Bool.or_false, Bool.false_or, cond_true, cond_false, okPack, okPut, okPutBlks, okPutCells, q_isP, q_isAg, q_isBox, q_isArr, q_int, q_bool, q_str, q_sl, q_nils, e_exit, e_ret, e_nrm, e_ret_exit, e_exit_ret, e_nrm_exit, e_nrm_ret, e_exit_nrm, e_ret_nrm, Nat.zero_add, Nat.reduceAdd, noslR, noslP, noslB, noslA, List.all_cons, List.all_nil, b_box6]
  | j + 1, hi, h1, h2, h3, h4 => by
    have h5 := h4 0 (by omega)
    have e : hi + ((0 : Nat) : Int) + 1 = hi + 1 := by omega
    rw [e] at h5
    have e3 : hi + ((j + 1 : Nat) : Int) + 1 = hi + 1 + j + 1 := by omega
    have ih := run2a hv h b j (hi + 1) (by omega) (by omega) (by rw [← e3]; exact h3) (fun i hi' => by
      have := h4 (i + 1) (by omega)
      have e4 : hi + ((i + 1 : Nat) : Int) + 1 = hi + 1 + i + 1 := by omega
      rw [e4] at this; exact this)
    rw [r80_2a, w64 (n := hi + 1) (by omega), c_L1 hv h, h5]
    simp only [bnd_some, ctl_true, ctl_false, ctl_and, ctl_or', ctl_or2, x_toPV, x_toCs, x_toCs2, x_toEs, x_bEs, x_bCs, x_aPV, x_aCs, x_int, x_bool, x_str, x_es, x_esn, nth_0, nth_1, nth_2, nth_3, nth_4, nth_5, nth_6, nth_7, nth_8, nth_9, y_nil, y_int, y_bool, y_str, y_sl, y_nils, y_agg, y_ownp, y_own, z_nil, z_int, z_bool, z_str, z_sl, z_nils, b_nil, b_arr, b_box1, b_box2, b_box3, b_box4, List.map_cons, List.map_nil, Bool.and_self, Bool.and_true, Bool.true_and, Bool.not_true, Bool.not_false, Bool.or_false, Bool.false_or, cond_true, cond_false, okPack, okPut, okPutBlks, okPutCells, q_isP, q_isAg, q_isBox, q_isArr, q_int, q_bool, q_str, q_sl, q_nils, e_exit, e_ret, e_nrm, e_ret_exit, e_exit_ret, e_nrm_exit, e_nrm_ret, e_exit_nrm, e_ret_nrm, Nat.zero_add, Nat.reduceAdd, noslR, noslP, noslB, noslA, List.all_cons, List.all_nil, b_box6]
    rw [ih]
    have e5 : hi + ((j + 1 : Nat) : Int) = hi + 1 + j := by omega
    rw [e5]

theorem run0b {t : Thr} (hv : 0 ≤ t.mx ∧ t.mx ≤ 5000) (h : t.fb.length ≤ maxLen) (y b : Int) : ∀ (j : Nat) (lo : Int), -5000 ≤ lo - j → lo ≤ 0 → alw t (lo - j - 1) y = false → (∀ i : Nat, i < j → alw t (lo - i - 1) y = true) →
    lp E (denC E) 80 2 [AV.fn 84 [TV.ptr 0 0, TV.ptr 1 0]] 0 { vals := [AV.int .i64 lo, AV.int .i64 b], blks := [thB t, Blk.box [AV.int .i64 y]] } = some (Ex.exit 0, { vals := [AV.int .i64 (lo - j), AV.int .i64 b], blks := [thB t, Blk.box [AV.int .i64 y]] })
  | 0, lo, h1, h2, h3, h4 => by
    rw [r80_0b, w64 (n := lo - 1) (by omega), c_G1 hv h]
    have e : lo - ((0 : Nat) : Int) - 1 = lo - 1 := by omega
    rw [e] at h3
    have e2 : lo - ((0 : Nat) : Int) = lo := by omega
    rw [h3, e2]
    simp only [bnd_some, ctl_true, ctl_false, ctl_and, ctl_or', ctl_or2, x_toPV, x_toCs, x_toCs2, x_toEs, x_bEs, x_bCs, x_aPV, x_aCs, x_int, x_bool, x_str, x_es, x_esn, nth_0, nth_1, nth_2, nth_3, nth_4, nth_5, nth_6, nth_7, nth_8, nth_9, y_nil, y_int, y_bool, y_str, y_sl, y_nils, y_agg, y_ownp, y_own, z_nil, z_int, z_bool, z_str, z_sl, z_nils, b_nil, b_arr, b_box1, b_box2, b_box3, b_box4, List.map_cons, List.map_nil, Bool.and_self, Bool.and_true, Bool.true_and, Bool.not_true, Bool.not_false, Bool.or_false, Bool.false_or, cond_true, cond_false, okPack, okPut, okPutBlks, okPutCells, q_isP, q_isAg, q_isBox, q_isArr, q_int, q_bool, q_str, q_sl, q_nils, e_exit, e_ret, e_nrm, e_ret_exit, e_exit_ret, e_nrm_exit, e_nrm_ret, e_exit_nrm, e_ret_nrm, Nat.zero_add, Nat.reduceAdd, noslR, noslP, noslB, noslA, List.all_cons, List.all_nil, b_box6]
  | j + 1, lo, h1, h2, h3, h4 => by
    have h5 := h4 0 (by omega)
    have e : lo - ((0 : Nat) : Int) - 1 = lo - 1 := by omega
    rw [e] at h5
    have e3 : lo - ((j + 1 : Nat) : Int) - 1 = lo - 1 - j - 1 := by omega
    have ih := run0b hv h y b j (lo - 1) (by omega) (by omega) (by rw [← e3]; exact h3) (fun i hi => by
      have := h4 (i + 1) (by omega)
      have e4 : lo - ((i + 1 : Nat) : Int) - 1 = lo - 1 - i - 1 := by omega
      rw [e4] at this; exact this)
    rw [r80_0b, w64 (n := lo - 1) (by omega), c_G1 hv h, h5]
    simp only [bnd_some, ctl_true, ctl_false, ctl_and, ctl_or', ctl_or2, x_toPV, x_toCs, x_toCs2, x_toEs, x_bEs, x_bCs, x_aPV, x_aCs, x_int, x_bool, x_str, x_es, x_esn, nth_0, nth_1, nth_2, nth_3, nth_4, nth_5, nth_6, nth_7, nth_8, nth_9, y_nil, y_int, y_bool, y_str, y_sl, y_nils, y_agg, y_ownp, y_own, z_nil, z_int, z_bool, z_str, z_sl, z_nils, b_nil, b_arr, b_box1, b_box2, b_box3, b_box4, List.map_cons, List.map_nil, Bool.and_self, Bool.and_true, Bool.true_and, Bool.not_true, Bool.not_false, Bool.or_false, Bool.false_or, cond_true, cond_false, okPack, okPut, okPutBlks, okPutCells, q_isP, q_isAg, q_isBox, q_isArr, q_int, q_bool, q_str, q_sl, q_nils, e_exit, e_ret, e_nrm, e_ret_exit, e_exit_ret, e_nrm_exit, e_nrm_ret, e_exit_nrm, e_ret_nrm, Nat.zero_add, Nat.reduceAdd, noslR, noslP, noslB, noslA, List.all_cons, List.all_nil, b_box6]
    rw [ih]
    have e5 : lo - ((j + 1 : Nat) : Int) = lo - 1 - j := by omega
    rw [e5]

theorem run2b {t : Thr} (hv : 0 ≤ t.mx ∧ t.mx ≤ 5000) (h : t.fb.length ≤ maxLen) (y b : Int) : ∀ (j : Nat) (hi : Int), hi + j ≤ 5000 → 0 ≤ hi → alw t (hi + j + 1) y = false → (∀ i : Nat, i < j → alw t (hi + i + 1) y = true) →
    lp E (denC E) 80 2 [AV.fn 84 [TV.ptr 0 0, TV.ptr 1 0]] 2 { vals := [AV.int .i64 b, AV.int .i64 hi], blks := [thB t, Blk.box [AV.int .i64 y]] } = some (Ex.exit 2, { vals := [AV.int .i64 b, AV.int .i64 (hi + j)], blks := [thB t, Blk.box [AV.int .i64 y]] })
  | 0, hi, h1, h2, h3, h4 => by
    rw [r80_2b, w64 (n := hi + 1) (by omega), c_G1 hv h]
    have e : hi + ((0 : Nat) : Int) + 1 = hi + 1 := by omega
    rw [e] at h3
    have e2 : hi + ((0 : Nat) : Int) = hi := by omega
    rw [h3, e2]
    simp only [bnd_some, ctl_true, ctl_false, ctl_and, ctl_or', ctl_or2, x_toPV, x_toCs, x_toCs2, x_toEs, x_bEs, x_bCs, x_aPV, x_aCs, x_int, x_bool, x_str, x_es, x_esn, nth_0, nth_1, nth_2, nth_3, nth_4, nth_5, nth_6, nth_7, nth_8, nth_9, y_nil, y_int, y_bool, y_str, y_sl, y_nils, y_agg, y_ownp, y_own, z_nil, z_int, z_bool, z_str, z_sl, z_nils, b_nil, b_arr, b_box1, b_box2, b_box3, b_box4, List.map_cons, List.map_nil, Bool.and_self, Bool.and_true, Bool.true_and, Bool.not_true, Bool.not_false, Bool.or_false, Bool.false_or, cond_true, cond_false, okPack, okPut, okPutBlks, okPutCells, q_isP, q_isAg, q_isBox, q_isArr, q_int, q_bool, q_str, q_sl, q_nils, e_exit, e_ret, e_nrm, e_ret_exit, e_exit_ret, e_nrm_exit, e_nrm_ret, e_exit_nrm, e_ret_nrm, Nat.zero_add, Nat.reduceAdd, noslR, noslP, noslB, noslA, List.all_cons, List.all_nil, b_box6]
  | j + 1, hi, h1, h2, h3, h4 => by
    have h5 := h4 0 (by omega)
    have e : hi + ((0 : Nat) : Int) + 1 = hi + 1 := by omega
    rw [e] at h5
    have e3 : hi + ((j + 1 : Nat) : Int) + 1 = hi + 1 + j + 1 := by omega
    have ih := run2b hv h y b j (hi + 1) (by omega) (by omega) (by rw [← e3]; exact h3) (fun i hi' => by
      have := h4 (i + 1) (by omega)
      have e4 : hi + ((i + 1 : Nat) : Int) + 1 = hi + 1 + i + 1 := by omega
      rw [e4] at this; exact this)
    rw [r80_2b, w64 (n := hi + 1) (by omega), c_G1 hv h, h5]
    simp only [bnd_some, ctl_true, ctl_false, ctl_and, ctl_or', ctl_or2, x_toPV, x_toCs, x_toCs2, x_toEs, x_bEs, x_bCs, x_aPV, x_aCs, x_int, x_bool, x_str, x_es, x_esn, nth_0, nth_1, nth_2, nth_3, nth_4, nth_5, nth_6, nth_7, nth_8, nth_9, y_nil, y_int, y_bool, y_str, y_sl, y_nils, y_agg, y_ownp, y_own, z_nil, z_int, z_bool, z_str, z_sl, z_nils, b_nil, b_arr, b_box1, b_box2, b_box3, b_box4, List.map_cons, List.map_nil, Bool.and_self, Bool.and_true, Bool.true_and, Bool.not_true, Bool.not_false, Bool.or_false, Bool.false_or, cond_true, cond_false, okPack, okPut, okPutBlks, okPutCells, q_isP, q_isAg, q_isBox, q_isArr, q_int, q_bool, q_str, q_sl, q_nils, e_exit, e_ret, e_nrm, e_ret_exit, e_exit_ret, e_nrm_exit, e_nrm_ret, e_exit_nrm, e_ret_nrm, Nat.zero_add, Nat.reduceAdd, noslR, noslP, noslB, noslA, List.all_cons, List.all_nil, b_box6]
    rw [ih]
    have e5 : hi + ((j + 1 : Nat) : Int) = hi + 1 + j := by omega
    rw [e5]

/-- What Lateral and Longitudinal give back. -/
def IsLat (t : Thr) (a b : Int) : Prop := if okT t = true then IsRun (fun y => alw t 0 y) a b else a = 0 ∧ b = 0
def IsLon (t : Thr) (y a b : Int) : Prop := if okT t = true ∧ alw t 0 y = true then IsRun (fun x => alw t x y) a b else a = 0 ∧ b = 0
theorem IsLat_uniq {t : Thr} {a b c d : Int} (h : IsLat t a b) (h' : IsLat t c d) : a = c ∧ b = d := by
  unfold IsLat at h h'
  split at h
  · rename_i hc; rw [if_pos hc] at h'; exact IsRun_uniq h h'
  · rename_i hc; rw [if_neg hc] at h'; omega
theorem IsLon_uniq {t : Thr} {y a b c d : Int} (h : IsLon t y a b) (h' : IsLon t y c d) : a = c ∧ b = d := by
  unfold IsLon at h h'
  split at h
  · rename_i hc; rw [if_pos hc] at h'; exact IsRun_uniq h h'
  · rename_i hc; rw [if_neg hc] at h'; omega

/-- The run of a property whose numbers are bounded. -/
theorem run_ex {p : Int → Bool} (h0 : p 0 = true) (hb : ∀ n, p n = true → -5000 ≤ n ∧ n ≤ 5000) :
    ∃ i j : Nat, i ≤ 5000 ∧ j ≤ 5000 ∧ IsRun p (0 - i) (0 + j) ∧ p (0 - i - 1) = false ∧ (∀ k : Nat, k < i → p (0 - k - 1) = true) ∧ p (0 + j + 1) = false ∧ (∀ k : Nat, k < j → p (0 + k + 1) = true) := by
  obtain ⟨i, h1, h2⟩ := run_down p 5000 (fun n hn => (hb n hn).1) 5000 0 (by omega)
  obtain ⟨j, h3, h4⟩ := run_up p 5000 (fun n hn => (hb n hn).2) 5000 0 (by omega)
  have hr := IsRun_of h0 h1 h2 h3 h4
  have hi := hb _ (hr.2.2.1 (-i) (by omega) (by omega))
  have hj := hb _ (hr.2.2.1 j (by omega) (by omega))
  refine ⟨i, j, by omega, by omega, ?_, h1, h2, h3, h4⟩
  have e1 : (0 : Int) - i = -i := by omega
  have e2 : (0 : Int) + j = j := by omega
  rw [e1, e2]; exact hr

theorem c_Lateral {t : Thr} (h : t.fb.length ≤ maxLen) : ∃ a b : Int, denC E 56 [AV.agg (thC t)] [] = some ([RV.p (PV.int .i64 a), RV.p (PV.int .i64 b)], []) ∧ IsLat t a b ∧ -5000 ≤ a ∧ a ≤ 0 ∧ 0 ≤ b ∧ b ≤ 5000 := by
  have hV := c_TValid h
  unfold thC at hV ⊢
  unfold IsLat
  cases hv : okT t with
  | false =>
    refine ⟨0, 0, ?_, ⟨rfl, rfl⟩, by omega⟩
    rw [denC_eq, r56, hV, hv]
    simp only [bnd_some, ctl_true, ctl_false, ctl_and, ctl_or', ctl_or2, x_toPV, x_toCs, x_toCs2, x_toEs, x_bEs, x_bCs, x_aPV, x_aCs, x_int, x_bool, x_str, x_es, x_esn, nth_0, nth_1, nth_2, nth_3, nth_4, nth_5, nth_6, nth_7, nth_8, nth_9, y_nil, y_int, y_bool, y_str, y_sl, y_nils, y_agg, y_ownp, y_own, z_nil, z_int, z_bool, z_str, z_sl, z_nils, b_nil, b_arr, b_box1, b_box2, b_box3, b_box4, List.map_cons, List.map_nil, Bool.and_self, Bool.and_true, Bool.true_and, Bool.not_true, Bool.not_false, Bool.or_false, Bool.false_or, cond_true, cond_false, okPack, okPut, okPutBlks, okPutCells, q_isP, q_isAg, q_isBox, q_isArr, q_int, q_bool, q_str, q_sl, q_nils, e_exit, e_ret, e_nrm, e_ret_exit, e_exit_ret, e_nrm_exit, e_nrm_ret, e_exit_nrm, e_ret_nrm, Nat.zero_add, Nat.reduceAdd, noslR, noslP, noslB, noslA, List.all_cons, List.all_nil, b_box6]
  | true =>
    have hv' := okT0_iff.1 (okT_iff.1 hv).1
    have hz := alw_zero (t := t) (by omega)
    obtain ⟨i, j, hi, hj, hr, h1, h2, h3, h4⟩ := run_ex (p := fun y => alw t 0 y) hz (fun n hn => by have := alw_bounds hn; omega)
    refine ⟨0 - i, 0 + j, ?_, by simpa using hr, by omega⟩
    have hrun : denC E 80 [AV.fn 81 [TV.ptr 0 0]] [thB t] = some ([RV.p (PV.int .i64 (0 - i)), RV.p (PV.int .i64 (0 + j))], [thB t]) := by
      rw [denC_eq, r80a, c_L1 (by omega) h, hz]
      simp only [bnd_some, ctl_true, ctl_false, ctl_and, ctl_or', ctl_or2, x_toPV, x_toCs, x_toCs2, x_toEs, x_bEs, x_bCs, x_aPV, x_aCs, x_int, x_bool, x_str, x_es, x_esn, nth_0, nth_1, nth_2, nth_3, nth_4, nth_5, nth_6, nth_7, nth_8, nth_9, y_nil, y_int, y_bool, y_str, y_sl, y_nils, y_agg, y_ownp, y_own, z_nil, z_int, z_bool, z_str, z_sl, z_nils, b_nil, b_arr, b_box1, b_box2, b_box3, b_box4, List.map_cons, List.map_nil, Bool.and_self, Bool.and_true, Bool.true_and, Bool.not_true, Bool.not_false, Bool.or_false, Bool.false_or, cond_true, cond_false, okPack, okPut, okPutBlks, okPutCells, q_isP, q_isAg, q_isBox, q_isArr, q_int, q_bool, q_str, q_sl, q_nils, e_exit, e_ret, e_nrm, e_ret_exit, e_exit_ret, e_nrm_exit, e_nrm_ret, e_exit_nrm, e_ret_nrm, Nat.zero_add, Nat.reduceAdd, noslR, noslP, noslB, noslA, List.all_cons, List.all_nil, b_box6]
      rw [run0a (by omega) h 0 i 0 (by omega) (by omega) h1 h2]
      simp only [bnd_some, ctl_true, ctl_false, ctl_and, ctl_or', ctl_or2, x_toPV, x_toCs, x_toCs2, x_toEs, x_bEs, x_bCs, x_aPV, x_aCs, x_int, x_bool, x_str, x_es, x_esn, nth_0, nth_1, nth_2, nth_3, nth_4, nth_5, nth_6, nth_7, nth_8, nth_9, y_nil, y_int, y_bool, y_str, y_sl, y_nils, y_agg, y_ownp, y_own, z_nil, z_int, z_bool, z_str, z_sl, z_nils, b_nil, b_arr, b_box1, b_box2, b_box3, b_box4, List.map_cons, List.map_nil, Bool.and_self, Bool.and_true, Bool.true_and, Bool.not_true, Bool.not_false, Bool.or_false, Bool.false_or, cond_true, cond_false, okPack, okPut, okPutBlks, okPutCells, q_isP, q_isAg, q_isBox, q_isArr, q_int, q_bool, q_str, q_sl, q_nils, e_exit, e_ret, e_nrm, e_ret_exit, e_exit_ret, e_nrm_exit, e_nrm_ret, e_exit_nrm, e_ret_nrm, Nat.zero_add, Nat.reduceAdd, noslR, noslP, noslB, noslA, List.all_cons, List.all_nil, b_box6]
      rw [run2a (by omega) h _ j 0 (by omega) (by omega) h3 h4]
      simp only [bnd_some, ctl_true, ctl_false, ctl_and, ctl_or', ctl_or2, x_toPV, x_toCs, x_toCs2, x_toEs, x_bEs, x_bCs, x_aPV, x_aCs, x_int, x_bool, x_str, x_es, x_esn, nth_0, nth_1, nth_2, nth_3, nth_4, nth_5, nth_6, nth_7, nth_8, nth_9, y_nil, y_int, y_bool, y_str, y_sl, y_nils, y_agg, y_ownp, y_own, z_nil, z_int, z_bool, z_str, z_sl, z_nils, b_nil, b_arr, b_box1, b_box2, b_box3, b_box4, List.map_cons, List.map_nil, Bool.and_self, Bool.and_true, Bool.true_and, Bool.not_true, Bool.not_false, Bool.or_false, Bool.false_or, cond_true, cond_false, okPack, okPut, okPutBlks, okPutCells, q_isP, q_isAg, q_isBox, q_isArr, q_int, q_bool, q_str, q_sl, q_nils, e_exit, e_ret, e_nrm, e_ret_exit, e_exit_ret, e_nrm_exit, e_nrm_ret, e_exit_nrm, e_ret_nrm, Nat.zero_add, Nat.reduceAdd, noslR, noslP, noslB, noslA, List.all_cons, List.all_nil, b_box6]
    rw [denC_eq, r56, hV, hv]
    simp only [bnd_some, ctl_true, ctl_false, ctl_and, ctl_or', ctl_or2, x_toPV, x_toCs, x_toCs2, x_toEs, x_bEs, x_bCs, x_aPV, x_aCs, x_int, x_bool, x_str, x_es, x_esn, nth_0, nth_1, nth_2, nth_3, nth_4, nth_5, nth_6, nth_7, nth_8, nth_9, y_nil, y_int, y_bool, y_str, y_sl, y_nils, y_agg, y_ownp, y_own, z_nil, z_int, z_bool, z_str, z_sl, z_nils, b_nil, b_arr, b_box1, b_box2, b_box3, b_box4, List.map_cons, List.map_nil, Bool.and_self, Bool.and_true, Bool.true_and, Bool.not_true, Bool.not_false, Bool.or_false, Bool.false_or, cond_true, cond_false, okPack, okPut, okPutBlks, okPutCells, q_isP, q_isAg, q_isBox, q_isArr, q_int, q_bool, q_str, q_sl, q_nils, e_exit, e_ret, e_nrm, e_ret_exit, e_exit_ret, e_nrm_exit, e_nrm_ret, e_exit_nrm, e_ret_nrm, Nat.zero_add, Nat.reduceAdd, noslR, noslP, noslB, noslA, List.all_cons, List.all_nil, b_box6]
    rw [hrun]
    simp only [bnd_some, ctl_true, ctl_false, ctl_and, ctl_or', ctl_or2, x_toPV, x_toCs, x_toCs2, x_toEs, x_bEs, x_bCs, x_aPV, x_aCs, x_int, x_bool, x_str, x_es, x_esn, nth_0, nth_1, nth_2, nth_3, nth_4, nth_5, nth_6, nth_7, nth_8, nth_9, y_nil, y_int, y_bool, y_str, y_sl, y_nils, y_agg, y_ownp, y_own, z_nil, z_int, z_bool, z_str, z_sl, z_nils, b_nil, b_arr, b_box1, b_box2, b_box3, b_box4, List.map_cons, List.map_nil, Bool.and_self, Bool.and_true, Bool.true_and, Bool.not_true, Bool.not_false, Bool.or_false, Bool.false_or, cond_true, cond_false, okPack, okPut, okPutBlks, okPutCells, q_isP, q_isAg, q_isBox, q_isArr, q_int, q_bool, q_str, q_sl, q_nils, e_exit, e_ret, e_nrm, e_ret_exit, e_exit_ret, e_nrm_exit, e_nrm_ret, e_exit_nrm, e_ret_nrm, Nat.zero_add, Nat.reduceAdd, noslR, noslP, noslB, noslA, List.all_cons, List.all_nil, b_box6]

theorem c_Longitudinal {t : Thr} (h : t.fb.length ≤ maxLen) (y : Int) : ∃ a b : Int, denC E 59 [AV.agg (thC t), AV.int .i64 y] [] = some ([RV.p (PV.int .i64 a), RV.p (PV.int .i64 b)], []) ∧ IsLon t y a b ∧ -5000 ≤ a ∧ a ≤ 0 ∧ 0 ≤ b ∧ b ≤ 5000 := by
  have hV := c_TValid h
  unfold thC at hV ⊢
  unfold IsLon
  cases hv : okT t with
  | false =>
    refine ⟨0, 0, ?_, by simp, by omega⟩
    rw [denC_eq, r59, hV, hv]
    simp only [bnd_some, ctl_true, ctl_false, ctl_and, ctl_or', ctl_or2, x_toPV, x_toCs, x_toCs2, x_toEs, x_bEs, x_bCs, x_aPV, x_aCs, x_int, x_bool, x_str, x_es, x_esn, nth_0, nth_1, nth_2, nth_3, nth_4, nth_5, nth_6, nth_7, nth_8, nth_9, y_nil, y_int, y_bool, y_str, y_sl, y_nils, y_agg, y_ownp, y_own, z_nil, z_int, z_bool, z_str, z_sl, z_nils, b_nil, b_arr, b_box1, b_box2, b_box3, b_box4, List.map_cons, List.map_nil, Bool.and_self, Bool.and_true, Bool.true_and, Bool.not_true, Bool.not_false, Bool.or_false, Bool.false_or, cond_true, cond_false, okPack, okPut, okPutBlks, okPutCells, q_isP, q_isAg, q_isBox, q_isArr, q_int, q_bool, q_str, q_sl, q_nils, e_exit, e_ret, e_nrm, e_ret_exit, e_exit_ret, e_nrm_exit, e_nrm_ret, e_exit_nrm, e_ret_nrm, Nat.zero_add, Nat.reduceAdd, noslR, noslP, noslB, noslA, List.all_cons, List.all_nil, b_box6]
  | true =>
    have hv' := okT0_iff.1 (okT_iff.1 hv).1
    cases hz : alw t 0 y with
    | false =>
      refine ⟨0, 0, ?_, by simp, by omega⟩
      have hrun : denC E 80 [AV.fn 84 [TV.ptr 0 0, TV.ptr 1 0]] [thB t, Blk.box [AV.int .i64 y]] = some ([RV.p (PV.int .i64 0), RV.p (PV.int .i64 0)], [thB t, Blk.box [AV.int .i64 y]]) := by
        rw [denC_eq, r80b, c_G1 (by omega) h, hz]
        simp only [bnd_some, ctl_true, ctl_false, ctl_and, ctl_or', ctl_or2, x_toPV, x_toCs, x_toCs2, x_toEs, x_bEs, x_bCs, x_aPV, x_aCs, x_int, x_bool, x_str, x_es, x_esn, nth_0, nth_1, nth_2, nth_3, nth_4, nth_5, nth_6, nth_7, nth_8, nth_9, y_nil, y_int, y_bool, y_str, y_sl, y_nils, y_agg, y_ownp, y_own, z_nil, z_int, z_bool, z_str, z_sl, z_nils, b_nil, b_arr, b_box1, b_box2, b_box3, b_box4, List.map_cons, List.map_nil, Bool.and_self, Bool.and_true, Bool.true_and, Bool.not_true, Bool.not_false, Bool.or_false, Bool.false_or, cond_true, cond_false, okPack, okPut, okPutBlks, okPutCells, q_isP, q_isAg, q_isBox, q_isArr, q_int, q_bool, q_str, q_sl, q_nils, e_exit, e_ret, e_nrm, e_ret_exit, e_exit_ret, e_nrm_exit, e_nrm_ret, e_exit_nrm, e_ret_nrm, Nat.zero_add, Nat.reduceAdd, noslR, noslP, noslB, noslA, List.all_cons, List.all_nil, b_box6]
      rw [denC_eq, r59, hV, hv]
      simp only [bnd_some, ctl_true, ctl_false, ctl_and, ctl_or', ctl_or2, x_toPV, x_toCs, x_toCs2, x_toEs, x_bEs, x_bCs, x_aPV, x_aCs, x_int, x_bool, x_str, x_es, x_esn, nth_0, nth_1, nth_2, nth_3, nth_4, nth_5, nth_6, nth_7, nth_8, nth_9, y_nil, y_int, y_bool, y_str, y_sl, y_nils, y_agg, y_ownp, y_own, z_nil, z_int, z_bool, z_str, z_sl, z_nils, b_nil, b_arr, b_box1, b_box2, b_box3, b_box4, List.map_cons, List.map_nil, Bool.and_self, Bool.and_true, Bool.true_and, Bool.not_true, Bool.not_false, Bool.or_false, Bool.false_or, cond_true, cond_false, okPack, okPut, okPutBlks, okPutCells, q_isP, q_isAg, q_isBox, q_isArr, q_int, q_bool, q_str, q_sl, q_nils, e_exit, e_ret, e_nrm, e_ret_exit, e_exit_ret, e_nrm_exit, e_nrm_ret, e_exit_nrm, e_ret_nrm, Nat.zero_add, Nat.reduceAdd, noslR, noslP, noslB, noslA, List.all_cons, List.all_nil, b_box6]
      rw [hrun]
      simp only [bnd_some, ctl_true, ctl_false, ctl_and, ctl_or', ctl_or2, x_toPV, x_toCs, x_toCs2, x_toEs, x_bEs, x_bCs, x_aPV, x_aCs, x_int, x_bool, x_str, x_es, x_esn, nth_0, nth_1, nth_2, nth_3, nth_4, nth_5, nth_6, nth_7, nth_8, nth_9, y_nil, y_int, y_bool, y_str, y_sl, y_nils, y_agg, y_ownp, y_own, z_nil, z_int, z_bool, z_str, z_sl, z_nils, b_nil, b_arr, b_box1, b_box2, b_box3, b_box4, List.map_cons, List.map_nil, Bool.and_self, Bool.and_true, Bool.true_and, Bool.not_true, Bool.not_false, Bool.or_false, Bool.false_or, cond_true, cond_false, okPack, okPut, okPutBlks, okPutCells, q_isP, q_isAg, q_isBox, q_isArr, q_int, q_bool, q_str, q_sl, q_nils, e_exit, e_ret, e_nrm, e_ret_exit, e_exit_ret, e_nrm_exit, e_nrm_ret, e_exit_nrm, e_ret_nrm, Nat.zero_add, Nat.reduceAdd, noslR, noslP, noslB, noslA, List.all_cons, List.all_nil, b_box6]
    | true =>
      obtain ⟨i, j, hi, hj, hr, h1, h2, h3, h4⟩ := run_ex (p := fun x => alw t x y) hz (fun n hn => by have := alw_bounds hn; omega)
      refine ⟨0 - i, 0 + j, ?_, by simpa using hr, by omega⟩
      have hrun : denC E 80 [AV.fn 84 [TV.ptr 0 0, TV.ptr 1 0]] [thB t, Blk.box [AV.int .i64 y]] = some ([RV.p (PV.int .i64 (0 - i)), RV.p (PV.int .i64 (0 + j))], [thB t, Blk.box [AV.int .i64 y]]) := by
        rw [denC_eq, r80b, c_G1 (by omega) h, hz]
        simp only [bnd_some, ctl_true, ctl_false, ctl_and, ctl_or', ctl_or2, x_toPV, x_toCs, x_toCs2, x_toEs, x_bEs, x_bCs, x_aPV, x_aCs, x_int, x_bool, x_str, x_es, x_esn, nth_0, nth_1, nth_2, nth_3, nth_4, nth_5, nth_6, nth_7, nth_8, nth_9, y_nil, y_int, y_bool, y_str, y_sl, y_nils, y_agg, y_ownp, y_own, z_nil, z_int, z_bool, z_str, z_sl, z_nils, b_nil, b_arr, b_box1, b_box2, b_box3, b_box4, List.map_cons, List.map_nil, Bool.and_self, Bool.and_true, Bool.true_and, Bool.not_true, Bool.not_false, Bool.or_false, Bool.false_or, cond_true, cond_false, okPack, okPut, okPutBlks, okPutCells, q_isP, q_isAg, q_isBox, q_isArr, q_int, q_bool, q_str, q_sl, q_nils, e_exit, e_ret, e_nrm, e_ret_exit, e_exit_ret, e_nrm_exit, e_nrm_ret, e_exit_nrm, e_ret_nrm, Nat.zero_add, Nat.reduceAdd, noslR, noslP, noslB, noslA, List.all_cons, List.all_nil, b_box6]
        rw [run0b (by omega) h y 0 i 0 (by omega) (by omega) h1 h2]
        simp only [bnd_some, ctl_true, ctl_false, ctl_and, ctl_or', ctl_or2, x_toPV, x_toCs, x_toCs2, x_toEs, x_bEs, x_bCs, x_aPV, x_aCs, x_int, x_bool, x_str, x_es, x_esn, nth_0, nth_1, nth_2, nth_3, nth_4, nth_5, nth_6, nth_7, nth_8, nth_9, y_nil, y_int, y_bool, y_str, y_sl, y_nils, y_agg, y_ownp, y_own, z_nil, z_int, z_bool, z_str, z_sl, z_nils, b_nil, b_arr, b_box1, b_box2, b_box3, b_box4, List.map_cons, List.map_nil, Bool.and_self, Bool.and_true, Bool.true_and, Bool.not_true, Bool.not_false, Bool.or_false, Bool.false_or, cond_true, cond_false, okPack, okPut, okPutBlks, okPutCells, q_isP, q_isAg, q_isBox, q_isArr, q_int, q_bool, q_str, q_sl, q_nils, e_exit, e_ret, e_nrm, e_ret_exit, e_exit_ret, e_nrm_exit, e_nrm_ret, e_exit_nrm, e_ret_nrm, Nat.zero_add, Nat.reduceAdd, noslR, noslP, noslB, noslA, List.all_cons, List.all_nil, b_box6]
        rw [run2b (by omega) h y _ j 0 (by omega) (by omega) h3 h4]
        simp only [bnd_some, ctl_true, ctl_false, ctl_and, ctl_or', ctl_or2, x_toPV, x_toCs, x_toCs2, x_toEs, x_bEs, x_bCs, x_aPV, x_aCs, x_int, x_bool, x_str, x_es, x_esn, nth_0, nth_1, nth_2, nth_3, nth_4, nth_5, nth_6, nth_7, nth_8, nth_9, y_nil, y_int, y_bool, y_str, y_sl, y_nils, y_agg, y_ownp, y_own, z_nil, z_int, z_bool, z_str, z_sl, z_nils, b_nil, b_arr, b_box1, b_box2, b_box3, b_box4, List.map_cons, List.map_nil, Bool.and_self, Bool.and_true, Bool.true_and, Bool.not_true, Bool.not_false, Bool.or_false, Bool.false_or, cond_true, cond_false, okPack, okPut, okPutBlks, okPutCells, q_isP, q_isAg, q_isBox, q_isArr, q_int, q_bool, q_str, q_sl, q_nils, e_exit, e_ret, e_nrm, e_ret_exit, e_exit_ret, e_nrm_exit, e_nrm_ret, e_exit_nrm, e_ret_nrm, Nat.zero_add, Nat.reduceAdd, noslR, noslP, noslB, noslA, List.all_cons, List.all_nil, b_box6]
      rw [denC_eq, r59, hV, hv]
      simp only [bnd_some, ctl_true, ctl_false, ctl_and, ctl_or', ctl_or2, x_toPV, x_toCs, x_toCs2, x_toEs, x_bEs, x_bCs, x_aPV, x_aCs, x_int, x_bool, x_str, x_es, x_esn, nth_0, nth_1, nth_2, nth_3, nth_4, nth_5, nth_6, nth_7, nth_8, nth_9, y_nil, y_int, y_bool, y_str, y_sl, y_nils, y_agg, y_ownp, y_own, z_nil, z_int, z_bool, z_str, z_sl, z_nils, b_nil, b_arr, b_box1, b_box2, b_box3, b_box4, List.map_cons, List.map_nil, Bool.and_self, Bool.and_true, Bool.true_and, Bool.not_true, Bool.not_false, Bool.or_false, Bool.false_or, cond_true, cond_false, okPack, okPut, okPutBlks, okPutCells, q_isP, q_isAg, q_isBox, q_isArr, q_int, q_bool, q_str, q_sl, q_nils, e_exit, e_ret, e_nrm, e_ret_exit, e_exit_ret, e_nrm_exit, e_nrm_ret, e_exit_nrm, e_ret_nrm, Nat.zero_add, Nat.reduceAdd, noslR, noslP, noslB, noslA, List.all_cons, List.all_nil, b_box6]
      rw [hrun]
      simp only [bnd_some, ctl_true, ctl_false, ctl_and, ctl_or', ctl_or2, x_toPV, x_toCs, x_toCs2, x_toEs, x_bEs, x_bCs, x_aPV, x_aCs, x_int, x_bool, x_str, x_es, x_esn, nth_0, nth_1, nth_2, nth_3, nth_4, nth_5, nth_6, nth_7, nth_8, nth_9, y_nil, y_int, y_bool, y_str, y_sl, y_nils, y_agg, y_ownp, y_own, z_nil, z_int, z_bool, z_str, z_sl, z_nils, b_nil, b_arr, b_box1, b_box2, b_box3, b_box4, List.map_cons, List.map_nil, Bool.and_self, Bool.and_true, Bool.true_and, Bool.not_true, Bool.not_false, Bool.or_false, Bool.false_or, cond_true, cond_false, okPack, okPut, okPutBlks, okPutCells, q_isP, q_isAg, q_isBox, q_isArr, q_int, q_bool, q_str, q_sl, q_nils, e_exit, e_ret, e_nrm, e_ret_exit, e_exit_ret, e_nrm_exit, e_nrm_ret, e_exit_nrm, e_ret_nrm, Nat.zero_add, Nat.reduceAdd, noslR, noslP, noslB, noslA, List.all_cons, List.all_nil, b_box6]

end Go.Proofs.Ytcnjaffogkkpnaa.Vm
