/- Contracts of the functions that say what a force costs and what power permits. -/
import Derived.Test.YtcnjaffogkkpnaaSectorS
namespace Go.Proofs.Ytcnjaffogkkpnaa.Vm
set_option linter.unusedVariables false
set_option linter.unusedSimpArgs false

def smallT (x y : Int) : Bool := decide (-5000 ≤ x ∧ x ≤ 5000 ∧ -5000 ≤ y ∧ y ≤ 5000)
theorem smallT_iff {x y : Int} : smallT x y = true ↔ -5000 ≤ x ∧ x ≤ 5000 ∧ -5000 ≤ y ∧ y ≤ 5000 := by unfold smallT; simp

theorem c_tsmall (x y : Int) : denC E 61 [AV.agg [PV.int .i64 x, PV.int .i64 y]] [] = some ([RV.p (PV.bool (smallT x y))], []) := by
  rw [denC_eq, r61]
  simp only [bnd_some, ctl_true, ctl_false, ctl_and, ctl_or', ctl_or2, x_toPV, x_toCs, x_toCs2, x_toEs, x_bEs, x_bCs, x_aPV, x_aCs, x_int, x_bool, x_str, x_es, x_esn, nth_0, nth_1, nth_2, nth_3, nth_4, nth_5, nth_6, nth_7, nth_8, nth_9, y_nil, y_int, y_bool, y_str, y_sl, y_nils, y_agg, y_ownp, y_own, z_nil, z_int, z_bool, z_str, z_sl, z_nils, b_nil, b_arr, b_box1, b_box2, b_box3, b_box4, List.map_cons, List.map_nil, Bool.and_self, Bool.and_true, Bool.true_and, Bool.not_true, Bool.not_false, Bool.or_false, Bool.false_or, cond_true, cond_false, okPack, okPut, okPutBlks, okPutCells, q_isP, q_isAg, q_isBox, q_isArr, q_int, q_bool, q_str, q_sl, q_nils, e_exit, e_ret, e_nrm, e_ret_exit, e_exit_ret, e_nrm_exit, e_nrm_ret, e_exit_nrm, e_ret_nrm, Nat.zero_add, Nat.reduceAdd, noslR, noslP, noslB, noslA, List.all_cons, List.all_nil]
  have : (leB (maxI y x) 5000 && leB (-5000) (minI y x)) = smallT x y := by
    rw [Bool.eq_iff_iff, smallT_iff]
    unfold maxI minI
    simp only [Bool.and_eq_true, decide_eq_true_eq]
    split <;> split <;> omega
  rw [this]

/-! ### Rounded up -/
def up (n d : Int) : Int := -((-n) / d)
theorem up_le {n d p : Int} (hd : 0 < d) : up n d ≤ p ↔ n ≤ p * d := by
  unfold up
  have h := Int.le_ediv_iff_mul_le (a := -p) (b := -n) hd
  rw [Int.neg_mul] at h
  omega
theorem up_mono {n m d : Int} (hd : 0 < d) (h : n ≤ m) : up n d ≤ up m d := (up_le hd).2 (Int.le_trans h ((up_le hd).1 (Int.le_refl _)))
theorem up_nonneg {n d : Int} (hd : 0 < d) (h : 0 ≤ n) : 0 ≤ up n d := by
  unfold up
  have : (-n) / d ≤ 0 := by
    rcases Int.lt_or_le 0 ((-n) / d) with h1 | h1
    · have h2 : (1 : Int) ≤ (-n) / d := h1
      rw [Int.le_ediv_iff_mul_le hd] at h2
      omega
    · exact h1
  omega

/-! ### Power -/
def pw (t : Thr) (x y : Int) : Int := (x * x + y * y) * t.ct
def powV (t : Thr) (x y : Int) : Int := if okT t = true ∧ smallT x y = true then up (pw t x y) 1000 else 0
def powE (t : Thr) (x y : Int) : Int := if okT t = true ∧ smallT x y = true then 0 else 1

theorem pw_bounds {t : Thr} {x y : Int} (h : 1 ≤ t.ct ∧ t.ct ≤ 100) (hs : smallT x y = true) : 0 ≤ x * x + y * y ∧ x * x + y * y ≤ 50000000 ∧ 0 ≤ pw t x y ∧ pw t x y ≤ 5000000000 := by
  have hs := smallT_iff.1 hs
  have s1 := sq_le (a := x) (m := 5000) (by omega)
  have s2 := sq_le (a := y) (m := 5000) (by omega)
  have h1 : 0 ≤ (x * x + y * y) * t.ct := Int.mul_nonneg (by omega) (by omega)
  have h2 : (x * x + y * y) * t.ct ≤ 50000000 * t.ct := Int.mul_le_mul_of_nonneg_right (by omega) (by omega)
  unfold pw
  omega

/-! ### Most -/
def IsMost (t : Thr) (p m : Int) : Prop := 0 ≤ m ∧ m ≤ t.mx ∧ m * m * t.ct ≤ 1000 * p ∧ (m = t.mx ∨ 1000 * p < (m + 1) * (m + 1) * t.ct)

theorem IsMost_mono {t t' : Thr} {p p' m m' : Int} (hc : 1 ≤ t.ct) (h1 : t'.mx ≤ t.mx) (h2 : t.ct ≤ t'.ct) (h3 : p' ≤ p) (h : IsMost t p m) (h' : IsMost t' p' m') : m' ≤ m := by
  obtain ⟨a1, a2, a3, a4⟩ := h
  obtain ⟨b1, b2, b3, b4⟩ := h'
  rcases Int.lt_or_le m m' with hl | hl
  · rcases a4 with a4 | a4
    · omega
    · have e1 : (m + 1) * (m + 1) ≤ m' * m' := Int.mul_le_mul (by omega) (by omega) (by omega) (by omega)
      have e2 : (m + 1) * (m + 1) * t.ct ≤ m' * m' * t'.ct := Int.mul_le_mul e1 h2 (by omega) (Int.mul_nonneg b1 b1)
      omega
  · exact hl

/-! ### With -/
theorem rCl_nil (F : Fun) : funK E F 95 [AV.sl 2 []] [] = both (some ([RV.p (PV.sl 2 [])], [])) (some ([RV.p (PV.sl 2 [])], [])) := by kernel_rfl
theorem rCl_cons (F : Fun) (e : List PV) (l : List (List PV)) : funK E F 95 [AV.sl 2 (e :: l)] [] = ctl (leN ((0 + (e :: l).length) * 16) 140737488355328) (some ([RV.p (PV.sl 2 ([] ++ e :: l))], [])) none := by kernel_rfl

theorem c_Clone {l : List (Int × Int)} (h : l.length ≤ 1000) : denC E 95 [AV.sl 2 (arcK l)] [] = some ([RV.p (PV.sl 2 (arcK l))], []) := by
  rw [denC_eq]
  cases l with
  | nil =>
    have : arcK [] = [] := rfl
    rw [this, rCl_nil, both_same]
  | cons a l =>
    have : arcK (a :: l) = arcC a :: arcK l := rfl
    rw [this, rCl_cons, List.nil_append, Nat.zero_add]
    have e : leN ((arcC a :: arcK l).length * 16) 140737488355328 = true := by
      simp only [List.length_cons, arcK_length, decide_eq_true_eq] at h ⊢
      omega
    rw [e, ctl_true]

def withT (t : Thr) (m : Int) : Thr := { t with mx := minI (maxI 0 m) t.mx }
theorem c_With {t : Thr} (h : t.fb.length ≤ 1000) (m : Int) : denC E 77 [AV.agg (thC t), AV.int .i64 m] [] = some ([RV.agg (thC (withT t m))], []) := by
  unfold thC
  rw [denC_eq, r77, c_Clone h]
  simp only [bnd_some, ctl_true, ctl_false, ctl_and, ctl_or', ctl_or2, x_toPV, x_toCs, x_toCs2, x_toEs, x_bEs, x_bCs, x_aPV, x_aCs, x_int, x_bool, x_str, x_es, x_esn, nth_0, nth_1, nth_2, nth_3, nth_4, nth_5, nth_6, nth_7, nth_8, nth_9, y_nil, y_int, y_bool, y_str, y_sl, y_nils, y_agg, y_ownp, y_own, z_nil, z_int, z_bool, z_str, z_sl, z_nils, b_nil, b_arr, b_box1, b_box2, b_box3, b_box4, List.map_cons, List.map_nil, Bool.and_self, Bool.and_true, Bool.true_and, Bool.not_true, Bool.not_false, Bool.or_false, Bool.false_or, cond_true, cond_false, okPack, okPut, okPutBlks, okPutCells, q_isP, q_isAg, q_isBox, q_isArr, q_int, q_bool, q_str, q_sl, q_nils, e_exit, e_ret, e_nrm, e_ret_exit, e_exit_ret, e_nrm_exit, e_nrm_ret, e_exit_nrm, e_ret_nrm, Nat.zero_add, Nat.reduceAdd, noslR, noslP, noslB, noslA, List.all_cons, List.all_nil]
  rfl
theorem withT_mx {t : Thr} (h : 0 ≤ t.mx) (m : Int) : 0 ≤ (withT t m).mx ∧ (withT t m).mx ≤ t.mx := by
  unfold withT minI maxI
  simp only
  split <;> split <;> omega
theorem withT_ok {t : Thr} (h : okT t = true) (m : Int) : okT (withT t m) = true := by
  have h0 := okT0_iff.1 (okT_iff.1 h).1
  have h1 := withT_mx (t := t) (by omega) m
  refine okT_iff.2 ⟨okT0_iff.2 ?_, (okT_iff.1 h).2⟩
  have e1 : (withT t m).kd = t.kd := rfl
  have e2 : (withT t m).st = t.st := rfl
  have e3 : (withT t m).rt = t.rt := rfl
  have e4 : (withT t m).ct = t.ct := rfl
  have e5 : (withT t m).fb = t.fb := rfl
  rw [e1, e2, e3, e4, e5]
  omega

end Go.Proofs.Ytcnjaffogkkpnaa.Vm
