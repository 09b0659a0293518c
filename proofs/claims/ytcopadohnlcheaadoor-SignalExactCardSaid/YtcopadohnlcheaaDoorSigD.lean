/- Contracts of chapter 06: signals, their sentences. -/
import Derived.Test.YtcopadohnlcheaaDoorSigC
namespace Go.Proofs.YtcopadohnlcheaaDoor.Vm
set_option linter.unusedVariables false
set_option linter.unusedSimpArgs false

structure Sig where
  (k s t a b c : Int)
deriving DecidableEq
abbrev sgC (x : Sig) : List PV := [PV.int .i64 x.k, PV.int .i64 x.s, PV.int .i64 x.t, PV.int .i64 x.a, PV.int .i64 x.b, PV.int .i64 x.c]

def formL : List (List UInt8 × List (Int × Int)) := [([70, 73, 88], [(-100000000, 100000000), (-100000000, 100000000), (1, 100000)]), ([72, 68, 71], [(0, 3599)]), ([87, 78, 68], [(0, 3599), (0, 10000)]),
  ([84, 72, 82], [(0, 5000), (0, 3599)]), ([66, 82, 75], [(0, 1)]), ([71, 69, 78], [(0, 50000), (0, 6000), (0, 3599)])]
def spK (l : List (Int × Int)) : List (List PV) := l.map fun p => [PV.int .i64 p.1, PV.int .i64 p.2]
def formK : List (List PV) := formL.map fun f => [PV.str f.1, PV.sl 2 (spK f.2)]
def formAt (k : Int) : List UInt8 × List (Int × Int) := formL.getD (k - 1).toNat ([], [])
theorem c_forms : denC E 33 [] [] = some ([RV.p (PV.sl 2 formK)], []) := by
  rw [denC_eq, r33]; rfl

def inR (x lo hi : Int) : Bool := leB lo x && leB x hi
theorem c_has (lo hi n : Int) : denC E 34 [AV.agg [PV.int .i64 lo, PV.int .i64 hi], AV.int .i64 n] [] = some ([RV.p (PV.bool (inR n lo hi))], []) := by
  rw [denC_eq, r34]
  simp only [bnd_some, ctl_true, ctl_false, ctl_and, ctl_or', ctl_or2, x_toPV, x_toCs, x_toCs2, x_toEs, x_bEs, x_bCs, x_aPV, x_aCs, x_int, x_bool, x_str, x_es, x_esn, nth_0, nth_1, nth_2, nth_3, nth_4, nth_5, nth_6, nth_7, nth_8, nth_9, y_nil, y_int, y_bool, y_str, y_sl, y_nils, y_agg, y_ownp, y_own, z_nil, z_int, z_bool, z_str, z_sl, z_nils, b_nil, b_arr, b_box1, b_box2, b_box3, b_box4, List.map_cons, List.map_nil, Bool.and_self, Bool.and_true, Bool.true_and, Bool.not_true, Bool.not_false, Bool.or_false, Bool.false_or, cond_true, cond_false, okPack, okPut, okPutBlks, okPutCells, q_isP, q_isAg, q_isBox, q_isArr, q_int, q_bool, q_str, q_sl, q_nils, e_exit, e_ret, e_nrm, e_ret_exit, e_exit_ret, e_nrm_exit, e_nrm_ret, e_exit_nrm, e_ret_nrm, Nat.zero_add, Nat.reduceAdd, noslR, noslP, noslB, noslA, List.all_cons, List.all_nil]
  rfl
theorem c_within (x lo hi : Int) : denC E 35 [AV.int .i64 x, AV.int .i64 lo, AV.int .i64 hi] [] = some ([RV.p (PV.bool (inR x lo hi))], []) := by
  rw [denC_eq, r35]
  simp only [bnd_some, ctl_true, ctl_false, ctl_and, ctl_or', ctl_or2, x_toPV, x_toCs, x_toCs2, x_toEs, x_bEs, x_bCs, x_aPV, x_aCs, x_int, x_bool, x_str, x_es, x_esn, nth_0, nth_1, nth_2, nth_3, nth_4, nth_5, nth_6, nth_7, nth_8, nth_9, y_nil, y_int, y_bool, y_str, y_sl, y_nils, y_agg, y_ownp, y_own, z_nil, z_int, z_bool, z_str, z_sl, z_nils, b_nil, b_arr, b_box1, b_box2, b_box3, b_box4, List.map_cons, List.map_nil, Bool.and_self, Bool.and_true, Bool.true_and, Bool.not_true, Bool.not_false, Bool.or_false, Bool.false_or, cond_true, cond_false, okPack, okPut, okPutBlks, okPutCells, q_isP, q_isAg, q_isBox, q_isArr, q_int, q_bool, q_str, q_sl, q_nils, e_exit, e_ret, e_nrm, e_ret_exit, e_exit_ret, e_nrm_exit, e_nrm_ret, e_exit_nrm, e_ret_nrm, Nat.zero_add, Nat.reduceAdd, noslR, noslP, noslB, noslA, List.all_cons, List.all_nil]
  rfl

theorem k6 {k : Int} (h : 1 ≤ k ∧ k ≤ 6) : k = 1 ∨ k = 2 ∨ k = 3 ∨ k = 4 ∨ k = 5 ∨ k = 6 := by omega
theorem c_name {k : Int} (h : 1 ≤ k ∧ k ≤ 6) : denC E 31 [AV.int .i64 k] [] = some ([RV.p (PV.str (formAt k).1)], []) := by
  rw [denC_eq, r31]
  rcases k6 h with rfl | rfl | rfl | rfl | rfl | rfl <;> rfl
theorem c_count {k : Int} (h : 1 ≤ k ∧ k ≤ 6) : denC E 32 [AV.int .i64 k] [] = some ([RV.p (PV.int .i64 ((formAt k).2.length : Int))], []) := by
  rw [denC_eq, r32]
  rcases k6 h with rfl | rfl | rfl | rfl | rfl | rfl <;> rfl
theorem n3 {k : Int} (h : 1 ≤ k ∧ k ≤ 6) : (formAt k).2.length = 1 ∨ (formAt k).2.length = 2 ∨ (formAt k).2.length = 3 := by
  rcases k6 h with rfl | rfl | rfl | rfl | rfl | rfl <;> decide

def okAt (sp : List (Int × Int)) (j : Nat) (v : Int) : Bool := match sp[j]? with | some p => inR v p.1 p.2 | none => v == 0
def valS (x : Sig) : Bool := inR x.k 1 6 && inR x.s 0 99 && inR x.t 0 2147483648 && okAt (formAt x.k).2 0 x.a && okAt (formAt x.k).2 1 x.b && okAt (formAt x.k).2 2 x.c

theorem getE_form {α : Type} {k : Int} (h : 1 ≤ k ∧ k ≤ 6) (K : List PV → Option α) : getE formK (IntKind.i64.wrap (k - 1)) K = K [PV.str (formAt k).1, PV.sl 2 (spK (formAt k).2)] := by
  rcases k6 h with rfl | rfl | rfl | rfl | rfl | rfl <;> rfl
theorem getE_sp {α : Type} {sp : List (Int × Int)} {j : Nat} (h : j < sp.length) (K : List PV → Option α) : getE (spK sp) (j : Int) K = K [PV.int .i64 sp[j].1, PV.int .i64 sp[j].2] := by
  unfold getE
  have h1 : leB 0 (j : Int) = true := decide_eq_true (by omega)
  have h2 : ltB (j : Int) ((spK sp).length : Int) = true := decide_eq_true (by simp [spK]; exact h)
  rw [h1, h2]
  simp only [Bool.and_self, ctl_true, Int.toNat_natCast]
  rw [nth_eq]
  simp [spK, List.getD, h]

theorem s_Valid (sp : List (Int × Int)) (va vb vc : Int) (j : Nat) (hj : j < 3) (v : Int) (hg : ∀ K : List PV → Option (Ex × Pack), getE [[PV.int IntKind.i64 va], [PV.int IntKind.i64 vb], [PV.int IntKind.i64 vc]] (j : Int) K = K [PV.int .i64 v]) :
    lp E (denC E) 13 0 [] 0 { vals := [AV.sl 2 (spK sp), AV.sl 1 [[PV.int IntKind.i64 va], [PV.int IntKind.i64 vb], [PV.int IntKind.i64 vc]], AV.int .i64 3, AV.int .i64 (j : Int)], blks := [] } =
    bif okAt sp j v then lp E (denC E) 13 0 [] 0 { vals := [AV.sl 2 (spK sp), AV.sl 1 [[PV.int IntKind.i64 va], [PV.int IntKind.i64 vb], [PV.int IntKind.i64 vc]], AV.int .i64 3, AV.int .i64 ((j : Int) + 1)], blks := [] }
    else some (Ex.ret, { vals := [AV.bool false], blks := [] }) := by
  have hsl : ((spK sp).length : Int) = (sp.length : Int) := by simp [spK]
  rw [r13_0, ctl_dec, if_pos (by omega), hg, w64 (by omega), hsl]
  simp only [bnd_some, ctl_true, ctl_false, ctl_and, ctl_or', ctl_or2, x_toPV, x_toCs, x_toCs2, x_toEs, x_bEs, x_bCs, x_aPV, x_aCs, x_int, x_bool, x_str, x_es, x_esn, nth_0, nth_1, nth_2, nth_3, nth_4, nth_5, nth_6, nth_7, nth_8, nth_9, y_nil, y_int, y_bool, y_str, y_sl, y_nils, y_agg, y_ownp, y_own, z_nil, z_int, z_bool, z_str, z_sl, z_nils, b_nil, b_arr, b_box1, b_box2, b_box3, b_box4, List.map_cons, List.map_nil, Bool.and_self, Bool.and_true, Bool.true_and, Bool.not_true, Bool.not_false, Bool.or_false, Bool.false_or, cond_true, cond_false, okPack, okPut, okPutBlks, okPutCells, q_isP, q_isAg, q_isBox, q_isArr, q_int, q_bool, q_str, q_sl, q_nils, e_exit, e_ret, e_nrm, e_ret_exit, e_exit_ret, e_nrm_exit, e_nrm_ret, e_exit_nrm, e_ret_nrm, Nat.zero_add, Nat.reduceAdd, noslR, noslP, noslB, noslA, List.all_cons, List.all_nil]
  unfold okAt
  by_cases h : j < sp.length
  · have e1 : ltB (j : Int) (sp.length : Int) = true := decide_eq_true (by omega)
    have e2 : leB (sp.length : Int) (j : Int) = false := decide_eq_false (by omega)
    rw [e1, e2, getE_sp h, List.getElem?_eq_getElem h]
    simp only [bnd_some, ctl_true, ctl_false, ctl_and, ctl_or', ctl_or2, x_toPV, x_toCs, x_toCs2, x_toEs, x_bEs, x_bCs, x_aPV, x_aCs, x_int, x_bool, x_str, x_es, x_esn, nth_0, nth_1, nth_2, nth_3, nth_4, nth_5, nth_6, nth_7, nth_8, nth_9, y_nil, y_int, y_bool, y_str, y_sl, y_nils, y_agg, y_ownp, y_own, z_nil, z_int, z_bool, z_str, z_sl, z_nils, b_nil, b_arr, b_box1, b_box2, b_box3, b_box4, List.map_cons, List.map_nil, Bool.and_self, Bool.and_true, Bool.true_and, Bool.not_true, Bool.not_false, Bool.or_false, Bool.false_or, cond_true, cond_false, okPack, okPut, okPutBlks, okPutCells, q_isP, q_isAg, q_isBox, q_isArr, q_int, q_bool, q_str, q_sl, q_nils, e_exit, e_ret, e_nrm, e_ret_exit, e_exit_ret, e_nrm_exit, e_nrm_ret, e_exit_nrm, e_ret_nrm, Nat.zero_add, Nat.reduceAdd, noslR, noslP, noslB, noslA, List.all_cons, List.all_nil]
    rw [c_has]
    simp only [bnd_some, ctl_true, ctl_false, ctl_and, ctl_or', ctl_or2, x_toPV, x_toCs, x_toCs2, x_toEs, x_bEs, x_bCs, x_aPV, x_aCs, x_int, x_bool, x_str, x_es, x_esn, nth_0, nth_1, nth_2, nth_3, nth_4, nth_5, nth_6, nth_7, nth_8, nth_9, y_nil, y_int, y_bool, y_str, y_sl, y_nils, y_agg, y_ownp, y_own, z_nil, z_int, z_bool, z_str, z_sl, z_nils, b_nil, b_arr, b_box1, b_box2, b_box3, b_box4, List.map_cons, List.map_nil, Bool.and_self, Bool.and_true, Bool.true_and, Bool.not_true, Bool.not_false, Bool.or_false, Bool.false_or, cond_true, cond_false, okPack, okPut, okPutBlks, okPutCells, q_isP, q_isAg, q_isBox, q_isArr, q_int, q_bool, q_str, q_sl, q_nils, e_exit, e_ret, e_nrm, e_ret_exit, e_exit_ret, e_nrm_exit, e_nrm_ret, e_exit_nrm, e_ret_nrm, Nat.zero_add, Nat.reduceAdd, noslR, noslP, noslB, noslA, List.all_cons, List.all_nil]
    cases inR v sp[j].1 sp[j].2 <;> rfl
  · have e1 : ltB (j : Int) (sp.length : Int) = false := decide_eq_false (by omega)
    have e2 : leB (sp.length : Int) (j : Int) = true := decide_eq_true (by omega)
    rw [e1, e2, List.getElem?_eq_none (by omega)]
    simp only [bnd_some, ctl_true, ctl_false, ctl_and, ctl_or', ctl_or2, x_toPV, x_toCs, x_toCs2, x_toEs, x_bEs, x_bCs, x_aPV, x_aCs, x_int, x_bool, x_str, x_es, x_esn, nth_0, nth_1, nth_2, nth_3, nth_4, nth_5, nth_6, nth_7, nth_8, nth_9, y_nil, y_int, y_bool, y_str, y_sl, y_nils, y_agg, y_ownp, y_own, z_nil, z_int, z_bool, z_str, z_sl, z_nils, b_nil, b_arr, b_box1, b_box2, b_box3, b_box4, List.map_cons, List.map_nil, Bool.and_self, Bool.and_true, Bool.true_and, Bool.not_true, Bool.not_false, Bool.or_false, Bool.false_or, cond_true, cond_false, okPack, okPut, okPutBlks, okPutCells, q_isP, q_isAg, q_isBox, q_isArr, q_int, q_bool, q_str, q_sl, q_nils, e_exit, e_ret, e_nrm, e_ret_exit, e_exit_ret, e_nrm_exit, e_nrm_ret, e_exit_nrm, e_ret_nrm, Nat.zero_add, Nat.reduceAdd, noslR, noslP, noslB, noslA, List.all_cons, List.all_nil]
    have e3 : (v != 0) = !(v == 0) := rfl
    rw [e3]
    cases v == 0 <;> rfl

theorem c_SValid (x : Sig) : denC E 13 [AV.agg (sgC x)] [] = some ([RV.p (PV.bool (valS x))], []) := by
  rw [denC_eq, r13, c_forms, c_has, c_has]
  simp only [bnd_some, ctl_true, ctl_false, ctl_and, ctl_or', ctl_or2, x_toPV, x_toCs, x_toCs2, x_toEs, x_bEs, x_bCs, x_aPV, x_aCs, x_int, x_bool, x_str, x_es, x_esn, nth_0, nth_1, nth_2, nth_3, nth_4, nth_5, nth_6, nth_7, nth_8, nth_9, y_nil, y_int, y_bool, y_str, y_sl, y_nils, y_agg, y_ownp, y_own, z_nil, z_int, z_bool, z_str, z_sl, z_nils, b_nil, b_arr, b_box1, b_box2, b_box3, b_box4, List.map_cons, List.map_nil, Bool.and_self, Bool.and_true, Bool.true_and, Bool.not_true, Bool.not_false, Bool.or_false, Bool.false_or, cond_true, cond_false, okPack, okPut, okPutBlks, okPutCells, q_isP, q_isAg, q_isBox, q_isArr, q_int, q_bool, q_str, q_sl, q_nils, e_exit, e_ret, e_nrm, e_ret_exit, e_exit_ret, e_nrm_exit, e_nrm_ret, e_exit_nrm, e_ret_nrm, Nat.zero_add, Nat.reduceAdd, noslR, noslP, noslB, noslA, List.all_cons, List.all_nil]
  have hl : (formK.length : Int) = 6 := rfl
  rw [hl]
  unfold valS
  by_cases hk : 1 ≤ x.k ∧ x.k ≤ 6
  · have e1 : ltB x.k 1 = false := decide_eq_false (by omega)
    have e2 : ltB 6 x.k = false := decide_eq_false (by omega)
    have e3 : inR x.k 1 6 = true := by
      unfold inR
      rw [show leB 1 x.k = true from decide_eq_true hk.1, show leB x.k 6 = true from decide_eq_true hk.2]; rfl
    rw [e1, e2, e3, getE_form hk]
    simp only [bnd_some, ctl_true, ctl_false, ctl_and, ctl_or', ctl_or2, x_toPV, x_toCs, x_toCs2, x_toEs, x_bEs, x_bCs, x_aPV, x_aCs, x_int, x_bool, x_str, x_es, x_esn, nth_0, nth_1, nth_2, nth_3, nth_4, nth_5, nth_6, nth_7, nth_8, nth_9, y_nil, y_int, y_bool, y_str, y_sl, y_nils, y_agg, y_ownp, y_own, z_nil, z_int, z_bool, z_str, z_sl, z_nils, b_nil, b_arr, b_box1, b_box2, b_box3, b_box4, List.map_cons, List.map_nil, Bool.and_self, Bool.and_true, Bool.true_and, Bool.not_true, Bool.not_false, Bool.or_false, Bool.false_or, cond_true, cond_false, okPack, okPut, okPutBlks, okPutCells, q_isP, q_isAg, q_isBox, q_isArr, q_int, q_bool, q_str, q_sl, q_nils, e_exit, e_ret, e_nrm, e_ret_exit, e_exit_ret, e_nrm_exit, e_nrm_ret, e_exit_nrm, e_ret_nrm, Nat.zero_add, Nat.reduceAdd, noslR, noslP, noslB, noslA, List.all_cons, List.all_nil]
    rw [show (AV.int IntKind.i64 0) = AV.int .i64 ((0 : Nat) : Int) from rfl, s_Valid _ _ _ _ 0 (by omega) x.a (fun K => rfl)]
    cases inR x.s 0 99 <;> simp only [Bool.true_and, Bool.false_and, Bool.not_true, Bool.not_false, Bool.or_true, Bool.true_or, Bool.false_or, Bool.or_false, bnd_some, ctl_true, ctl_false, ctl_and, ctl_or', ctl_or2, x_toPV, x_toCs, x_toCs2, x_toEs, x_bEs, x_bCs, x_aPV, x_aCs, x_int, x_bool, x_str, x_es, x_esn, nth_0, nth_1, nth_2, nth_3, nth_4, nth_5, nth_6, nth_7, nth_8, nth_9, y_nil, y_int, y_bool, y_str, y_sl, y_nils, y_agg, y_ownp, y_own, z_nil, z_int, z_bool, z_str, z_sl, z_nils, b_nil, b_arr, b_box1, b_box2, b_box3, b_box4, List.map_cons, List.map_nil, Bool.and_self, Bool.and_true, Bool.true_and, Bool.not_true, Bool.not_false, Bool.or_false, Bool.false_or, cond_true, cond_false, okPack, okPut, okPutBlks, okPutCells, q_isP, q_isAg, q_isBox, q_isArr, q_int, q_bool, q_str, q_sl, q_nils, e_exit, e_ret, e_nrm, e_ret_exit, e_exit_ret, e_nrm_exit, e_nrm_ret, e_exit_nrm, e_ret_nrm, Nat.zero_add, Nat.reduceAdd, noslR, noslP, noslB, noslA, List.all_cons, List.all_nil]
    cases inR x.t 0 2147483648 <;> simp only [Bool.true_and, Bool.false_and, Bool.not_true, Bool.not_false, Bool.or_true, Bool.true_or, Bool.false_or, Bool.or_false, bnd_some, ctl_true, ctl_false, ctl_and, ctl_or', ctl_or2, x_toPV, x_toCs, x_toCs2, x_toEs, x_bEs, x_bCs, x_aPV, x_aCs, x_int, x_bool, x_str, x_es, x_esn, nth_0, nth_1, nth_2, nth_3, nth_4, nth_5, nth_6, nth_7, nth_8, nth_9, y_nil, y_int, y_bool, y_str, y_sl, y_nils, y_agg, y_ownp, y_own, z_nil, z_int, z_bool, z_str, z_sl, z_nils, b_nil, b_arr, b_box1, b_box2, b_box3, b_box4, List.map_cons, List.map_nil, Bool.and_self, Bool.and_true, Bool.true_and, Bool.not_true, Bool.not_false, Bool.or_false, Bool.false_or, cond_true, cond_false, okPack, okPut, okPutBlks, okPutCells, q_isP, q_isAg, q_isBox, q_isArr, q_int, q_bool, q_str, q_sl, q_nils, e_exit, e_ret, e_nrm, e_ret_exit, e_exit_ret, e_nrm_exit, e_nrm_ret, e_exit_nrm, e_ret_nrm, Nat.zero_add, Nat.reduceAdd, noslR, noslP, noslB, noslA, List.all_cons, List.all_nil]
    cases okAt (formAt x.k).2 0 x.a <;> simp only [Bool.true_and, Bool.false_and, bnd_some, ctl_true, ctl_false, ctl_and, ctl_or', ctl_or2, x_toPV, x_toCs, x_toCs2, x_toEs, x_bEs, x_bCs, x_aPV, x_aCs, x_int, x_bool, x_str, x_es, x_esn, nth_0, nth_1, nth_2, nth_3, nth_4, nth_5, nth_6, nth_7, nth_8, nth_9, y_nil, y_int, y_bool, y_str, y_sl, y_nils, y_agg, y_ownp, y_own, z_nil, z_int, z_bool, z_str, z_sl, z_nils, b_nil, b_arr, b_box1, b_box2, b_box3, b_box4, List.map_cons, List.map_nil, Bool.and_self, Bool.and_true, Bool.true_and, Bool.not_true, Bool.not_false, Bool.or_false, Bool.false_or, cond_true, cond_false, okPack, okPut, okPutBlks, okPutCells, q_isP, q_isAg, q_isBox, q_isArr, q_int, q_bool, q_str, q_sl, q_nils, e_exit, e_ret, e_nrm, e_ret_exit, e_exit_ret, e_nrm_exit, e_nrm_ret, e_exit_nrm, e_ret_nrm, Nat.zero_add, Nat.reduceAdd, noslR, noslP, noslB, noslA, List.all_cons, List.all_nil]
    rw [show (AV.int IntKind.i64 (((0 : Nat) : Int) + 1)) = AV.int .i64 ((1 : Nat) : Int) from rfl, s_Valid _ _ _ _ 1 (by omega) x.b (fun K => rfl)]
    cases okAt (formAt x.k).2 1 x.b <;> simp only [Bool.true_and, Bool.false_and, bnd_some, ctl_true, ctl_false, ctl_and, ctl_or', ctl_or2, x_toPV, x_toCs, x_toCs2, x_toEs, x_bEs, x_bCs, x_aPV, x_aCs, x_int, x_bool, x_str, x_es, x_esn, nth_0, nth_1, nth_2, nth_3, nth_4, nth_5, nth_6, nth_7, nth_8, nth_9, y_nil, y_int, y_bool, y_str, y_sl, y_nils, y_agg, y_ownp, y_own, z_nil, z_int, z_bool, z_str, z_sl, z_nils, b_nil, b_arr, b_box1, b_box2, b_box3, b_box4, List.map_cons, List.map_nil, Bool.and_self, Bool.and_true, Bool.true_and, Bool.not_true, Bool.not_false, Bool.or_false, Bool.false_or, cond_true, cond_false, okPack, okPut, okPutBlks, okPutCells, q_isP, q_isAg, q_isBox, q_isArr, q_int, q_bool, q_str, q_sl, q_nils, e_exit, e_ret, e_nrm, e_ret_exit, e_exit_ret, e_nrm_exit, e_nrm_ret, e_exit_nrm, e_ret_nrm, Nat.zero_add, Nat.reduceAdd, noslR, noslP, noslB, noslA, List.all_cons, List.all_nil]
    rw [show (AV.int IntKind.i64 (((1 : Nat) : Int) + 1)) = AV.int .i64 ((2 : Nat) : Int) from rfl, s_Valid _ _ _ _ 2 (by omega) x.c (fun K => rfl)]
    cases okAt (formAt x.k).2 2 x.c <;> simp only [Bool.true_and, Bool.false_and, bnd_some, ctl_true, ctl_false, ctl_and, ctl_or', ctl_or2, x_toPV, x_toCs, x_toCs2, x_toEs, x_bEs, x_bCs, x_aPV, x_aCs, x_int, x_bool, x_str, x_es, x_esn, nth_0, nth_1, nth_2, nth_3, nth_4, nth_5, nth_6, nth_7, nth_8, nth_9, y_nil, y_int, y_bool, y_str, y_sl, y_nils, y_agg, y_ownp, y_own, z_nil, z_int, z_bool, z_str, z_sl, z_nils, b_nil, b_arr, b_box1, b_box2, b_box3, b_box4, List.map_cons, List.map_nil, Bool.and_self, Bool.and_true, Bool.true_and, Bool.not_true, Bool.not_false, Bool.or_false, Bool.false_or, cond_true, cond_false, okPack, okPut, okPutBlks, okPutCells, q_isP, q_isAg, q_isBox, q_isArr, q_int, q_bool, q_str, q_sl, q_nils, e_exit, e_ret, e_nrm, e_ret_exit, e_exit_ret, e_nrm_exit, e_nrm_ret, e_exit_nrm, e_ret_nrm, Nat.zero_add, Nat.reduceAdd, noslR, noslP, noslB, noslA, List.all_cons, List.all_nil]
    rw [r13_0]
    rfl
  · have e3 : inR x.k 1 6 = false := by
      unfold inR
      by_cases h1 : 1 ≤ x.k
      · rw [show leB x.k 6 = false from decide_eq_false (fun h => hk ⟨h1, h⟩), Bool.and_false]
      · rw [show leB 1 x.k = false from decide_eq_false h1, Bool.false_and]
    have e4 : (ltB x.k 1 || ltB 6 x.k) = true := by
      by_cases h1 : 1 ≤ x.k
      · rw [show ltB 6 x.k = true from decide_eq_true (by omega), Bool.or_true]
      · rw [show ltB x.k 1 = true from decide_eq_true (by omega), Bool.true_or]
    rw [e3, e4]
    simp only [Bool.true_and, Bool.false_and, Bool.not_true, Bool.not_false, Bool.or_true, Bool.true_or, Bool.false_or, Bool.or_false, bnd_some, ctl_true, ctl_false, ctl_and, ctl_or', ctl_or2, x_toPV, x_toCs, x_toCs2, x_toEs, x_bEs, x_bCs, x_aPV, x_aCs, x_int, x_bool, x_str, x_es, x_esn, nth_0, nth_1, nth_2, nth_3, nth_4, nth_5, nth_6, nth_7, nth_8, nth_9, y_nil, y_int, y_bool, y_str, y_sl, y_nils, y_agg, y_ownp, y_own, z_nil, z_int, z_bool, z_str, z_sl, z_nils, b_nil, b_arr, b_box1, b_box2, b_box3, b_box4, List.map_cons, List.map_nil, Bool.and_self, Bool.and_true, Bool.true_and, Bool.not_true, Bool.not_false, Bool.or_false, Bool.false_or, cond_true, cond_false, okPack, okPut, okPutBlks, okPutCells, q_isP, q_isAg, q_isBox, q_isArr, q_int, q_bool, q_str, q_sl, q_nils, e_exit, e_ret, e_nrm, e_ret_exit, e_exit_ret, e_nrm_exit, e_nrm_ret, e_exit_nrm, e_ret_nrm, Nat.zero_add, Nat.reduceAdd, noslR, noslP, noslB, noslA, List.all_cons, List.all_nil]

theorem v_of (k s t a b c : Int) (w1 w2 w3 : Bool) (hk : inR k 1 6 = true) (h1 : okAt (formAt k).2 0 a = w1) (h2 : okAt (formAt k).2 1 b = w2) (h3 : okAt (formAt k).2 2 c = w3) : valS ⟨k, s, t, a, b, c⟩ = (inR s 0 99 && inR t 0 2147483648 && w1 && w2 && w3) := by
  unfold valS
  simp only [hk, h1, h2, h3, Bool.true_and]

theorem c_rSValid (x : Sig) : denC E 14 [AV.agg (sgC x)] [] = some ([RV.p (PV.bool (valS x))], []) := by
  obtain ⟨k, s, t, a, b, c⟩ := x
  rw [denC_eq, r14]
  simp only [c_within, bnd_some, ctl_true, ctl_false, ctl_and, ctl_or', ctl_or2, x_toPV, x_toCs, x_toCs2, x_toEs, x_bEs, x_bCs, x_aPV, x_aCs, x_int, x_bool, x_str, x_es, x_esn, nth_0, nth_1, nth_2, nth_3, nth_4, nth_5, nth_6, nth_7, nth_8, nth_9, y_nil, y_int, y_bool, y_str, y_sl, y_nils, y_agg, y_ownp, y_own, z_nil, z_int, z_bool, z_str, z_sl, z_nils, b_nil, b_arr, b_box1, b_box2, b_box3, b_box4, List.map_cons, List.map_nil, Bool.and_self, Bool.and_true, Bool.true_and, Bool.not_true, Bool.not_false, Bool.or_false, Bool.false_or, cond_true, cond_false, okPack, okPut, okPutBlks, okPutCells, q_isP, q_isAg, q_isBox, q_isArr, q_int, q_bool, q_str, q_sl, q_nils, e_exit, e_ret, e_nrm, e_ret_exit, e_exit_ret, e_nrm_exit, e_nrm_ret, e_exit_nrm, e_ret_nrm, Nat.zero_add, Nat.reduceAdd, noslR, noslP, noslB, noslA, List.all_cons, List.all_nil]
  by_cases hk : 1 ≤ k ∧ k ≤ 6
  · rcases k6 hk with rfl | rfl | rfl | rfl | rfl | rfl
    · rw [v_of 1 s t a b c _ _ _ rfl rfl rfl rfl]
      cases inR s 0 99 <;> cases inR t 0 2147483648 <;> rfl
    · rw [v_of 2 s t a b c _ _ _ rfl rfl rfl rfl]
      cases inR s 0 99 <;> cases inR t 0 2147483648 <;> rfl
    · rw [v_of 3 s t a b c _ _ _ rfl rfl rfl rfl]
      cases inR s 0 99 <;> cases inR t 0 2147483648 <;> rfl
    · rw [v_of 4 s t a b c _ _ _ rfl rfl rfl rfl]
      cases inR s 0 99 <;> cases inR t 0 2147483648 <;> rfl
    · rw [v_of 5 s t a b c _ _ _ rfl rfl rfl rfl]
      cases inR s 0 99 <;> cases inR t 0 2147483648 <;> rfl
    · rw [v_of 6 s t a b c _ _ _ rfl rfl rfl rfl]
      cases inR s 0 99 <;> cases inR t 0 2147483648 <;> rfl
  · have hne : ∀ j : Int, 1 ≤ j ∧ j ≤ 6 → (k == j) = false := fun j hj => by
      rw [beq_eq_false_iff_ne]; intro h; subst h; exact hk hj
    have e3 : inR k 1 6 = false := by
      unfold inR
      by_cases h1 : 1 ≤ k
      · rw [show leB k 6 = false from decide_eq_false (fun h => hk ⟨h1, h⟩), Bool.and_false]
      · rw [show leB 1 k = false from decide_eq_false h1, Bool.false_and]
    rw [hne 1 (by omega), hne 2 (by omega), hne 3 (by omega), hne 4 (by omega), hne 5 (by omega), hne 6 (by omega)]
    unfold valS
    simp only [e3, Bool.false_and]
    cases inR s 0 99 <;> cases inR t 0 2147483648 <;> rfl

theorem inR_iff {x lo hi : Int} : inR x lo hi = true ↔ lo ≤ x ∧ x ≤ hi := by
  unfold inR; simp

/-- What a valid signal keeps. -/
theorem val_bounds {x : Sig} (h : valS x = true) : (1 ≤ x.k ∧ x.k ≤ 6) ∧ (0 ≤ x.s ∧ x.s ≤ 99) ∧ (0 ≤ x.t ∧ x.t ≤ 2147483648) ∧ (-100000000 ≤ x.a ∧ x.a ≤ 100000000) ∧ (-100000000 ≤ x.b ∧ x.b ≤ 100000000) ∧ (-100000000 ≤ x.c ∧ x.c ≤ 100000000) := by
  obtain ⟨k, s, t, a, b, c⟩ := x
  unfold valS at h
  simp only [Bool.and_eq_true, inR_iff] at h
  obtain ⟨⟨⟨⟨⟨h1, h2⟩, h3⟩, h4⟩, h5⟩, h6⟩ := h
  refine ⟨h1, h2, h3, ?_⟩
  rcases k6 h1 with rfl | rfl | rfl | rfl | rfl | rfl <;> simp [okAt, formAt, formL, inR_iff] at h4 h5 h6 <;> refine ⟨?_, ?_, ?_⟩ <;> simp only <;> omega

/-! ### Writing -/
def wr (x : Sig) : List (List UInt8) := (formAt x.k).1 :: ([x.s, x.t, x.a, x.b, x.c].take (2 + (formAt x.k).2.length)).map Lib.itoa

theorem l_write (b0 : List (List PV)) (l : List Int) : ∀ (pre : List Int) (done : List (List UInt8)), (pre ++ l).length ≤ 1000 → done.length + l.length ≤ 1000 → (∀ n ∈ l, -9223372036854775808 ≤ n ∧ n ≤ 9223372036854775807) →
    lp E (denC E) 28 0 [] 0 { vals := [AV.sl 1 (intsK .i64 (pre ++ l)), AV.int .i64 (pre ++ l).length, AV.int .i64 pre.length], blks := [Blk.box [AV.sl 1 b0], Blk.arr 1 (strsK done)] } =
    some (Ex.exit 0, { vals := [], blks := [Blk.box [AV.sl 1 b0], Blk.arr 1 (strsK (done ++ l.map Lib.itoa))] }) := by
  induction l with
  | nil =>
    intro pre done h hd hl
    rw [r28_0, ctl_dec, if_neg (by simp), List.map_nil, List.append_nil]
  | cons b l ih =>
    intro pre done h hd hl
    rw [r28_0, ctl_dec, if_pos (by simp; omega), getE_ints (by simp; omega)]
    simp only [Int.toNat_natCast, getD_mid, bnd_some, ctl_true, ctl_false, ctl_and, ctl_or', ctl_or2, x_toPV, x_toCs, x_toCs2, x_toEs, x_bEs, x_bCs, x_aPV, x_aCs, x_int, x_bool, x_str, x_es, x_esn, nth_0, nth_1, nth_2, nth_3, nth_4, nth_5, nth_6, nth_7, nth_8, nth_9, y_nil, y_int, y_bool, y_str, y_sl, y_nils, y_agg, y_ownp, y_own, z_nil, z_int, z_bool, z_str, z_sl, z_nils, b_nil, b_arr, b_box1, b_box2, b_box3, b_box4, List.map_cons, List.map_nil, Bool.and_self, Bool.and_true, Bool.true_and, Bool.not_true, Bool.not_false, Bool.or_false, Bool.false_or, cond_true, cond_false, okPack, okPut, okPutBlks, okPutCells, q_isP, q_isAg, q_isBox, q_isArr, q_int, q_bool, q_str, q_sl, q_nils, e_exit, e_ret, e_nrm, e_ret_exit, e_exit_ret, e_nrm_exit, e_nrm_ret, e_exit_nrm, e_ret_nrm, Nat.zero_add, Nat.reduceAdd, noslR, noslP, noslB, noslA, List.all_cons, List.all_nil]
    rw [c_STx b (hl b (by simp))]
    simp only [bnd_some, ctl_true, ctl_false, ctl_and, ctl_or', ctl_or2, x_toPV, x_toCs, x_toCs2, x_toEs, x_bEs, x_bCs, x_aPV, x_aCs, x_int, x_bool, x_str, x_es, x_esn, nth_0, nth_1, nth_2, nth_3, nth_4, nth_5, nth_6, nth_7, nth_8, nth_9, y_nil, y_int, y_bool, y_str, y_sl, y_nils, y_agg, y_ownp, y_own, z_nil, z_int, z_bool, z_str, z_sl, z_nils, b_nil, b_arr, b_box1, b_box2, b_box3, b_box4, List.map_cons, List.map_nil, Bool.and_self, Bool.and_true, Bool.true_and, Bool.not_true, Bool.not_false, Bool.or_false, Bool.false_or, cond_true, cond_false, okPack, okPut, okPutBlks, okPutCells, q_isP, q_isAg, q_isBox, q_isArr, q_int, q_bool, q_str, q_sl, q_nils, e_exit, e_ret, e_nrm, e_ret_exit, e_exit_ret, e_nrm_exit, e_nrm_ret, e_exit_nrm, e_ret_nrm, Nat.zero_add, Nat.reduceAdd, noslR, noslP, noslB, noslA, List.all_cons, List.all_nil]
    have e : strsK done ++ [[PV.str (Lib.itoa b)]] = strsK (done ++ [Lib.itoa b]) := by simp [strsK]
    rw [strsK_length, ctl_dec, if_pos (by simp at hd; omega), w64 (by simp at h; omega), len_snoc pre b, app_cons, e, ih (pre ++ [b]) (done ++ [Lib.itoa b]) (by simpa using h) (by simp at hd ⊢; omega) (fun n hn => hl n (by simp [hn]))]
    simp

theorem cut_ints (l : List Int) (n : Nat) : cutI (intsK .i64 l) 0 (n : Int) = intsK .i64 (l.take n) := by
  unfold cutI intsK
  simp [List.map_take]

theorem c_write {x : Sig} (hv : valS x = true) : denC E 28 [AV.agg (sgC x)] [] = some ([RV.agg [PV.sl 1 (strsK (wr x))]], []) := by
  obtain ⟨hk, h1, h2, h3, h4, h5⟩ := val_bounds hv
  have hn := n3 hk
  have hsl : ((spK (formAt x.k).2).length : Int) = ((formAt x.k).2.length : Int) := by simp [spK]
  rw [denC_eq, r28, c_forms]
  simp only [bnd_some, ctl_true, ctl_false, ctl_and, ctl_or', ctl_or2, x_toPV, x_toCs, x_toCs2, x_toEs, x_bEs, x_bCs, x_aPV, x_aCs, x_int, x_bool, x_str, x_es, x_esn, nth_0, nth_1, nth_2, nth_3, nth_4, nth_5, nth_6, nth_7, nth_8, nth_9, y_nil, y_int, y_bool, y_str, y_sl, y_nils, y_agg, y_ownp, y_own, z_nil, z_int, z_bool, z_str, z_sl, z_nils, b_nil, b_arr, b_box1, b_box2, b_box3, b_box4, List.map_cons, List.map_nil, Bool.and_self, Bool.and_true, Bool.true_and, Bool.not_true, Bool.not_false, Bool.or_false, Bool.false_or, cond_true, cond_false, okPack, okPut, okPutBlks, okPutCells, q_isP, q_isAg, q_isBox, q_isArr, q_int, q_bool, q_str, q_sl, q_nils, e_exit, e_ret, e_nrm, e_ret_exit, e_exit_ret, e_nrm_exit, e_nrm_ret, e_exit_nrm, e_ret_nrm, Nat.zero_add, Nat.reduceAdd, noslR, noslP, noslB, noslA, List.all_cons, List.all_nil]
  rw [getE_form hk]
  simp only [bnd_some, ctl_true, ctl_false, ctl_and, ctl_or', ctl_or2, x_toPV, x_toCs, x_toCs2, x_toEs, x_bEs, x_bCs, x_aPV, x_aCs, x_int, x_bool, x_str, x_es, x_esn, nth_0, nth_1, nth_2, nth_3, nth_4, nth_5, nth_6, nth_7, nth_8, nth_9, y_nil, y_int, y_bool, y_str, y_sl, y_nils, y_agg, y_ownp, y_own, z_nil, z_int, z_bool, z_str, z_sl, z_nils, b_nil, b_arr, b_box1, b_box2, b_box3, b_box4, List.map_cons, List.map_nil, Bool.and_self, Bool.and_true, Bool.true_and, Bool.not_true, Bool.not_false, Bool.or_false, Bool.false_or, cond_true, cond_false, okPack, okPut, okPutBlks, okPutCells, q_isP, q_isAg, q_isBox, q_isArr, q_int, q_bool, q_str, q_sl, q_nils, e_exit, e_ret, e_nrm, e_ret_exit, e_exit_ret, e_nrm_exit, e_nrm_ret, e_exit_nrm, e_ret_nrm, Nat.zero_add, Nat.reduceAdd, noslR, noslP, noslB, noslA, List.all_cons, List.all_nil]
  rw [hsl, w64 (by omega)]
  have e1 : ((2 : Int) + ((formAt x.k).2.length : Int)) = ((2 + (formAt x.k).2.length : Nat) : Int) := by omega
  have e2 : (leB 0 ((2 + (formAt x.k).2.length : Nat) : Int) && leB ((2 + (formAt x.k).2.length : Nat) : Int) 5) = true := by
    rw [show leB 0 ((2 + (formAt x.k).2.length : Nat) : Int) = true from decide_eq_true (by omega), show leB ((2 + (formAt x.k).2.length : Nat) : Int) 5 = true from decide_eq_true (by omega)]; rfl
  have e3 : ([[PV.int IntKind.i64 x.s], [PV.int IntKind.i64 x.t], [PV.int IntKind.i64 x.a], [PV.int IntKind.i64 x.b], [PV.int IntKind.i64 x.c]] : List (List PV)) = intsK .i64 [x.s, x.t, x.a, x.b, x.c] := rfl
  rw [e1, e2, e3, cut_ints]
  simp only [ctl_true]
  have hlp := l_write [] ([x.s, x.t, x.a, x.b, x.c].take (2 + (formAt x.k).2.length)) [] [(formAt x.k).1] (by simp; omega) (by simp; omega) (fun n hn => by
    have := List.mem_of_mem_take hn
    simp at this
    rcases this with rfl | rfl | rfl | rfl | rfl <;> omega)
  simp only [List.nil_append, List.length_nil, Int.natCast_zero] at hlp
  rw [intsK_length, show ([[PV.str (formAt x.k).1]] : List (List PV)) = strsK [(formAt x.k).1] from rfl, hlp]
  simp only [bnd_some, ctl_true, ctl_false, ctl_and, ctl_or', ctl_or2, x_toPV, x_toCs, x_toCs2, x_toEs, x_bEs, x_bCs, x_aPV, x_aCs, x_int, x_bool, x_str, x_es, x_esn, nth_0, nth_1, nth_2, nth_3, nth_4, nth_5, nth_6, nth_7, nth_8, nth_9, y_nil, y_int, y_bool, y_str, y_sl, y_nils, y_agg, y_ownp, y_own, z_nil, z_int, z_bool, z_str, z_sl, z_nils, b_nil, b_arr, b_box1, b_box2, b_box3, b_box4, List.map_cons, List.map_nil, Bool.and_self, Bool.and_true, Bool.true_and, Bool.not_true, Bool.not_false, Bool.or_false, Bool.false_or, cond_true, cond_false, okPack, okPut, okPutBlks, okPutCells, q_isP, q_isAg, q_isBox, q_isArr, q_int, q_bool, q_str, q_sl, q_nils, e_exit, e_ret, e_nrm, e_ret_exit, e_exit_ret, e_nrm_exit, e_nrm_ret, e_exit_nrm, e_ret_nrm, Nat.zero_add, Nat.reduceAdd, noslR, noslP, noslB, noslA, List.all_cons, List.all_nil]
  rfl

def wrP (x : Sig) : PV × Int := if valS x = true then (.sl 1 (strsK (wr x)), 0) else (.nils, 5)
theorem c_Write (x : Sig) : denC E 9 [AV.agg (sgC x)] [] = some ([RV.agg [(wrP x).1], RV.p (PV.int .i64 (wrP x).2)], []) := by
  rw [denC_eq, r9, c_SValid]
  simp only [bnd_some, ctl_true, ctl_false, ctl_and, ctl_or', ctl_or2, x_toPV, x_toCs, x_toCs2, x_toEs, x_bEs, x_bCs, x_aPV, x_aCs, x_int, x_bool, x_str, x_es, x_esn, nth_0, nth_1, nth_2, nth_3, nth_4, nth_5, nth_6, nth_7, nth_8, nth_9, y_nil, y_int, y_bool, y_str, y_sl, y_nils, y_agg, y_ownp, y_own, z_nil, z_int, z_bool, z_str, z_sl, z_nils, b_nil, b_arr, b_box1, b_box2, b_box3, b_box4, List.map_cons, List.map_nil, Bool.and_self, Bool.and_true, Bool.true_and, Bool.not_true, Bool.not_false, Bool.or_false, Bool.false_or, cond_true, cond_false, okPack, okPut, okPutBlks, okPutCells, q_isP, q_isAg, q_isBox, q_isArr, q_int, q_bool, q_str, q_sl, q_nils, e_exit, e_ret, e_nrm, e_ret_exit, e_exit_ret, e_nrm_exit, e_nrm_ret, e_exit_nrm, e_ret_nrm, Nat.zero_add, Nat.reduceAdd, noslR, noslP, noslB, noslA, List.all_cons, List.all_nil]
  unfold wrP
  cases hv : valS x with
  | false => rfl
  | true =>
    simp only [bnd_some, ctl_true, ctl_false, ctl_and, ctl_or', ctl_or2, x_toPV, x_toCs, x_toCs2, x_toEs, x_bEs, x_bCs, x_aPV, x_aCs, x_int, x_bool, x_str, x_es, x_esn, nth_0, nth_1, nth_2, nth_3, nth_4, nth_5, nth_6, nth_7, nth_8, nth_9, y_nil, y_int, y_bool, y_str, y_sl, y_nils, y_agg, y_ownp, y_own, z_nil, z_int, z_bool, z_str, z_sl, z_nils, b_nil, b_arr, b_box1, b_box2, b_box3, b_box4, List.map_cons, List.map_nil, Bool.and_self, Bool.and_true, Bool.true_and, Bool.not_true, Bool.not_false, Bool.or_false, Bool.false_or, cond_true, cond_false, okPack, okPut, okPutBlks, okPutCells, q_isP, q_isAg, q_isBox, q_isArr, q_int, q_bool, q_str, q_sl, q_nils, e_exit, e_ret, e_nrm, e_ret_exit, e_exit_ret, e_nrm_exit, e_nrm_ret, e_exit_nrm, e_ret_nrm, Nat.zero_add, Nat.reduceAdd, noslR, noslP, noslB, noslA, List.all_cons, List.all_nil]
    rw [c_write hv]
    simp only [bnd_some, ctl_true, ctl_false, ctl_and, ctl_or', ctl_or2, x_toPV, x_toCs, x_toCs2, x_toEs, x_bEs, x_bCs, x_aPV, x_aCs, x_int, x_bool, x_str, x_es, x_esn, nth_0, nth_1, nth_2, nth_3, nth_4, nth_5, nth_6, nth_7, nth_8, nth_9, y_nil, y_int, y_bool, y_str, y_sl, y_nils, y_agg, y_ownp, y_own, z_nil, z_int, z_bool, z_str, z_sl, z_nils, b_nil, b_arr, b_box1, b_box2, b_box3, b_box4, List.map_cons, List.map_nil, Bool.and_self, Bool.and_true, Bool.true_and, Bool.not_true, Bool.not_false, Bool.or_false, Bool.false_or, cond_true, cond_false, okPack, okPut, okPutBlks, okPutCells, q_isP, q_isAg, q_isBox, q_isArr, q_int, q_bool, q_str, q_sl, q_nils, e_exit, e_ret, e_nrm, e_ret_exit, e_exit_ret, e_nrm_exit, e_nrm_ret, e_exit_nrm, e_ret_nrm, Nat.zero_add, Nat.reduceAdd, noslR, noslP, noslB, noslA, List.all_cons, List.all_nil]
    rfl

theorem s_rWrite (x : Sig) (hk : 1 ≤ x.k ∧ x.k ≤ 6) (b1 : List (List PV)) (d : List (List UInt8)) (hd : d.length ≤ 100) (j : Nat) (hj : j < 3) (v : Int) (hvb : -9223372036854775808 ≤ v ∧ v ≤ 9223372036854775807)
    (hg : ∀ K : List PV → Option (Ex × Pack), getE [[PV.int IntKind.i64 x.a], [PV.int IntKind.i64 x.b], [PV.int IntKind.i64 x.c]] (j : Int) K = K [PV.int .i64 v]) :
    lp E (denC E) 12 0 [] 0 { vals := [AV.sl 1 [[PV.int IntKind.i64 x.a], [PV.int IntKind.i64 x.b], [PV.int IntKind.i64 x.c]], AV.int .i64 3, AV.int .i64 (j : Int)], blks := [Blk.box [AV.int IntKind.i64 x.k, AV.int IntKind.i64 x.s, AV.int IntKind.i64 x.t, AV.int IntKind.i64 x.a, AV.int IntKind.i64 x.b, AV.int IntKind.i64 x.c], Blk.box [AV.sl 1 b1], Blk.arr 1 (strsK d)] } =
    lp E (denC E) 12 0 [] 0 { vals := [AV.sl 1 [[PV.int IntKind.i64 x.a], [PV.int IntKind.i64 x.b], [PV.int IntKind.i64 x.c]], AV.int .i64 3, AV.int .i64 ((j : Int) + 1)], blks := [Blk.box [AV.int IntKind.i64 x.k, AV.int IntKind.i64 x.s, AV.int IntKind.i64 x.t, AV.int IntKind.i64 x.a, AV.int IntKind.i64 x.b, AV.int IntKind.i64 x.c], Blk.box [AV.sl 1 b1], Blk.arr 1 (strsK (if j < (formAt x.k).2.length then d ++ [Lib.itoa v] else d))] } := by
  rw [r12_0, ctl_dec, if_pos (by omega), hg, c_count hk, w64 (by omega)]
  simp only [bnd_some, ctl_true, ctl_false, ctl_and, ctl_or', ctl_or2, x_toPV, x_toCs, x_toCs2, x_toEs, x_bEs, x_bCs, x_aPV, x_aCs, x_int, x_bool, x_str, x_es, x_esn, nth_0, nth_1, nth_2, nth_3, nth_4, nth_5, nth_6, nth_7, nth_8, nth_9, y_nil, y_int, y_bool, y_str, y_sl, y_nils, y_agg, y_ownp, y_own, z_nil, z_int, z_bool, z_str, z_sl, z_nils, b_nil, b_arr, b_box1, b_box2, b_box3, b_box4, List.map_cons, List.map_nil, Bool.and_self, Bool.and_true, Bool.true_and, Bool.not_true, Bool.not_false, Bool.or_false, Bool.false_or, cond_true, cond_false, okPack, okPut, okPutBlks, okPutCells, q_isP, q_isAg, q_isBox, q_isArr, q_int, q_bool, q_str, q_sl, q_nils, e_exit, e_ret, e_nrm, e_ret_exit, e_exit_ret, e_nrm_exit, e_nrm_ret, e_exit_nrm, e_ret_nrm, Nat.zero_add, Nat.reduceAdd, noslR, noslP, noslB, noslA, List.all_cons, List.all_nil]
  by_cases h : j < (formAt x.k).2.length
  · have e1 : ltB (j : Int) ((formAt x.k).2.length : Int) = true := decide_eq_true (by omega)
    rw [e1, if_pos h, c_rSTx v hvb]
    simp only [bnd_some, ctl_true, ctl_false, ctl_and, ctl_or', ctl_or2, x_toPV, x_toCs, x_toCs2, x_toEs, x_bEs, x_bCs, x_aPV, x_aCs, x_int, x_bool, x_str, x_es, x_esn, nth_0, nth_1, nth_2, nth_3, nth_4, nth_5, nth_6, nth_7, nth_8, nth_9, y_nil, y_int, y_bool, y_str, y_sl, y_nils, y_agg, y_ownp, y_own, z_nil, z_int, z_bool, z_str, z_sl, z_nils, b_nil, b_arr, b_box1, b_box2, b_box3, b_box4, List.map_cons, List.map_nil, Bool.and_self, Bool.and_true, Bool.true_and, Bool.not_true, Bool.not_false, Bool.or_false, Bool.false_or, cond_true, cond_false, okPack, okPut, okPutBlks, okPutCells, q_isP, q_isAg, q_isBox, q_isArr, q_int, q_bool, q_str, q_sl, q_nils, e_exit, e_ret, e_nrm, e_ret_exit, e_exit_ret, e_nrm_exit, e_nrm_ret, e_exit_nrm, e_ret_nrm, Nat.zero_add, Nat.reduceAdd, noslR, noslP, noslB, noslA, List.all_cons, List.all_nil]
    have e : strsK d ++ [[PV.str (Lib.itoa v)]] = strsK (d ++ [Lib.itoa v]) := by simp [strsK]
    rw [strsK_length, ctl_dec, if_pos (by omega), e]
  · have e1 : ltB (j : Int) ((formAt x.k).2.length : Int) = false := decide_eq_false (by omega)
    rw [e1, if_neg h]
    rfl

theorem c_rWrite (x : Sig) : denC E 12 [AV.agg (sgC x)] [] = some ([RV.agg [(wrP x).1], RV.p (PV.int .i64 (wrP x).2)], []) := by
  rw [denC_eq, r12, c_rSValid]
  simp only [bnd_some, ctl_true, ctl_false, ctl_and, ctl_or', ctl_or2, x_toPV, x_toCs, x_toCs2, x_toEs, x_bEs, x_bCs, x_aPV, x_aCs, x_int, x_bool, x_str, x_es, x_esn, nth_0, nth_1, nth_2, nth_3, nth_4, nth_5, nth_6, nth_7, nth_8, nth_9, y_nil, y_int, y_bool, y_str, y_sl, y_nils, y_agg, y_ownp, y_own, z_nil, z_int, z_bool, z_str, z_sl, z_nils, b_nil, b_arr, b_box1, b_box2, b_box3, b_box4, List.map_cons, List.map_nil, Bool.and_self, Bool.and_true, Bool.true_and, Bool.not_true, Bool.not_false, Bool.or_false, Bool.false_or, cond_true, cond_false, okPack, okPut, okPutBlks, okPutCells, q_isP, q_isAg, q_isBox, q_isArr, q_int, q_bool, q_str, q_sl, q_nils, e_exit, e_ret, e_nrm, e_ret_exit, e_exit_ret, e_nrm_exit, e_nrm_ret, e_exit_nrm, e_ret_nrm, Nat.zero_add, Nat.reduceAdd, noslR, noslP, noslB, noslA, List.all_cons, List.all_nil]
  unfold wrP
  cases hv : valS x with
  | false => rfl
  | true =>
    obtain ⟨hk, h1, h2, h3, h4, h5⟩ := val_bounds hv
    have hn := n3 hk
    simp only [bnd_some, ctl_true, ctl_false, ctl_and, ctl_or', ctl_or2, x_toPV, x_toCs, x_toCs2, x_toEs, x_bEs, x_bCs, x_aPV, x_aCs, x_int, x_bool, x_str, x_es, x_esn, nth_0, nth_1, nth_2, nth_3, nth_4, nth_5, nth_6, nth_7, nth_8, nth_9, y_nil, y_int, y_bool, y_str, y_sl, y_nils, y_agg, y_ownp, y_own, z_nil, z_int, z_bool, z_str, z_sl, z_nils, b_nil, b_arr, b_box1, b_box2, b_box3, b_box4, List.map_cons, List.map_nil, Bool.and_self, Bool.and_true, Bool.true_and, Bool.not_true, Bool.not_false, Bool.or_false, Bool.false_or, cond_true, cond_false, okPack, okPut, okPutBlks, okPutCells, q_isP, q_isAg, q_isBox, q_isArr, q_int, q_bool, q_str, q_sl, q_nils, e_exit, e_ret, e_nrm, e_ret_exit, e_exit_ret, e_nrm_exit, e_nrm_ret, e_exit_nrm, e_ret_nrm, Nat.zero_add, Nat.reduceAdd, noslR, noslP, noslB, noslA, List.all_cons, List.all_nil]
    rw [c_name hk, c_rSTx x.s (by omega), c_rSTx x.t (by omega)]
    simp only [bnd_some, ctl_true, ctl_false, ctl_and, ctl_or', ctl_or2, x_toPV, x_toCs, x_toCs2, x_toEs, x_bEs, x_bCs, x_aPV, x_aCs, x_int, x_bool, x_str, x_es, x_esn, nth_0, nth_1, nth_2, nth_3, nth_4, nth_5, nth_6, nth_7, nth_8, nth_9, y_nil, y_int, y_bool, y_str, y_sl, y_nils, y_agg, y_ownp, y_own, z_nil, z_int, z_bool, z_str, z_sl, z_nils, b_nil, b_arr, b_box1, b_box2, b_box3, b_box4, List.map_cons, List.map_nil, Bool.and_self, Bool.and_true, Bool.true_and, Bool.not_true, Bool.not_false, Bool.or_false, Bool.false_or, cond_true, cond_false, okPack, okPut, okPutBlks, okPutCells, q_isP, q_isAg, q_isBox, q_isArr, q_int, q_bool, q_str, q_sl, q_nils, e_exit, e_ret, e_nrm, e_ret_exit, e_exit_ret, e_nrm_exit, e_nrm_ret, e_exit_nrm, e_ret_nrm, Nat.zero_add, Nat.reduceAdd, noslR, noslP, noslB, noslA, List.all_cons, List.all_nil]
    have hl0 : ∀ n, ([(formAt x.k).1, Lib.itoa x.s, Lib.itoa x.t] : List (List UInt8)).length ≤ n + 100 := fun n => by simp
    rw [show ([[PV.str (formAt x.k).1], [PV.str (Lib.itoa x.s)], [PV.str (Lib.itoa x.t)]] : List (List PV)) = strsK [(formAt x.k).1, Lib.itoa x.s, Lib.itoa x.t] from rfl, show (AV.int IntKind.i64 0) = AV.int .i64 ((0 : Nat) : Int) from rfl,
      s_rWrite x hk _ _ (by simp) 0 (by omega) x.a (by omega) (fun K => rfl), show (((0 : Nat) : Int) + 1) = ((1 : Nat) : Int) from rfl,
      s_rWrite x hk _ _ (by split <;> simp) 1 (by omega) x.b (by omega) (fun K => rfl), show (((1 : Nat) : Int) + 1) = ((2 : Nat) : Int) from rfl,
      s_rWrite x hk _ _ (by split <;> split <;> simp) 2 (by omega) x.c (by omega) (fun K => rfl)]
    have hw : (if 2 < (formAt x.k).2.length then (if 1 < (formAt x.k).2.length then (if 0 < (formAt x.k).2.length then [(formAt x.k).1, Lib.itoa x.s, Lib.itoa x.t] ++ [Lib.itoa x.a] else [(formAt x.k).1, Lib.itoa x.s, Lib.itoa x.t]) ++ [Lib.itoa x.b] else (if 0 < (formAt x.k).2.length then [(formAt x.k).1, Lib.itoa x.s, Lib.itoa x.t] ++ [Lib.itoa x.a] else [(formAt x.k).1, Lib.itoa x.s, Lib.itoa x.t])) ++ [Lib.itoa x.c]
        else (if 1 < (formAt x.k).2.length then (if 0 < (formAt x.k).2.length then [(formAt x.k).1, Lib.itoa x.s, Lib.itoa x.t] ++ [Lib.itoa x.a] else [(formAt x.k).1, Lib.itoa x.s, Lib.itoa x.t]) ++ [Lib.itoa x.b] else (if 0 < (formAt x.k).2.length then [(formAt x.k).1, Lib.itoa x.s, Lib.itoa x.t] ++ [Lib.itoa x.a] else [(formAt x.k).1, Lib.itoa x.s, Lib.itoa x.t]))) = wr x := by
      unfold wr
      rcases hn with h | h | h <;> rw [h] <;> rfl
    rw [hw, r12_0]
    rfl

end Go.Proofs.YtcopadohnlcheaaDoor.Vm
