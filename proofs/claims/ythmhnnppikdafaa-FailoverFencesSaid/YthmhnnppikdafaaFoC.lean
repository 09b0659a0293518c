/- Chapter 33: contracts of the parts of a round. -/
import Derived.Test.YthmhnnppikdafaaFoP
import Derived.Test.YthmhnnppikdafaaMkC
namespace Go.Proofs.Ythmhnnppikdafaa.Vm
set_option linter.unusedVariables false
set_option linter.unusedSimpArgs false

abbrev ctr (c : Ct) : List PV := [PV.int .i64 c.st, PV.int .i64 c.ep, PV.int .i64 c.hd]
def ctrs (l : List Ct) : List (List PV) := l.map ctr
abbrev brow (r : List Bool) : List (List PV) := r.map fun b => [PV.bool b]
def rch (R : List (List Bool)) : List (List PV) := R.map fun r => [PV.sl 1 (brow r)]
def ns (l : List Nat) : List (List PV) := l.map fun (k : Nat) => [PV.int .i64 (k : Int)]
theorem ctrs_length (l : List Ct) : (ctrs l).length = l.length := by simp [ctrs]
theorem rch_length (l : List (List Bool)) : (rch l).length = l.length := by simp [rch]
theorem ns_length (l : List Nat) : (ns l).length = l.length := by simp [ns]
theorem ns_app (a b : List Nat) : ns a ++ ns b = ns (a ++ b) := by simp [ns]

theorem getE_map {α β : Type} (f : β → List PV) (d : β) {L : List β} {i : Nat} (hi : i < L.length) (K : List PV → Option α) : getE (L.map f) (i : Int) K = K (f (L.getD i d)) := by
  unfold getE
  have h1 : leB 0 (i : Int) = true := by simp
  have h2 : ltB (i : Int) ((L.map f).length : Int) = true := by simp; omega
  rw [h1, h2, nth_eq, Bool.and_self, ctl_true]
  simp [List.getD, hi]
theorem getE_ctrs {α : Type} {L : List Ct} {i : Nat} (hi : i < L.length) (K : List PV → Option α) : getE (ctrs L) (i : Int) K = K (ctr (gt L i)) := getE_map ctr default hi K
theorem getE_rch {α : Type} {L : List (List Bool)} {i : Nat} (hi : i < L.length) (K : List PV → Option α) : getE (rch L) (i : Int) K = K [PV.sl 1 (brow (L.getD i []))] := getE_map (fun r => [PV.sl 1 (brow r)]) [] hi K
theorem getE_brow {α : Type} {L : List Bool} {i : Nat} (hi : i < L.length) (K : List PV → Option α) : getE (brow L) (i : Int) K = K [PV.bool (L.getD i false)] := getE_map (fun b => [PV.bool b]) false hi K
theorem getE_ns {α : Type} {L : List Nat} {i : Nat} (hi : i < L.length) (K : List PV → Option α) : getE (ns L) (i : Int) K = K [PV.int .i64 (L.getD i 0 : Nat)] := getE_map (fun (k : Nat) => [PV.int .i64 (k : Int)]) 0 hi K
theorem in_len {n i : Nat} (h : i < n) : (leB 0 (i : Int) && ltB (i : Int) (n : Int)) = true := by simp; omega
theorem eqAV_self (w : AV) : eqAV w w = true := by simp [eqAV]
theorem nc0 : ((0 : Nat) : Int) = 0 := rfl
theorem succ_cast (i : Nat) : (i : Int) + 1 = ((i + 1 : Nat) : Int) := by omega

theorem setEs_0 {L : List Ct} {i : Nat} (h : i < L.length) (a b c : Int) : setEs (ctrs L) i 0 [PV.int .i64 a, PV.int .i64 b, PV.int .i64 c] = ctrs (L.set i ⟨a, b, c⟩) := by
  unfold setEs
  rw [upd_eq]
  have h1 : lay (nth [] (ctrs L) i) 0 [PV.int .i64 a, PV.int .i64 b, PV.int .i64 c] = ctr ⟨a, b, c⟩ := by
    rw [nth_eq]
    simp [ctrs, List.getD, h, lay, lay.go, ctr]
  rw [h1]
  simp [ctrs, List.map_set]
theorem setEs_st {L : List Ct} {i : Nat} (h : i < L.length) (a : Int) : setEs (ctrs L) i 0 [PV.int .i64 a] = ctrs (L.set i ⟨a, (gt L i).ep, (gt L i).hd⟩) := by
  unfold setEs
  rw [upd_eq]
  have h1 : lay (nth [] (ctrs L) i) 0 [PV.int .i64 a] = ctr ⟨a, (gt L i).ep, (gt L i).hd⟩ := by
    rw [nth_eq]
    simp [ctrs, List.getD, h, lay, lay.go, ctr, gt]
  rw [h1]
  simp [ctrs, List.map_set]
theorem setEs_ep {L : List Ct} {i : Nat} (h : i < L.length) (a : Int) : setEs (ctrs L) i 1 [PV.int .i64 a] = ctrs (L.set i ⟨(gt L i).st, a, (gt L i).hd⟩) := by
  unfold setEs
  rw [upd_eq]
  have h1 : lay (nth [] (ctrs L) i) 1 [PV.int .i64 a] = ctr ⟨(gt L i).st, a, (gt L i).hd⟩ := by
    rw [nth_eq]
    simp [ctrs, List.getD, h, lay, lay.go, ctr, gt]
  rw [h1]
  simp [ctrs, List.map_set]
theorem setEs_hd {L : List Ct} {i : Nat} (h : i < L.length) (a : Int) : setEs (ctrs L) i 2 [PV.int .i64 a] = ctrs (L.set i ⟨(gt L i).st, (gt L i).ep, a⟩) := by
  unfold setEs
  rw [upd_eq]
  have h1 : lay (nth [] (ctrs L) i) 2 [PV.int .i64 a] = ctr ⟨(gt L i).st, (gt L i).ep, a⟩ := by
    rw [nth_eq]
    simp [ctrs, List.getD, h, lay, lay.go, ctr, gt]
  rw [h1]
  simp [ctrs, List.map_set]

/-! ### Parties -/
abbrev pty (l : List Ct) (R : List (List Bool)) : AV := AV.agg [PV.sl 3 (ctrs l), PV.sl 1 (rch R)]
abbrev bpt (l : List Ct) (R : List (List Bool)) : Blk := Blk.box [AV.sl 3 (ctrs l), AV.sl 1 (rch R)]
abbrev ctA (c : Ct) : AV := AV.agg [PV.int .i64 c.st, PV.int .i64 c.ep, PV.int .i64 c.hd]

theorem c_up {l : List Ct} {R : List (List Bool)} {i : Nat} (hi : i < l.length) : denC E 40 [pty l R, AV.int .i64 (i : Int)] [] = some ([RV.p (PV.bool (upB l i))], []) := by
  rw [denC_eq, r40, getE_ctrs hi]
  simp only [bnd_some, ctl_true, ctl_false, ctl_and, ctl_or', ctl_or2, x_toPV, x_toCs, x_toCs2, x_toEs, x_bEs, x_bCs, x_aPV, x_aCs, x_int, x_bool, x_str, x_es, x_esn, nth_0, nth_1, nth_2, nth_3, nth_4, nth_5, nth_6, nth_7, nth_8, nth_9, y_nil, y_int, y_bool, y_str, y_sl, y_nils, y_agg, y_ownp, y_own, z_nil, z_int, z_bool, z_str, z_sl, z_nils, b_nil, b_arr, b_box1, b_box2, b_box3, b_box4, List.map_cons, List.map_nil, Bool.and_self, Bool.and_true, Bool.true_and, Bool.not_true, Bool.not_false, Bool.or_false, Bool.false_or, cond_true, cond_false, okPack, okPut, okPutBlks, okPutCells, q_isP, q_isAg, q_isBox, q_isArr, q_int, q_bool, q_str, q_sl, q_nils, e_exit, e_ret, e_nrm, e_ret_exit, e_exit_ret, e_nrm_exit, e_nrm_ret, e_exit_nrm, e_ret_nrm, Nat.zero_add, Nat.reduceAdd, noslR, noslP, noslB, noslA, List.all_cons, List.all_nil]
  rfl
theorem c_act {l : List Ct} {R : List (List Bool)} {i : Nat} (hi : i < l.length) : denC E 44 [pty l R, AV.int .i64 (i : Int)] [] = some ([RV.p (PV.bool (actB l i))], []) := by
  rw [denC_eq, r44, getE_ctrs hi]
  simp only [bnd_some, ctl_true, ctl_false, ctl_and, ctl_or', ctl_or2, x_toPV, x_toCs, x_toCs2, x_toEs, x_bEs, x_bCs, x_aPV, x_aCs, x_int, x_bool, x_str, x_es, x_esn, nth_0, nth_1, nth_2, nth_3, nth_4, nth_5, nth_6, nth_7, nth_8, nth_9, y_nil, y_int, y_bool, y_str, y_sl, y_nils, y_agg, y_ownp, y_own, z_nil, z_int, z_bool, z_str, z_sl, z_nils, b_nil, b_arr, b_box1, b_box2, b_box3, b_box4, List.map_cons, List.map_nil, Bool.and_self, Bool.and_true, Bool.true_and, Bool.not_true, Bool.not_false, Bool.or_false, Bool.false_or, cond_true, cond_false, okPack, okPut, okPutBlks, okPutCells, q_isP, q_isAg, q_isBox, q_isArr, q_int, q_bool, q_str, q_sl, q_nils, e_exit, e_ret, e_nrm, e_ret_exit, e_exit_ret, e_nrm_exit, e_nrm_ret, e_exit_nrm, e_ret_nrm, Nat.zero_add, Nat.reduceAdd, noslR, noslP, noslB, noslA, List.all_cons, List.all_nil]
  rfl
theorem c_maj {l : List Ct} {R : List (List Bool)} {n : Nat} (hn : n ≤ 1000) : denC E 45 [pty l R, AV.int .i64 (n : Int)] [] = some ([RV.p (PV.bool (maj l n))], []) := by
  rw [denC_eq, r45, w64 (by omega), ctrs_length]
  rfl

theorem hears_loop {l : List Ct} {R : List (List Bool)} (hS : Sq l R) {i : Nat} (hi : i < l.length) : ∀ (m k : Nat) (acc : List Nat), k + m = l.length → acc.length ≤ k →
    lp E (denC E) 36 0 [] 0 { vals := [AV.int .i64 i, AV.int .i64 l.length, AV.int .i64 k], blks := [bpt l R, Blk.arr 1 (ns acc)] } =
      some (Ex.exit 0, { vals := [], blks := [Blk.arr 1 (ns (acc ++ (List.range' k m).filter (hr l R i)))] }) := by
  have h5 := hS.n5
  intro m
  induction m with
  | zero =>
    intro k acc hk ha
    rw [r36_0, ctl_dec, if_neg (by omega)]
    simp
  | succ m ih =>
    intro k acc hk ha
    have hkl : k < l.length := by omega
    have hl : leN (((ns acc).length + 1) * 8) 140737488355328 = true := by rw [ns_length]; simp only [decide_eq_true_eq]; omega
    rw [r36_0, ctl_dec, if_pos (by omega), c_up hi, w64 (n := (k : Int) + 1) (by omega), succ_cast]
    rw [getE_rch (by rw [hS.r]; exact hi), getE_rch (by rw [hS.r]; exact hkl)]
    simp only [c_up hkl, bnd_some, ctl_true, ctl_false, ctl_and, ctl_or', ctl_or2, x_toPV, x_toCs, x_toCs2, x_toEs, x_bEs, x_bCs, x_aPV, x_aCs, x_int, x_bool, x_str, x_es, x_esn, nth_0, nth_1, nth_2, nth_3, nth_4, nth_5, nth_6, nth_7, nth_8, nth_9, y_nil, y_int, y_bool, y_str, y_sl, y_nils, y_agg, y_ownp, y_own, z_nil, z_int, z_bool, z_str, z_sl, z_nils, b_nil, b_arr, b_box1, b_box2, b_box3, b_box4, List.map_cons, List.map_nil, Bool.and_self, Bool.and_true, Bool.true_and, Bool.not_true, Bool.not_false, Bool.or_false, Bool.false_or, cond_true, cond_false, okPack, okPut, okPutBlks, okPutCells, q_isP, q_isAg, q_isBox, q_isArr, q_int, q_bool, q_str, q_sl, q_nils, e_exit, e_ret, e_nrm, e_ret_exit, e_exit_ret, e_nrm_exit, e_nrm_ret, e_exit_nrm, e_ret_nrm, Nat.zero_add, Nat.reduceAdd, noslR, noslP, noslB, noslA, List.all_cons, List.all_nil, getE_brow (L := R.getD i []) (i := k) (by rw [hS.c i hi]; exact hkl), getE_brow (L := R.getD k []) (i := i) (by rw [hS.c k hkl]; exact hi), ctl_and, ctl_or', hl]
    have e : (((upB l i && upB l k) && (((i : Int) == k) || (rb R i k || rb R k i)))) = hr l R i k := rfl
    rw [e, List.range'_succ, List.filter_cons]
    cases hh : hr l R i k with
    | true =>
      have en : ns acc ++ [[PV.int IntKind.i64 (k : Int)]] = ns (acc ++ [k]) := by simp [ns]
      rw [ctl_true, en, ih (k + 1) (acc ++ [k]) (by omega) (by simp; omega)]
      simp
    | false =>
      rw [ctl_false, ih (k + 1) acc (by omega) (by omega)]
      simp

theorem c_hears {l : List Ct} {R : List (List Bool)} (hS : Sq l R) {i : Nat} (hi : i < l.length) : denC E 36 [pty l R, AV.int .i64 (i : Int)] [] = some ([RV.p (PV.sl 1 (ns (hearsL l R i)))], []) := by
  have h := hears_loop hS hi l.length 0 [] (by omega) (by simp)
  rw [denC_eq, r36, ctrs_length]
  have e0 : ns [] = [] := rfl
  rw [e0, nc0] at h
  rw [h]
  simp only [bnd_some, ctl_true, ctl_false, ctl_and, ctl_or', ctl_or2, x_toPV, x_toCs, x_toCs2, x_toEs, x_bEs, x_bCs, x_aPV, x_aCs, x_int, x_bool, x_str, x_es, x_esn, nth_0, nth_1, nth_2, nth_3, nth_4, nth_5, nth_6, nth_7, nth_8, nth_9, y_nil, y_int, y_bool, y_str, y_sl, y_nils, y_agg, y_ownp, y_own, z_nil, z_int, z_bool, z_str, z_sl, z_nils, b_nil, b_arr, b_box1, b_box2, b_box3, b_box4, List.map_cons, List.map_nil, Bool.and_self, Bool.and_true, Bool.true_and, Bool.not_true, Bool.not_false, Bool.or_false, Bool.false_or, cond_true, cond_false, okPack, okPut, okPutBlks, okPutCells, q_isP, q_isAg, q_isBox, q_isArr, q_int, q_bool, q_str, q_sl, q_nils, e_exit, e_ret, e_nrm, e_ret_exit, e_exit_ret, e_nrm_exit, e_nrm_ret, e_exit_nrm, e_ret_nrm, Nat.zero_add, Nat.reduceAdd, noslR, noslP, noslB, noslA, List.all_cons, List.all_nil, List.nil_append]
  rfl

theorem hears_lt {l : List Ct} {R : List (List Bool)} {i k : Nat} (h : k ∈ hearsL l R i) : k < l.length := by
  have := (List.mem_filter.1 h).1
  simp at this
  exact this
theorem hears_len {l : List Ct} {R : List (List Bool)} (i : Nat) : (hearsL l R i).length ≤ l.length := by
  have := List.length_filter_le (hr l R i) (List.range' 0 l.length)
  simpa [hearsL] using this

end Go.Proofs.Ythmhnnppikdafaa.Vm
