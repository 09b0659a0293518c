/- Ships: the source, the check, what the thrusters give together. -/
import Derived.Test.YtcnjaffogkkpnaaThrusterC
namespace Go.Proofs.Ytcnjaffogkkpnaa.Vm
set_option linter.unusedVariables false
set_option linter.unusedSimpArgs false

def thK (l : List Thr) : List (List PV) := l.map thC
theorem thK_length (l : List Thr) : (thK l).length = l.length := by simp [thK]
theorem thK_append (a b : List Thr) : thK (a ++ b) = thK a ++ thK b := by simp [thK]
theorem getE_th {α : Type} (p : List Thr) (s : Thr) (l : List Thr) (K : List PV → Option α) : getE (thK (p ++ s :: l)) (p.length : Int) K = K (thC s) := getE_midG thC p s l K

structure Shp where
  bw : Int
  sn : Int
  ts : List Thr

def shpC (s : Shp) : List PV := [PV.int .i64 s.bw, PV.int .i64 s.sn, PV.sl 6 (thK s.ts)]
/-- The ships that the source makes. -/
def SrcS (s : Shp) (most : Nat) : Prop := 0 ≤ s.bw ∧ s.bw ≤ 60 ∧ 1 ≤ s.sn ∧ s.sn ≤ 40 ∧ s.ts.length ≤ most ∧ ∀ t ∈ s.ts, SrcT t

theorem ship_loop {L : List Int} (hL : L.length ≤ 600) (b1 : Blk) (h1 : b1 = Blk.box [AV.int .i64 0, AV.int .i64 0, AV.sl 6 []]) (c0 c1 : Int) : ∀ (n k : Nat) (acc : List Thr), k ≤ 600 → acc.length + n ≤ 1000 →
    ∃ (l : List Thr) (k' : Nat), lp E (denC E) 26 1 [] 0 { vals := [AV.int .i64 n], blks := [src L k, b1, Blk.box [AV.int .i64 c0, AV.int .i64 c1, AV.t (TV.hsl 3)], Blk.arr 6 (thK acc)] } =
      some (Ex.exit 0, { vals := [], blks := [src L k', b1, Blk.box [AV.int .i64 c0, AV.int .i64 c1, AV.t (TV.hsl 3)], Blk.arr 6 (thK (acc ++ l))] }) ∧ l.length = n ∧ (∀ t ∈ l, SrcT t) ∧ k' ≤ 600
  | 0, k, acc, hk, ha => by
    subst h1
    refine ⟨[], k, ?_, rfl, fun t ht => (by cases ht), hk⟩
    rw [r26_0, ctl_dec, if_neg (by omega), List.append_nil]
  | n + 1, k, acc, hk, ha => by
    obtain ⟨t, k2, hT, hs, hk2⟩ := c_Thruster hL hk
    obtain ⟨l, k', h2, h3, h4, h5⟩ := ship_loop hL b1 h1 c0 c1 n k2 (acc ++ [t]) hk2 (by simp; omega)
    subst h1
    refine ⟨t :: l, k', ?_, by simp [h3], fun x hx => ?_, h5⟩
    · rw [r26_0, ctl_dec, if_pos (by omega), hT]
      unfold thC
      simp only [bnd_some, ctl_true, ctl_false, ctl_and, ctl_or', ctl_or2, x_toPV, x_toCs, x_toCs2, x_toEs, x_bEs, x_bCs, x_aPV, x_aCs, x_int, x_bool, x_str, x_es, x_esn, nth_0, nth_1, nth_2, nth_3, nth_4, nth_5, nth_6, nth_7, nth_8, nth_9, y_nil, y_int, y_bool, y_str, y_sl, y_nils, y_agg, y_ownp, y_own, z_nil, z_int, z_bool, z_str, z_sl, z_nils, b_nil, b_arr, b_box1, b_box2, b_box3, b_box4, List.map_cons, List.map_nil, Bool.and_self, Bool.and_true, Bool.true_and, Bool.not_true, Bool.not_false, Bool.or_false, Bool.false_or, cond_true, cond_false, okPack, okPut, okPutBlks, okPutCells, q_isP, q_isAg, q_isBox, q_isArr, q_int, q_bool, q_str, q_sl, q_nils, e_exit, e_ret, e_nrm, e_ret_exit, e_exit_ret, e_nrm_exit, e_nrm_ret, e_exit_nrm, e_ret_nrm, Nat.zero_add, Nat.reduceAdd, noslR, noslP, noslB, noslA, List.all_cons, List.all_nil]
      have e2 : leN (((thK acc).length + 1) * 64) 140737488355328 = true := by rw [thK_length]; simp only [decide_eq_true_eq]; omega
      rw [e2, w64 (by omega)]
      have e3 : ((n + 1 : Nat) : Int) - 1 = (n : Nat) := by omega
      rw [e3]
      rw [thK_append] at h2
      simp only [ctl_true]
      refine Eq.trans h2 ?_
      simp only [List.append_assoc, List.cons_append, List.nil_append]
    · rcases List.mem_cons.1 hx with rfl | hx
      · exact hs
      · exact h4 x hx

theorem c_Ship {L : List Int} {k : Nat} (hL : L.length ≤ 600) (hk : k ≤ 600) {most : Nat} (hmost : most ≤ 8) :
    ∃ (s : Shp) (k' : Nat), denC E 26 [AV.t (.ptr 0 0), AV.int .i64 (most : Int)] [src L k] = some ([RV.agg (shpC s)], [src L k']) ∧ SrcS s most ∧ k' ≤ 600 := by
  have hk1 := at'_le hL hk
  have hk2 := at'_le hL hk1
  have hk3 := at'_le hL hk2
  have e1 : denC E 49 [AV.t (.ptr 0 0), AV.sl 1 [[PV.int .i64 0], [PV.int .i64 1], [PV.int .i64 30], [PV.int .i64 60]]] _ = _ := c_Pick hL hk (l := [0, 1, 30, 60]) (by decide)
  have e2 : denC E 49 [AV.t (.ptr 0 0), AV.sl 1 [[PV.int .i64 1], [PV.int .i64 25], [PV.int .i64 40]]] _ = _ := c_Pick hL hk1 (l := [1, 25, 40]) (by decide)
  have b1 := vPick_mem L k (l := [0, 1, 30, 60]) (by decide)
  have b2 := vPick_mem L (at' L k) (l := [1, 25, 40]) (by decide)
  have hN := c_N hL hk2 ((most : Int) + 1) (by omega)
  have bN := vN_bounds (L := L) (k := at' L (at' L k)) (n := (most : Int) + 1) (by omega)
  obtain ⟨m, hm⟩ : ∃ m : Nat, vN L (at' L (at' L k)) ((most : Int) + 1) = (m : Int) := ⟨_, (Int.toNat_of_nonneg bN.1).symm⟩
  rw [hm] at hN bN
  obtain ⟨l, k', h1, h2, h3, h4⟩ := ship_loop hL _ rfl (vPick L k [0, 1, 30, 60]) (vPick L (at' L k) [1, 25, 40]) m (at' L (at' L (at' L k))) [] hk3 (by simp; omega)
  have ea : thK [] = [] := rfl
  rw [ea] at h1
  refine ⟨⟨vPick L k [0, 1, 30, 60], vPick L (at' L k) [1, 25, 40], l⟩, k', ?_, ?_, h4⟩
  · rw [denC_eq, r26, e1]
    simp only [bnd_some, ctl_true, ctl_false, ctl_and, ctl_or', ctl_or2, x_toPV, x_toCs, x_toCs2, x_toEs, x_bEs, x_bCs, x_aPV, x_aCs, x_int, x_bool, x_str, x_es, x_esn, nth_0, nth_1, nth_2, nth_3, nth_4, nth_5, nth_6, nth_7, nth_8, nth_9, y_nil, y_int, y_bool, y_str, y_sl, y_nils, y_agg, y_ownp, y_own, z_nil, z_int, z_bool, z_str, z_sl, z_nils, b_nil, b_arr, b_box1, b_box2, b_box3, b_box4, List.map_cons, List.map_nil, Bool.and_self, Bool.and_true, Bool.true_and, Bool.not_true, Bool.not_false, Bool.or_false, Bool.false_or, cond_true, cond_false, okPack, okPut, okPutBlks, okPutCells, q_isP, q_isAg, q_isBox, q_isArr, q_int, q_bool, q_str, q_sl, q_nils, e_exit, e_ret, e_nrm, e_ret_exit, e_exit_ret, e_nrm_exit, e_nrm_ret, e_exit_nrm, e_ret_nrm, Nat.zero_add, Nat.reduceAdd, noslR, noslP, noslB, noslA, List.all_cons, List.all_nil]
    rw [e2]
    simp only [bnd_some, ctl_true, ctl_false, ctl_and, ctl_or', ctl_or2, x_toPV, x_toCs, x_toCs2, x_toEs, x_bEs, x_bCs, x_aPV, x_aCs, x_int, x_bool, x_str, x_es, x_esn, nth_0, nth_1, nth_2, nth_3, nth_4, nth_5, nth_6, nth_7, nth_8, nth_9, y_nil, y_int, y_bool, y_str, y_sl, y_nils, y_agg, y_ownp, y_own, z_nil, z_int, z_bool, z_str, z_sl, z_nils, b_nil, b_arr, b_box1, b_box2, b_box3, b_box4, List.map_cons, List.map_nil, Bool.and_self, Bool.and_true, Bool.true_and, Bool.not_true, Bool.not_false, Bool.or_false, Bool.false_or, cond_true, cond_false, okPack, okPut, okPutBlks, okPutCells, q_isP, q_isAg, q_isBox, q_isArr, q_int, q_bool, q_str, q_sl, q_nils, e_exit, e_ret, e_nrm, e_ret_exit, e_exit_ret, e_nrm_exit, e_nrm_ret, e_exit_nrm, e_ret_nrm, Nat.zero_add, Nat.reduceAdd, noslR, noslP, noslB, noslA, List.all_cons, List.all_nil]
    rw [w64 (n := (most : Int) + 1) (by omega), hN]
    simp only [bnd_some, ctl_true, ctl_false, ctl_and, ctl_or', ctl_or2, x_toPV, x_toCs, x_toCs2, x_toEs, x_bEs, x_bCs, x_aPV, x_aCs, x_int, x_bool, x_str, x_es, x_esn, nth_0, nth_1, nth_2, nth_3, nth_4, nth_5, nth_6, nth_7, nth_8, nth_9, y_nil, y_int, y_bool, y_str, y_sl, y_nils, y_agg, y_ownp, y_own, z_nil, z_int, z_bool, z_str, z_sl, z_nils, b_nil, b_arr, b_box1, b_box2, b_box3, b_box4, List.map_cons, List.map_nil, Bool.and_self, Bool.and_true, Bool.true_and, Bool.not_true, Bool.not_false, Bool.or_false, Bool.false_or, cond_true, cond_false, okPack, okPut, okPutBlks, okPutCells, q_isP, q_isAg, q_isBox, q_isArr, q_int, q_bool, q_str, q_sl, q_nils, e_exit, e_ret, e_nrm, e_ret_exit, e_exit_ret, e_nrm_exit, e_nrm_ret, e_exit_nrm, e_ret_nrm, Nat.zero_add, Nat.reduceAdd, noslR, noslP, noslB, noslA, List.all_cons, List.all_nil]
    rw [h1]
    simp only [bnd_some, ctl_true, ctl_false, ctl_and, ctl_or', ctl_or2, x_toPV, x_toCs, x_toCs2, x_toEs, x_bEs, x_bCs, x_aPV, x_aCs, x_int, x_bool, x_str, x_es, x_esn, nth_0, nth_1, nth_2, nth_3, nth_4, nth_5, nth_6, nth_7, nth_8, nth_9, y_nil, y_int, y_bool, y_str, y_sl, y_nils, y_agg, y_ownp, y_own, z_nil, z_int, z_bool, z_str, z_sl, z_nils, b_nil, b_arr, b_box1, b_box2, b_box3, b_box4, List.map_cons, List.map_nil, Bool.and_self, Bool.and_true, Bool.true_and, Bool.not_true, Bool.not_false, Bool.or_false, Bool.false_or, cond_true, cond_false, okPack, okPut, okPutBlks, okPutCells, q_isP, q_isAg, q_isBox, q_isArr, q_int, q_bool, q_str, q_sl, q_nils, e_exit, e_ret, e_nrm, e_ret_exit, e_exit_ret, e_nrm_exit, e_nrm_ret, e_exit_nrm, e_ret_nrm, Nat.zero_add, Nat.reduceAdd, noslR, noslP, noslB, noslA, List.all_cons, List.all_nil, List.nil_append]
    rfl
  · simp only [List.mem_cons, List.not_mem_nil, or_false] at b1 b2
    exact ⟨by simp only; omega, by simp only; omega, by simp only; omega, by simp only; omega, by simp only; omega, h3⟩

def SmL (l : List (Int × Int)) (m : Int) : Prop := ∀ v ∈ l, -m ≤ v.1 ∧ v.1 ≤ m ∧ -m ≤ v.2 ∧ v.2 ≤ m

theorem thrusts_loop {L : List Int} (hL : L.length ≤ 600) (N : Nat) (hN : N ≤ 1000) : ∀ (n : Nat) (i : Nat) (k : Nat) (acc : List (Int × Int)), k ≤ 600 → i + n = N → acc.length = i →
    ∃ (l : List (Int × Int)) (k' : Nat), lp E (denC E) 14 1 [] 0 { vals := [AV.int .i64 N, AV.int .i64 i], blks := [src L k, Blk.arr 2 (arcK acc)] } =
      some (Ex.exit 0, { vals := [], blks := [src L k', Blk.arr 2 (arcK (acc ++ l))] }) ∧ l.length = n ∧ SmL l 20 ∧ k' ≤ 600
  | 0, i, k, acc, hk, hi, ha => by
    refine ⟨[], k, ?_, rfl, fun t ht => (by cases ht), hk⟩
    rw [r14_0, ctl_dec, if_neg (by omega), List.append_nil]
  | n + 1, i, k, acc, hk, hi, ha => by
    have hk1 := at'_le hL hk
    have r1 := c_Range hL hk (lo := -20) (hi := 20) (by omega)
    have r2 := c_Range hL hk1 (lo := -20) (hi := 20) (by omega)
    have b1 := vRange_bounds (L := L) (k := k) (lo := -20) (hi := 20) (by omega)
    have b2 := vRange_bounds (L := L) (k := at' L k) (lo := -20) (hi := 20) (by omega)
    generalize vRange L k (-20) 20 = x at *
    generalize vRange L (at' L k) (-20) 20 = y at *
    obtain ⟨l, k', h2, h3, h4, h5⟩ := thrusts_loop hL N hN n (i + 1) (at' L (at' L k)) (acc ++ [(x, y)]) (at'_le hL hk1) (by omega) (by simp [ha])
    refine ⟨(x, y) :: l, k', ?_, by simp [h3], fun v hv => ?_, h5⟩
    · rw [r14_0, ctl_dec, if_pos (by omega), r1]
      simp only [bnd_some, ctl_true, ctl_false, ctl_and, ctl_or', ctl_or2, x_toPV, x_toCs, x_toCs2, x_toEs, x_bEs, x_bCs, x_aPV, x_aCs, x_int, x_bool, x_str, x_es, x_esn, nth_0, nth_1, nth_2, nth_3, nth_4, nth_5, nth_6, nth_7, nth_8, nth_9, y_nil, y_int, y_bool, y_str, y_sl, y_nils, y_agg, y_ownp, y_own, z_nil, z_int, z_bool, z_str, z_sl, z_nils, b_nil, b_arr, b_box1, b_box2, b_box3, b_box4, List.map_cons, List.map_nil, Bool.and_self, Bool.and_true, Bool.true_and, Bool.not_true, Bool.not_false, Bool.or_false, Bool.false_or, cond_true, cond_false, okPack, okPut, okPutBlks, okPutCells, q_isP, q_isAg, q_isBox, q_isArr, q_int, q_bool, q_str, q_sl, q_nils, e_exit, e_ret, e_nrm, e_ret_exit, e_exit_ret, e_nrm_exit, e_nrm_ret, e_exit_nrm, e_ret_nrm, Nat.zero_add, Nat.reduceAdd, noslR, noslP, noslB, noslA, List.all_cons, List.all_nil]
      rw [r2]
      simp only [bnd_some, ctl_true, ctl_false, ctl_and, ctl_or', ctl_or2, x_toPV, x_toCs, x_toCs2, x_toEs, x_bEs, x_bCs, x_aPV, x_aCs, x_int, x_bool, x_str, x_es, x_esn, nth_0, nth_1, nth_2, nth_3, nth_4, nth_5, nth_6, nth_7, nth_8, nth_9, y_nil, y_int, y_bool, y_str, y_sl, y_nils, y_agg, y_ownp, y_own, z_nil, z_int, z_bool, z_str, z_sl, z_nils, b_nil, b_arr, b_box1, b_box2, b_box3, b_box4, List.map_cons, List.map_nil, Bool.and_self, Bool.and_true, Bool.true_and, Bool.not_true, Bool.not_false, Bool.or_false, Bool.false_or, cond_true, cond_false, okPack, okPut, okPutBlks, okPutCells, q_isP, q_isAg, q_isBox, q_isArr, q_int, q_bool, q_str, q_sl, q_nils, e_exit, e_ret, e_nrm, e_ret_exit, e_exit_ret, e_nrm_exit, e_nrm_ret, e_exit_nrm, e_ret_nrm, Nat.zero_add, Nat.reduceAdd, noslR, noslP, noslB, noslA, List.all_cons, List.all_nil]
      have e2 : leN (((arcK acc).length + 1) * 16) 140737488355328 = true := by rw [arcK_length]; simp only [decide_eq_true_eq]; omega
      rw [e2, w64 (by omega)]
      have e3 : (i : Int) + 1 = ((i + 1 : Nat) : Int) := by omega
      rw [e3]
      rw [arcK_append] at h2
      simp only [ctl_true]
      refine Eq.trans h2 ?_
      simp only [List.append_assoc, List.cons_append, List.nil_append]
    · rcases List.mem_cons.1 hv with rfl | hv
      · exact ⟨b1.1, b1.2, b2.1, b2.2⟩
      · exact h4 v hv

theorem c_Thrusts {L : List Int} {k : Nat} (hL : L.length ≤ 600) (hk : k ≤ 600) (s : Shp) (hs : s.ts.length ≤ 1000) :
    ∃ (l : List (Int × Int)) (k' : Nat), denC E 14 [AV.t (.ptr 0 0), AV.agg (shpC s)] [src L k] = some ([RV.p (PV.sl 2 (arcK l))], [src L k']) ∧ l.length = s.ts.length ∧ SmL l 20 ∧ k' ≤ 600 := by
  obtain ⟨l, k', h1, h2, h3, h4⟩ := thrusts_loop hL s.ts.length hs s.ts.length 0 k [] hk (by omega) rfl
  refine ⟨l, k', ?_, h2, h3, h4⟩
  unfold shpC
  rw [denC_eq, r14, thK_length]
  have ea : arcK [] = [] := rfl
  have e0 : (((0 : Nat)) : Int) = 0 := rfl
  rw [ea, e0] at h1
  rw [h1]
  simp only [bnd_some, ctl_true, ctl_false, ctl_and, ctl_or', ctl_or2, x_toPV, x_toCs, x_toCs2, x_toEs, x_bEs, x_bCs, x_aPV, x_aCs, x_int, x_bool, x_str, x_es, x_esn, nth_0, nth_1, nth_2, nth_3, nth_4, nth_5, nth_6, nth_7, nth_8, nth_9, y_nil, y_int, y_bool, y_str, y_sl, y_nils, y_agg, y_ownp, y_own, z_nil, z_int, z_bool, z_str, z_sl, z_nils, b_nil, b_arr, b_box1, b_box2, b_box3, b_box4, List.map_cons, List.map_nil, Bool.and_self, Bool.and_true, Bool.true_and, Bool.not_true, Bool.not_false, Bool.or_false, Bool.false_or, cond_true, cond_false, okPack, okPut, okPutBlks, okPutCells, q_isP, q_isAg, q_isBox, q_isArr, q_int, q_bool, q_str, q_sl, q_nils, e_exit, e_ret, e_nrm, e_ret_exit, e_exit_ret, e_nrm_exit, e_nrm_ret, e_exit_nrm, e_ret_nrm, Nat.zero_add, Nat.reduceAdd, noslR, noslP, noslB, noslA, List.all_cons, List.all_nil, List.nil_append]

/-! ### Check -/
def OkShp (s : Shp) : Prop := s.ts.length ≤ 8 ∧ 0 ≤ s.bw ∧ s.bw ≤ 200 ∧ 0 ≤ s.sn ∧ s.sn ≤ 200 ∧ ¬ (s.bw = 0 ∧ s.sn = 0) ∧ ∀ t ∈ s.ts, okT t = true ∧ t.fb.length ≤ maxLen
theorem SrcS_ok {s : Shp} {m : Nat} (h : SrcS s m) (hm : m ≤ 8) : OkShp s := by
  obtain ⟨h1, h2, h3, h4, h5, h6⟩ := h
  exact ⟨by omega, by omega, by omega, by omega, by omega, by omega, fun t ht => ⟨SrcT_ok (h6 t ht), Nat.le_trans (h6 t ht).2.2.2.2.2.2.2.2.2.2.1 (by decide)⟩⟩

theorem c_Chk1 {t : Thr} (h : t.fb.length ≤ maxLen) : denC E 63 [AV.agg (thC t)] [] = some ([RV.p (PV.bool (!okT t))], []) := by
  have hV := c_TValid h
  unfold thC at hV ⊢
  rw [denC_eq, r63, hV]
  simp only [bnd_some, ctl_true, ctl_false, ctl_and, ctl_or', ctl_or2, x_toPV, x_toCs, x_toCs2, x_toEs, x_bEs, x_bCs, x_aPV, x_aCs, x_int, x_bool, x_str, x_es, x_esn, nth_0, nth_1, nth_2, nth_3, nth_4, nth_5, nth_6, nth_7, nth_8, nth_9, y_nil, y_int, y_bool, y_str, y_sl, y_nils, y_agg, y_ownp, y_own, z_nil, z_int, z_bool, z_str, z_sl, z_nils, b_nil, b_arr, b_box1, b_box2, b_box3, b_box4, List.map_cons, List.map_nil, Bool.and_self, Bool.and_true, Bool.true_and, Bool.not_true, Bool.not_false, Bool.or_false, Bool.false_or, cond_true, cond_false, okPack, okPut, okPutBlks, okPutCells, q_isP, q_isAg, q_isBox, q_isArr, q_int, q_bool, q_str, q_sl, q_nils, e_exit, e_ret, e_nrm, e_ret_exit, e_exit_ret, e_nrm_exit, e_nrm_ret, e_exit_nrm, e_ret_nrm, Nat.zero_add, Nat.reduceAdd, noslR, noslP, noslB, noslA, List.all_cons, List.all_nil]

theorem ixT_loop : ∀ (l p : List Thr), (∀ t ∈ l, okT t = true ∧ t.fb.length ≤ maxLen) → (p ++ l).length ≤ 1000 →
    lp E (denC E) 85 0 [AV.undef, AV.fn 63 []] 0 { vals := [AV.sl 6 (thK (p ++ l)), AV.int .i64 ((p ++ l).length : Int), AV.int .i64 (p.length : Int)], blks := [] } = some (Ex.exit 0, { vals := [], blks := [] })
  | [], p, hs, h => by
    rw [r85_0a, ctl_dec, if_neg (by simp)]
  | s :: l, p, hs, h => by
    have ih := ixT_loop l (p ++ [s]) (fun t ht => hs t (List.mem_cons_of_mem _ ht)) (by simp at h ⊢; omega)
    simp only [List.length_append, List.length_cons] at h
    obtain ⟨h1, h2⟩ := hs s (List.mem_cons_self ..)
    have hc := c_Chk1 h2
    rw [h1] at hc
    unfold thC at hc
    rw [r85_0a, ctl_dec, if_pos (by simp; omega), getE_th]
    simp only [List.append_assoc, List.cons_append, List.nil_append, List.length_append, List.length_cons, List.length_nil] at ih
    unfold thC
    simp only [List.length_append, List.length_cons, bnd_some, ctl_true, ctl_false, ctl_and, ctl_or', ctl_or2, x_toPV, x_toCs, x_toCs2, x_toEs, x_bEs, x_bCs, x_aPV, x_aCs, x_int, x_bool, x_str, x_es, x_esn, nth_0, nth_1, nth_2, nth_3, nth_4, nth_5, nth_6, nth_7, nth_8, nth_9, y_nil, y_int, y_bool, y_str, y_sl, y_nils, y_agg, y_ownp, y_own, z_nil, z_int, z_bool, z_str, z_sl, z_nils, b_nil, b_arr, b_box1, b_box2, b_box3, b_box4, List.map_cons, List.map_nil, Bool.and_self, Bool.and_true, Bool.true_and, Bool.not_true, Bool.not_false, Bool.or_false, Bool.false_or, cond_true, cond_false, okPack, okPut, okPutBlks, okPutCells, q_isP, q_isAg, q_isBox, q_isArr, q_int, q_bool, q_str, q_sl, q_nils, e_exit, e_ret, e_nrm, e_ret_exit, e_exit_ret, e_nrm_exit, e_nrm_ret, e_exit_nrm, e_ret_nrm, Nat.zero_add, Nat.reduceAdd, noslR, noslP, noslB, noslA, List.all_cons, List.all_nil]
    rw [hc]
    simp only [bnd_some, ctl_true, ctl_false, ctl_and, ctl_or', ctl_or2, x_toPV, x_toCs, x_toCs2, x_toEs, x_bEs, x_bCs, x_aPV, x_aCs, x_int, x_bool, x_str, x_es, x_esn, nth_0, nth_1, nth_2, nth_3, nth_4, nth_5, nth_6, nth_7, nth_8, nth_9, y_nil, y_int, y_bool, y_str, y_sl, y_nils, y_agg, y_ownp, y_own, z_nil, z_int, z_bool, z_str, z_sl, z_nils, b_nil, b_arr, b_box1, b_box2, b_box3, b_box4, List.map_cons, List.map_nil, Bool.and_self, Bool.and_true, Bool.true_and, Bool.not_true, Bool.not_false, Bool.or_false, Bool.false_or, cond_true, cond_false, okPack, okPut, okPutBlks, okPutCells, q_isP, q_isAg, q_isBox, q_isArr, q_int, q_bool, q_str, q_sl, q_nils, e_exit, e_ret, e_nrm, e_ret_exit, e_exit_ret, e_nrm_exit, e_nrm_ret, e_exit_nrm, e_ret_nrm, Nat.zero_add, Nat.reduceAdd, noslR, noslP, noslB, noslA, List.all_cons, List.all_nil]
    rw [w64 (n := (p.length : Int) + 1) (by omega)]
    have e1 : ((p.length : Int) + 1) = ((p.length + (0 + 1) : Nat) : Int) := by omega
    rw [e1, ih]

theorem c_Check {s : Shp} (h : OkShp s) : denC E 37 [AV.agg (shpC s)] [] = some ([RV.p (PV.int .i64 0)], []) := by
  obtain ⟨h1, h2, h3, h4, h5, h6, h7⟩ := h
  have hl := ixT_loop s.ts [] h7 (by simp; omega)
  simp only [List.nil_append, List.length_nil] at hl
  have e0 : (((0 : Nat)) : Int) = 0 := rfl
  rw [e0] at hl
  have hix : denC E 85 [AV.sl 6 (thK s.ts), AV.fn 63 []] [] = some ([RV.p (PV.int .i64 (-1))], []) := by
    rw [denC_eq, r85a, thK_length, hl]
    simp only [bnd_some, ctl_true, ctl_false, ctl_and, ctl_or', ctl_or2, x_toPV, x_toCs, x_toCs2, x_toEs, x_bEs, x_bCs, x_aPV, x_aCs, x_int, x_bool, x_str, x_es, x_esn, nth_0, nth_1, nth_2, nth_3, nth_4, nth_5, nth_6, nth_7, nth_8, nth_9, y_nil, y_int, y_bool, y_str, y_sl, y_nils, y_agg, y_ownp, y_own, z_nil, z_int, z_bool, z_str, z_sl, z_nils, b_nil, b_arr, b_box1, b_box2, b_box3, b_box4, List.map_cons, List.map_nil, Bool.and_self, Bool.and_true, Bool.true_and, Bool.not_true, Bool.not_false, Bool.or_false, Bool.false_or, cond_true, cond_false, okPack, okPut, okPutBlks, okPutCells, q_isP, q_isAg, q_isBox, q_isArr, q_int, q_bool, q_str, q_sl, q_nils, e_exit, e_ret, e_nrm, e_ret_exit, e_exit_ret, e_nrm_exit, e_nrm_ret, e_exit_nrm, e_ret_nrm, Nat.zero_add, Nat.reduceAdd, noslR, noslP, noslB, noslA, List.all_cons, List.all_nil]
  have hcf : denC E 62 [AV.sl 6 (thK s.ts), AV.fn 63 []] [] = some ([RV.p (PV.bool false)], []) := by
    rw [denC_eq, r62a, hix]
    simp only [bnd_some, ctl_true, ctl_false, ctl_and, ctl_or', ctl_or2, x_toPV, x_toCs, x_toCs2, x_toEs, x_bEs, x_bCs, x_aPV, x_aCs, x_int, x_bool, x_str, x_es, x_esn, nth_0, nth_1, nth_2, nth_3, nth_4, nth_5, nth_6, nth_7, nth_8, nth_9, y_nil, y_int, y_bool, y_str, y_sl, y_nils, y_agg, y_ownp, y_own, z_nil, z_int, z_bool, z_str, z_sl, z_nils, b_nil, b_arr, b_box1, b_box2, b_box3, b_box4, List.map_cons, List.map_nil, Bool.and_self, Bool.and_true, Bool.true_and, Bool.not_true, Bool.not_false, Bool.or_false, Bool.false_or, cond_true, cond_false, okPack, okPut, okPutBlks, okPutCells, q_isP, q_isAg, q_isBox, q_isArr, q_int, q_bool, q_str, q_sl, q_nils, e_exit, e_ret, e_nrm, e_ret_exit, e_exit_ret, e_nrm_exit, e_nrm_ret, e_exit_nrm, e_ret_nrm, Nat.zero_add, Nat.reduceAdd, noslR, noslP, noslB, noslA, List.all_cons, List.all_nil]
    rfl
  unfold shpC
  rw [denC_eq, r37, hcf, thK_length]
  have e1 : ltB 8 (s.ts.length : Int) = false := by simp only [decide_eq_false_iff_not]; omega
  have e2 : ltB (minI s.sn s.bw) 0 = false := by simp only [decide_eq_false_iff_not]; unfold minI; split <;> omega
  have e3 : ltB 200 (maxI s.sn s.bw) = false := by simp only [decide_eq_false_iff_not]; unfold maxI; split <;> omega
  have e4 : (s.bw == 0 && s.sn == 0) = false := by simp only [Bool.and_eq_false_iff, beq_eq_false_iff_ne]; omega
  simp only [bnd_some, ctl_true, ctl_false, ctl_and, ctl_or', ctl_or2, x_toPV, x_toCs, x_toCs2, x_toEs, x_bEs, x_bCs, x_aPV, x_aCs, x_int, x_bool, x_str, x_es, x_esn, nth_0, nth_1, nth_2, nth_3, nth_4, nth_5, nth_6, nth_7, nth_8, nth_9, y_nil, y_int, y_bool, y_str, y_sl, y_nils, y_agg, y_ownp, y_own, z_nil, z_int, z_bool, z_str, z_sl, z_nils, b_nil, b_arr, b_box1, b_box2, b_box3, b_box4, List.map_cons, List.map_nil, Bool.and_self, Bool.and_true, Bool.true_and, Bool.not_true, Bool.not_false, Bool.or_false, Bool.false_or, cond_true, cond_false, okPack, okPut, okPutBlks, okPutCells, q_isP, q_isAg, q_isBox, q_isArr, q_int, q_bool, q_str, q_sl, q_nils, e_exit, e_ret, e_nrm, e_ret_exit, e_exit_ret, e_nrm_exit, e_nrm_ret, e_exit_nrm, e_ret_nrm, Nat.zero_add, Nat.reduceAdd, noslR, noslP, noslB, noslA, List.all_cons, List.all_nil, e1, e2, e3, e4]

/-! ### Total, Moment -/
def tot : List Thr → List (Int × Int) → Int → Int → Int → Int × Int × Int
  | t :: ts, v :: l, a, b, c => if t.st = 0 then tot ts l (a + v.1) (b + v.2) c else tot ts l (a + v.1) b (c + v.2)
  | _, _, a, b, c => (a, b, c)

theorem tot_loop (s : Shp) (N : Nat) (hN : N ≤ 1000) : ∀ (l p : List (Int × Int)) (ts q : List Thr) (a b c : Int), s.ts = q ++ ts → (p ++ l).length = N → p.length = q.length → l.length = ts.length → SmL l 5000 →
    -5000 * (p.length : Int) ≤ a ∧ a ≤ 5000 * (p.length : Int) → -5000 * (p.length : Int) ≤ b ∧ b ≤ 5000 * (p.length : Int) → -5000 * (p.length : Int) ≤ c ∧ c ≤ 5000 * (p.length : Int) →
    lp E (denC E) 33 0 [] 1 { vals := [AV.sl 2 (arcK (p ++ l)), AV.int .i64 N, AV.int .i64 (p.length : Int)], blks := [Blk.box [AV.int .i64 s.bw, AV.int .i64 s.sn, AV.sl 6 (thK s.ts)], Blk.box [AV.int .i64 0, AV.int .i64 0, AV.int .i64 0], Blk.box [AV.int .i64 a, AV.int .i64 b, AV.int .i64 c]] } =
      some (Ex.exit 1, { vals := [], blks := [Blk.box [AV.int .i64 0, AV.int .i64 0, AV.int .i64 0], Blk.box [AV.int .i64 (tot ts l a b c).1, AV.int .i64 (tot ts l a b c).2.1, AV.int .i64 (tot ts l a b c).2.2]] })
  | [], p, ts, q, a, b, c, hs, hN2, hpq, hl, hm, ha, hb, hc => by
    have : ts = [] := by cases ts with | nil => rfl | cons => cases hl
    subst this
    rw [List.append_nil] at hN2
    rw [r33_1, ctl_dec, if_neg (by omega)]
    rfl
  | v :: l, p, [], q, a, b, c, hs, hN2, hpq, hl, hm, ha, hb, hc => by cases hl
  | v :: l, p, t :: ts, q, a, b, c, hs, hN2, hpq, hl, hm, ha, hb, hc => by
    have hv := hm v (List.mem_cons_self ..)
    have ih := fun a b c => tot_loop s N hN l (p ++ [v]) ts (q ++ [t]) a b c (by rw [hs]; simp) (by rw [← hN2]; simp) (by simp [hpq]) (by simpa using hl) (fun x hx => hm x (List.mem_cons_of_mem _ hx))
    simp only [List.length_append, List.length_cons, List.length_nil] at hN2 ih
    rw [r33_1, ctl_dec, if_pos (by omega), getE_arc]
    have hsm : smallT v.1 v.2 = true := smallT_iff.2 (by omega)
    simp only [arcC, bnd_some, ctl_true, ctl_false, ctl_and, ctl_or', ctl_or2, x_toPV, x_toCs, x_toCs2, x_toEs, x_bEs, x_bCs, x_aPV, x_aCs, x_int, x_bool, x_str, x_es, x_esn, nth_0, nth_1, nth_2, nth_3, nth_4, nth_5, nth_6, nth_7, nth_8, nth_9, y_nil, y_int, y_bool, y_str, y_sl, y_nils, y_agg, y_ownp, y_own, z_nil, z_int, z_bool, z_str, z_sl, z_nils, b_nil, b_arr, b_box1, b_box2, b_box3, b_box4, List.map_cons, List.map_nil, Bool.and_self, Bool.and_true, Bool.true_and, Bool.not_true, Bool.not_false, Bool.or_false, Bool.false_or, cond_true, cond_false, okPack, okPut, okPutBlks, okPutCells, q_isP, q_isAg, q_isBox, q_isArr, q_int, q_bool, q_str, q_sl, q_nils, e_exit, e_ret, e_nrm, e_ret_exit, e_exit_ret, e_nrm_exit, e_nrm_ret, e_exit_nrm, e_ret_nrm, Nat.zero_add, Nat.reduceAdd, noslR, noslP, noslB, noslA, List.all_cons, List.all_nil, c_tsmall, hsm]
    have hg : ∀ {α : Type} (K : List PV → Option α), getE (thK s.ts) (p.length : Int) K = K (thC t) := fun K => by rw [hs, hpq]; exact getE_th q t ts K
    rw [hg]
    unfold thC
    simp only [bnd_some, ctl_true, ctl_false, ctl_and, ctl_or', ctl_or2, x_toPV, x_toCs, x_toCs2, x_toEs, x_bEs, x_bCs, x_aPV, x_aCs, x_int, x_bool, x_str, x_es, x_esn, nth_0, nth_1, nth_2, nth_3, nth_4, nth_5, nth_6, nth_7, nth_8, nth_9, y_nil, y_int, y_bool, y_str, y_sl, y_nils, y_agg, y_ownp, y_own, z_nil, z_int, z_bool, z_str, z_sl, z_nils, b_nil, b_arr, b_box1, b_box2, b_box3, b_box4, List.map_cons, List.map_nil, Bool.and_self, Bool.and_true, Bool.true_and, Bool.not_true, Bool.not_false, Bool.or_false, Bool.false_or, cond_true, cond_false, okPack, okPut, okPutBlks, okPutCells, q_isP, q_isAg, q_isBox, q_isArr, q_int, q_bool, q_str, q_sl, q_nils, e_exit, e_ret, e_nrm, e_ret_exit, e_exit_ret, e_nrm_exit, e_nrm_ret, e_exit_nrm, e_ret_nrm, Nat.zero_add, Nat.reduceAdd, noslR, noslP, noslB, noslA, List.all_cons, List.all_nil]
    rw [w64 (n := (p.length : Int) + 1) (by omega), w64 (n := a + v.1) (by omega), w64 (n := b + v.2) (by omega), w64 (n := c + v.2) (by omega)]
    have e1 : ((p.length : Int) + 1) = ((p.length + (0 + 1) : Nat) : Int) := by omega
    rw [e1]
    simp only [List.append_assoc, List.cons_append, List.nil_append] at ih
    by_cases ht : t.st = 0
    · have e2 : (t.st == 0) = true := by simpa using ht
      rw [e2, ctl_true, ih _ _ _ (by omega) (by omega) (by omega)]
      simp only [tot, if_pos ht]
    · have e2 : (t.st == 0) = false := by simpa using ht
      rw [e2, ctl_false, ih _ _ _ (by omega) (by omega) (by omega)]
      simp only [tot, if_neg ht]

theorem tot_bound : ∀ (ts : List Thr) (l : List (Int × Int)) (a b c m : Int) (n : Int), SmL l m → 0 ≤ m → -n ≤ a ∧ a ≤ n → -n ≤ b ∧ b ≤ n → -n ≤ c ∧ c ≤ n →
    -(n + m * l.length) ≤ (tot ts l a b c).1 ∧ (tot ts l a b c).1 ≤ n + m * l.length ∧ -(n + m * l.length) ≤ (tot ts l a b c).2.1 ∧ (tot ts l a b c).2.1 ≤ n + m * l.length ∧ -(n + m * l.length) ≤ (tot ts l a b c).2.2 ∧ (tot ts l a b c).2.2 ≤ n + m * l.length
  | [], l, a, b, c, m, n, hm, h0, ha, hb, hc => by
    have := Int.mul_nonneg h0 (Int.natCast_nonneg l.length)
    unfold tot
    simp only
    omega
  | t :: ts, [], a, b, c, m, n, hm, h0, ha, hb, hc => by
    unfold tot
    simp only [List.length_nil, Int.ofNat_zero, Int.mul_zero, Int.natCast_zero]
    omega
  | t :: ts, v :: l, a, b, c, m, n, hm, h0, ha, hb, hc => by
    have hv := hm v (List.mem_cons_self ..)
    have e : m * ((l.length + 1 : Nat) : Int) = m * l.length + m := by
      have : ((l.length + 1 : Nat) : Int) = (l.length : Int) + 1 := by omega
      rw [this, Int.mul_add, Int.mul_one]
    unfold tot
    simp only [List.length_cons]
    rw [e]
    split
    · have := tot_bound ts l (a + v.1) (b + v.2) c m (n + m) (fun x hx => hm x (List.mem_cons_of_mem _ hx)) h0 (by omega) (by omega) (by omega)
      omega
    · have := tot_bound ts l (a + v.1) b (c + v.2) m (n + m) (fun x hx => hm x (List.mem_cons_of_mem _ hx)) h0 (by omega) (by omega) (by omega)
      omega

theorem c_Total {s : Shp} (h : OkShp s) {l : List (Int × Int)} (hl : l.length = s.ts.length) (hm : SmL l 5000) : denC E 33 [AV.agg (shpC s), AV.sl 2 (arcK l)] [] =
    some ([RV.agg [PV.int .i64 (tot s.ts l 0 0 0).1, PV.int .i64 (tot s.ts l 0 0 0).2.1, PV.int .i64 (tot s.ts l 0 0 0).2.2], RV.p (PV.int .i64 0)], []) := by
  have hC := c_Check h
  have hlp := tot_loop s l.length (by have := h.1; omega) l [] s.ts [] 0 0 0 rfl rfl rfl hl hm (by simp) (by simp) (by simp)
  simp only [List.nil_append, List.length_nil] at hlp
  have e0 : (((0 : Nat)) : Int) = 0 := rfl
  rw [e0] at hlp
  unfold shpC at hC ⊢
  rw [denC_eq, r33, hC, arcK_length, thK_length]
  have e1 : ((0 : Int) != 0) = false := rfl
  have e2 : ((l.length : Int) != (s.ts.length : Int)) = false := by simp only [bne_eq_false_iff_eq]; omega
  simp only [bnd_some, ctl_true, ctl_false, ctl_and, ctl_or', ctl_or2, x_toPV, x_toCs, x_toCs2, x_toEs, x_bEs, x_bCs, x_aPV, x_aCs, x_int, x_bool, x_str, x_es, x_esn, nth_0, nth_1, nth_2, nth_3, nth_4, nth_5, nth_6, nth_7, nth_8, nth_9, y_nil, y_int, y_bool, y_str, y_sl, y_nils, y_agg, y_ownp, y_own, z_nil, z_int, z_bool, z_str, z_sl, z_nils, b_nil, b_arr, b_box1, b_box2, b_box3, b_box4, List.map_cons, List.map_nil, Bool.and_self, Bool.and_true, Bool.true_and, Bool.not_true, Bool.not_false, Bool.or_false, Bool.false_or, cond_true, cond_false, okPack, okPut, okPutBlks, okPutCells, q_isP, q_isAg, q_isBox, q_isArr, q_int, q_bool, q_str, q_sl, q_nils, e_exit, e_ret, e_nrm, e_ret_exit, e_exit_ret, e_nrm_exit, e_nrm_ret, e_exit_nrm, e_ret_nrm, Nat.zero_add, Nat.reduceAdd, noslR, noslP, noslB, noslA, List.all_cons, List.all_nil, e1, e2]
  rw [hlp]
  simp only [bnd_some, ctl_true, ctl_false, ctl_and, ctl_or', ctl_or2, x_toPV, x_toCs, x_toCs2, x_toEs, x_bEs, x_bCs, x_aPV, x_aCs, x_int, x_bool, x_str, x_es, x_esn, nth_0, nth_1, nth_2, nth_3, nth_4, nth_5, nth_6, nth_7, nth_8, nth_9, y_nil, y_int, y_bool, y_str, y_sl, y_nils, y_agg, y_ownp, y_own, z_nil, z_int, z_bool, z_str, z_sl, z_nils, b_nil, b_arr, b_box1, b_box2, b_box3, b_box4, List.map_cons, List.map_nil, Bool.and_self, Bool.and_true, Bool.true_and, Bool.not_true, Bool.not_false, Bool.or_false, Bool.false_or, cond_true, cond_false, okPack, okPut, okPutBlks, okPutCells, q_isP, q_isAg, q_isBox, q_isArr, q_int, q_bool, q_str, q_sl, q_nils, e_exit, e_ret, e_nrm, e_ret_exit, e_exit_ret, e_nrm_exit, e_nrm_ret, e_exit_nrm, e_ret_nrm, Nat.zero_add, Nat.reduceAdd, noslR, noslP, noslB, noslA, List.all_cons, List.all_nil]

end Go.Proofs.Ytcnjaffogkkpnaa.Vm
