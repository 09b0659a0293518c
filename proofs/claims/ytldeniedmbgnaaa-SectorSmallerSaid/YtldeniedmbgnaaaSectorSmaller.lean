/- The law SectorSmaller comes to true. -/
import Derived.Test.YtldeniedmbgnaaaSectorS
import Derived.Test.YtldeniedmbgnaaaRawSmaller
namespace Go.Proofs.Ytldeniedmbgnaaa.Vm
set_option linter.unusedVariables false
set_option linter.unusedSimpArgs false

/-- v may give no force that u may not give. -/
def Weaker (v u : Thr) : Prop := okT v = true ∧ v.fb.length ≤ maxLen ∧ ∀ x y, alw v x y = true → alw u x y = true

abbrev twoT (v w : Thr) : AV := AV.agg [PV.int .i64 v.kd, PV.int .i64 v.st, PV.int .i64 v.mx, PV.int .i64 v.rt, PV.int .i64 v.ct, PV.sl 2 (arcK v.fb), PV.int .i64 w.kd, PV.int .i64 w.st, PV.int .i64 w.mx, PV.int .i64 w.rt, PV.int .i64 w.ct, PV.sl 2 (arcK w.fb)]

theorem sm_round {L : List Int} (hL : L.length ≤ 600) {u v1 v2 f v : Thr} (hu : okT u = true) (hm : u.fb.length ≤ maxLen) {a b : Int} (hl : IsLat u a b) (hv : Weaker v u) (c : Int) (hc : 0 ≤ c ∧ c < 2)
    (hget : ∀ {α : Type} (K : List PV → Option α), getE [thC v1, thC v2] c K = K (thC v)) {R : Option (Ex × Pack)}
    (next : ∀ k, k ≤ 600 → lp E (denC E) 6 0 [] 0 { vals := [AV.int .i64 a, AV.int .i64 b, twoT v1 v2, AV.int .i64 (c + 1)], blks := [src L k, thB u, thB f] } = R) (k : Nat) (hk : k ≤ 600) :
    lp E (denC E) 6 0 [] 0 { vals := [AV.int .i64 a, AV.int .i64 b, twoT v1 v2, AV.int .i64 c], blks := [src L k, thB u, thB f] } = R := by
  obtain ⟨hv1, hv2, hv3⟩ := hv
  rw [r6_0]
  have e : ltB c 2 = true := by simp only [decide_eq_true_eq]; omega
  rw [e, ctl_true]
  unfold thC at hget
  rw [hget]
  obtain ⟨lc, ld, h1, h2, h3⟩ := c_Lateral hv2
  unfold IsLat at hl h2
  rw [if_pos hu] at hl
  rw [if_pos hv1] at h2
  have hmono := IsRun_mono (fun n hn => hv3 0 n hn) hl h2
  unfold thC at h1
  simp only [bnd_some, ctl_true, ctl_false, ctl_and, ctl_or', ctl_or2, x_toPV, x_toCs, x_toCs2, x_toEs, x_bEs, x_bCs, x_aPV, x_aCs, x_int, x_bool, x_str, x_es, x_esn, nth_0, nth_1, nth_2, nth_3, nth_4, nth_5, nth_6, nth_7, nth_8, nth_9, y_nil, y_int, y_bool, y_str, y_sl, y_nils, y_agg, y_ownp, y_own, z_nil, z_int, z_bool, z_str, z_sl, z_nils, b_nil, b_arr, b_box1, b_box2, b_box3, b_box4, List.map_cons, List.map_nil, Bool.and_self, Bool.and_true, Bool.true_and, Bool.not_true, Bool.not_false, Bool.or_false, Bool.false_or, cond_true, cond_false, okPack, okPut, okPutBlks, okPutCells, q_isP, q_isAg, q_isBox, q_isArr, q_int, q_bool, q_str, q_sl, q_nils, e_exit, e_ret, e_nrm, e_ret_exit, e_exit_ret, e_nrm_exit, e_nrm_ret, e_exit_nrm, e_ret_nrm, Nat.zero_add, Nat.reduceAdd, noslR, noslP, noslB, noslA, List.all_cons, List.all_nil]
  rw [h1]
  have e1 : (ltB lc a || ltB b ld) = false := by simp only [Bool.or_eq_false_iff, decide_eq_false_iff_not]; omega
  simp only [bnd_some, ctl_true, ctl_false, ctl_and, ctl_or', ctl_or2, x_toPV, x_toCs, x_toCs2, x_toEs, x_bEs, x_bCs, x_aPV, x_aCs, x_int, x_bool, x_str, x_es, x_esn, nth_0, nth_1, nth_2, nth_3, nth_4, nth_5, nth_6, nth_7, nth_8, nth_9, y_nil, y_int, y_bool, y_str, y_sl, y_nils, y_agg, y_ownp, y_own, z_nil, z_int, z_bool, z_str, z_sl, z_nils, b_nil, b_arr, b_box1, b_box2, b_box3, b_box4, List.map_cons, List.map_nil, Bool.and_self, Bool.and_true, Bool.true_and, Bool.not_true, Bool.not_false, Bool.or_false, Bool.false_or, cond_true, cond_false, okPack, okPut, okPutBlks, okPutCells, q_isP, q_isAg, q_isBox, q_isArr, q_int, q_bool, q_str, q_sl, q_nils, e_exit, e_ret, e_nrm, e_ret_exit, e_exit_ret, e_nrm_exit, e_nrm_ret, e_exit_nrm, e_ret_nrm, Nat.zero_add, Nat.reduceAdd, noslR, noslP, noslB, noslA, List.all_cons, List.all_nil, e1]
  rw [c_Range hL hk (by omega)]
  have by_ := vRange_bounds (L := L) (k := k) (lo := lc) (hi := ld) (by omega)
  generalize vRange L k lc ld = y at *
  simp only [bnd_some, ctl_true, ctl_false, ctl_and, ctl_or', ctl_or2, x_toPV, x_toCs, x_toCs2, x_toEs, x_bEs, x_bCs, x_aPV, x_aCs, x_int, x_bool, x_str, x_es, x_esn, nth_0, nth_1, nth_2, nth_3, nth_4, nth_5, nth_6, nth_7, nth_8, nth_9, y_nil, y_int, y_bool, y_str, y_sl, y_nils, y_agg, y_ownp, y_own, z_nil, z_int, z_bool, z_str, z_sl, z_nils, b_nil, b_arr, b_box1, b_box2, b_box3, b_box4, List.map_cons, List.map_nil, Bool.and_self, Bool.and_true, Bool.true_and, Bool.not_true, Bool.not_false, Bool.or_false, Bool.false_or, cond_true, cond_false, okPack, okPut, okPutBlks, okPutCells, q_isP, q_isAg, q_isBox, q_isArr, q_int, q_bool, q_str, q_sl, q_nils, e_exit, e_ret, e_nrm, e_ret_exit, e_exit_ret, e_nrm_exit, e_nrm_ret, e_exit_nrm, e_ret_nrm, Nat.zero_add, Nat.reduceAdd, noslR, noslP, noslB, noslA, List.all_cons, List.all_nil]
  have hy : alw v 0 y = true := h2.2.2.1 y by_.1 by_.2
  obtain ⟨le, lf, g1, g2, g3⟩ := c_Longitudinal hm y
  obtain ⟨lg, lh, i1, i2, i3⟩ := c_Longitudinal hv2 y
  unfold IsLon at g2 i2
  rw [if_pos ⟨hu, hv3 _ _ hy⟩] at g2
  rw [if_pos ⟨hv1, hy⟩] at i2
  have hmono2 := IsRun_mono (fun n hn => hv3 n y hn) g2 i2
  unfold thC at g1 i1
  rw [g1]
  simp only [bnd_some, ctl_true, ctl_false, ctl_and, ctl_or', ctl_or2, x_toPV, x_toCs, x_toCs2, x_toEs, x_bEs, x_bCs, x_aPV, x_aCs, x_int, x_bool, x_str, x_es, x_esn, nth_0, nth_1, nth_2, nth_3, nth_4, nth_5, nth_6, nth_7, nth_8, nth_9, y_nil, y_int, y_bool, y_str, y_sl, y_nils, y_agg, y_ownp, y_own, z_nil, z_int, z_bool, z_str, z_sl, z_nils, b_nil, b_arr, b_box1, b_box2, b_box3, b_box4, List.map_cons, List.map_nil, Bool.and_self, Bool.and_true, Bool.true_and, Bool.not_true, Bool.not_false, Bool.or_false, Bool.false_or, cond_true, cond_false, okPack, okPut, okPutBlks, okPutCells, q_isP, q_isAg, q_isBox, q_isArr, q_int, q_bool, q_str, q_sl, q_nils, e_exit, e_ret, e_nrm, e_ret_exit, e_exit_ret, e_nrm_exit, e_nrm_ret, e_exit_nrm, e_ret_nrm, Nat.zero_add, Nat.reduceAdd, noslR, noslP, noslB, noslA, List.all_cons, List.all_nil]
  rw [i1]
  have e2 : (ltB lg le || ltB lf lh) = false := by simp only [Bool.or_eq_false_iff, decide_eq_false_iff_not]; omega
  simp only [bnd_some, ctl_true, ctl_false, ctl_and, ctl_or', ctl_or2, x_toPV, x_toCs, x_toCs2, x_toEs, x_bEs, x_bCs, x_aPV, x_aCs, x_int, x_bool, x_str, x_es, x_esn, nth_0, nth_1, nth_2, nth_3, nth_4, nth_5, nth_6, nth_7, nth_8, nth_9, y_nil, y_int, y_bool, y_str, y_sl, y_nils, y_agg, y_ownp, y_own, z_nil, z_int, z_bool, z_str, z_sl, z_nils, b_nil, b_arr, b_box1, b_box2, b_box3, b_box4, List.map_cons, List.map_nil, Bool.and_self, Bool.and_true, Bool.true_and, Bool.not_true, Bool.not_false, Bool.or_false, Bool.false_or, cond_true, cond_false, okPack, okPut, okPutBlks, okPutCells, q_isP, q_isAg, q_isBox, q_isArr, q_int, q_bool, q_str, q_sl, q_nils, e_exit, e_ret, e_nrm, e_ret_exit, e_exit_ret, e_nrm_exit, e_nrm_ret, e_exit_nrm, e_ret_nrm, Nat.zero_add, Nat.reduceAdd, noslR, noslP, noslB, noslA, List.all_cons, List.all_nil, e2]
  rw [w64 (n := c + 1) (by omega)]
  exact next _ (at'_le hL hk)

theorem sm_loop {L : List Int} (hL : L.length ≤ 600) {u v1 v2 f : Thr} (hu : okT u = true) (hm : u.fb.length ≤ maxLen) {a b : Int} (hl : IsLat u a b) (h1 : Weaker v1 u) (h2 : Weaker v2 u) (k : Nat) (hk : k ≤ 600) :
    lp E (denC E) 6 0 [] 0 { vals := [AV.int .i64 a, AV.int .i64 b, twoT v1 v2, AV.int .i64 0], blks := [src L k, thB u, thB f] } = some (Ex.exit 0, { vals := [], blks := [thB u, thB f] }) := by
  refine sm_round hL hu hm hl h1 0 (by omega) (fun K => rfl) (fun k hk => ?_) k hk
  refine sm_round hL hu hm hl h2 (0 + 1) (by omega) (fun K => rfl) (fun k hk => ?_) k hk
  rw [r6_0]
  have e : ltB (0 + 1 + 1) 2 = false := by decide
  rw [e, ctl_false]

theorem cut_three {l : List (List PV)} (h : l.length ≤ 3) : cutI l 0 (minI 3 (l.length : Int)) = l := by
  unfold cutI
  have e : (minI 3 (l.length : Int)).toNat = l.length := by unfold minI; split <;> omega
  rw [e]
  simp

theorem free_lat {u : Thr} (hu : okT u = true) : IsLat { u with fb := [] } (if u.kd = 2 then 0 else -u.mx) (if u.kd = 2 then 0 else u.mx) ∧ IsLon { u with fb := [] } 0 (if u.kd = 1 then 0 else -u.mx) (if u.kd = 1 then 0 else u.mx) := by
  have hv := okT0_iff.1 (okT_iff.1 hu).1
  have hf : okT { u with fb := [] } = true := okT_iff.2 ⟨okT0_iff.2 (by simp only [List.length_nil]; omega), rfl⟩
  have hz : alw { u with fb := [] } 0 0 = true := alw_zero (by simp only; omega)
  have mm := sq_le (a := u.mx) (m := u.mx) (by omega)
  have key : ∀ x y, alw { u with fb := [] } x y = true ↔ (-u.mx ≤ x ∧ x ≤ u.mx ∧ -u.mx ≤ y ∧ y ≤ u.mx ∧ x * x + y * y ≤ u.mx * u.mx ∧ (u.kd = 1 → x = 0) ∧ (u.kd = 2 → y = 0)) := by
    intro x y
    rw [alw_iff, alw0_iff]
    simp only [free, List.all_nil, and_true]
  have nkey : ∀ x y, ¬ (-u.mx ≤ x ∧ x ≤ u.mx ∧ -u.mx ≤ y ∧ y ≤ u.mx ∧ x * x + y * y ≤ u.mx * u.mx ∧ (u.kd = 1 → x = 0) ∧ (u.kd = 2 → y = 0)) → alw { u with fb := [] } x y = false := by
    intro x y hn
    cases hh : alw { u with fb := [] } x y with
    | false => rfl
    | true => exact absurd ((key x y).1 hh) hn
  constructor
  · unfold IsLat
    rw [if_pos hf]
    by_cases hk : u.kd = 2
    · rw [if_pos hk, if_pos hk]
      refine ⟨by omega, by omega, fun n h1 h2 => ?_, nkey _ _ (by omega), nkey _ _ (by omega)⟩
      have : n = 0 := by omega
      rw [this]; exact hz
    · rw [if_neg hk, if_neg hk]
      refine ⟨by omega, by omega, fun n h1 h2 => (key _ _).2 ?_, nkey _ _ (by omega), nkey _ _ (by omega)⟩
      have := sq_le (a := n) (m := u.mx) (by omega)
      omega
  · unfold IsLon
    rw [if_pos ⟨hf, hz⟩]
    by_cases hk : u.kd = 1
    · rw [if_pos hk, if_pos hk]
      refine ⟨by omega, by omega, fun n h1 h2 => ?_, nkey _ _ (by omega), nkey _ _ (by omega)⟩
      have : n = 0 := by omega
      rw [this]; exact hz
    · rw [if_neg hk, if_neg hk]
      refine ⟨by omega, by omega, fun n h1 h2 => (key _ _).2 ?_, nkey _ _ (by omega), nkey _ _ (by omega)⟩
      have := sq_le (a := n) (m := u.mx) (by omega)
      omega

theorem weak_less {u : Thr} (hu : okT u = true) (hm : u.fb.length ≤ maxLen) {m : Int} (h : 0 ≤ m ∧ m ≤ u.mx) : Weaker { u with mx := m } u := by
  have hv := okT0_iff.1 (okT_iff.1 hu).1
  refine ⟨okT_iff.2 ⟨okT0_iff.2 (by simp only; omega), (okT_iff.1 hu).2⟩, hm, fun x y hh => ?_⟩
  have h1 := (alw_iff.1 hh).1
  have h2 := (alw_iff.1 hh).2
  have h1 := alw0_iff.1 h1
  simp only at h1 h2
  have hs := sq_le (a := m) (m := u.mx) (by omega)
  exact alw_iff.2 ⟨alw0_iff.2 ⟨by omega, by omega, by omega, by omega, by omega, h1.2.2.2.2.2.1, h1.2.2.2.2.2.2⟩, h2⟩

theorem weak_more {u : Thr} (hu : okT u = true) (hm : u.fb.length ≤ 3) {a : Int × Int} (ha : Valid a.1 a.2 = true) : Weaker { u with fb := u.fb ++ [a] } u := by
  have hv := okT0_iff.1 (okT_iff.1 hu).1
  refine ⟨okT_iff.2 ⟨okT0_iff.2 (by simp only [List.length_append, List.length_cons, List.length_nil]; omega), ?_⟩, ?_, fun x y hh => ?_⟩
  · have := (okT_iff.1 hu).2
    unfold okA' at this ⊢
    rw [List.all_append, this]
    simp [ha]
  · simp only [List.length_append, List.length_cons, List.length_nil]
    exact Nat.le_trans (Nat.add_le_add_right hm 1) (by decide)
  · have h1 := (alw_iff.1 hh).1
    have h2 := (alw_iff.1 hh).2
    refine alw_iff.2 ⟨h1, ?_⟩
    unfold free at h2 ⊢
    rw [List.all_append] at h2
    simp only [Bool.and_eq_true] at h2
    exact h2.1

theorem d_SectorSmaller (t : List Int) (_ : t.length ≤ maxLen) (_ : ∀ n ∈ t, -9223372036854775808 ≤ n ∧ n ≤ 9223372036854775807) :
    denC E 6 [AV.sl 1 (intsK .i64 t)] [] = some ([RV.p (PV.bool true)], []) := by
  rw [denC_eq, r6, c_New]
  have hL : (t.take 600).length ≤ 600 := by simp; omega
  generalize t.take 600 = L at hL
  have h0 : (0 : Nat) ≤ 600 := by omega
  simp only [bnd_some, ctl_true, ctl_false, ctl_and, ctl_or', ctl_or2, x_toPV, x_toCs, x_toCs2, x_toEs, x_bEs, x_bCs, x_aPV, x_aCs, x_int, x_bool, x_str, x_es, x_esn, nth_0, nth_1, nth_2, nth_3, nth_4, nth_5, nth_6, nth_7, nth_8, nth_9, y_nil, y_int, y_bool, y_str, y_sl, y_nils, y_agg, y_ownp, y_own, z_nil, z_int, z_bool, z_str, z_sl, z_nils, b_nil, b_arr, b_box1, b_box2, b_box3, b_box4, List.map_cons, List.map_nil, Bool.and_self, Bool.and_true, Bool.true_and, Bool.not_true, Bool.not_false, Bool.or_false, Bool.false_or, cond_true, cond_false, okPack, okPut, okPutBlks, okPutCells, q_isP, q_isAg, q_isBox, q_isArr, q_int, q_bool, q_str, q_sl, q_nils, e_exit, e_ret, e_nrm, e_ret_exit, e_exit_ret, e_nrm_exit, e_nrm_ret, e_exit_nrm, e_ret_nrm, Nat.zero_add, Nat.reduceAdd, noslR, noslP, noslB, noslA, List.all_cons, List.all_nil]
  obtain ⟨u, k, hT, hs, hk⟩ := c_Thruster hL h0
  have hv := SrcT_ok hs
  obtain ⟨q1, q2, q3, q4, q5, q6, q7, q8, q9, q10, q11, q12⟩ := hs
  have hm : u.fb.length ≤ maxLen := Nat.le_trans q11 (by decide)
  have hN := c_N hL hk (u.mx + 1) (by omega)
  have bN := vN_bounds (L := L) (k := k) (n := u.mx + 1) (by omega)
  have hA := c_Arc hL (at'_le hL hk)
  have sA := SrcA_arc L (at' L k)
  have hk3 := at'_le hL (at'_le hL (at'_le hL hk))
  generalize vN L k (u.mx + 1) = m at *
  generalize arcFrom L (at' L k) = af at *
  generalize arcTo L (at' L k) = at_ at *
  obtain ⟨a, b, l1, l2, l3⟩ := c_Lateral hm
  have hfm : ({ u with fb := [] } : Thr).fb.length ≤ maxLen := by simp
  obtain ⟨fa, fb, f1, f2, f3⟩ := c_Lateral hfm
  obtain ⟨ga, gb, g1, g2, g3⟩ := c_Longitudinal hfm 0
  have hfree := free_lat hv
  have w1 := weak_less hv hm (m := m) (by omega)
  have w2 := weak_more hv (by omega) (SrcA_valid sA)
  have hloop := sm_loop (f := { u with fb := [] }) hL hv hm l2 w1 w2 _ hk3
  unfold thC at hT l1 f1 g1
  unfold twoT thB at hloop
  simp only at f1 g1
  have ea : arcK [] = [] := rfl
  have ea1 : arcK [(af, at_)] = [[PV.int .i64 af, PV.int .i64 at_]] := rfl
  rw [ea] at f1 g1
  simp only [arcK_append, ea, ea1] at hloop
  rw [src_zero, hT]
  simp only [bnd_some, ctl_true, ctl_false, ctl_and, ctl_or', ctl_or2, x_toPV, x_toCs, x_toCs2, x_toEs, x_bEs, x_bCs, x_aPV, x_aCs, x_int, x_bool, x_str, x_es, x_esn, nth_0, nth_1, nth_2, nth_3, nth_4, nth_5, nth_6, nth_7, nth_8, nth_9, y_nil, y_int, y_bool, y_str, y_sl, y_nils, y_agg, y_ownp, y_own, z_nil, z_int, z_bool, z_str, z_sl, z_nils, b_nil, b_arr, b_box1, b_box2, b_box3, b_box4, List.map_cons, List.map_nil, Bool.and_self, Bool.and_true, Bool.true_and, Bool.not_true, Bool.not_false, Bool.or_false, Bool.false_or, cond_true, cond_false, okPack, okPut, okPutBlks, okPutCells, q_isP, q_isAg, q_isBox, q_isArr, q_int, q_bool, q_str, q_sl, q_nils, e_exit, e_ret, e_nrm, e_ret_exit, e_exit_ret, e_nrm_exit, e_nrm_ret, e_exit_nrm, e_ret_nrm, Nat.zero_add, Nat.reduceAdd, noslR, noslP, noslB, noslA, List.all_cons, List.all_nil]
  have ec := cut_three (l := arcK u.fb) (by rw [arcK_length]; omega)
  rw [w64 (n := u.mx + 1) (by omega), hN, ec]
  have e1 : leB 0 (minI 3 ((arcK u.fb).length : Int)) = true := by simp only [decide_eq_true_eq]; unfold minI; split <;> omega
  have e2 : leB (minI 3 ((arcK u.fb).length : Int)) ((arcK u.fb).length : Int) = true := by simp only [decide_eq_true_eq]; unfold minI; split <;> omega
  have e3 : leN ((arcK u.fb).length * 16) 140737488355328 = true := by rw [arcK_length]; simp only [decide_eq_true_eq]; omega
  have e4 : leN (((arcK u.fb).length + 1) * 16) 140737488355328 = true := by rw [arcK_length]; simp only [decide_eq_true_eq]; omega
  simp only [bnd_some, ctl_true, ctl_false, ctl_and, ctl_or', ctl_or2, x_toPV, x_toCs, x_toCs2, x_toEs, x_bEs, x_bCs, x_aPV, x_aCs, x_int, x_bool, x_str, x_es, x_esn, nth_0, nth_1, nth_2, nth_3, nth_4, nth_5, nth_6, nth_7, nth_8, nth_9, y_nil, y_int, y_bool, y_str, y_sl, y_nils, y_agg, y_ownp, y_own, z_nil, z_int, z_bool, z_str, z_sl, z_nils, b_nil, b_arr, b_box1, b_box2, b_box3, b_box4, List.map_cons, List.map_nil, Bool.and_self, Bool.and_true, Bool.true_and, Bool.not_true, Bool.not_false, Bool.or_false, Bool.false_or, cond_true, cond_false, okPack, okPut, okPutBlks, okPutCells, q_isP, q_isAg, q_isBox, q_isArr, q_int, q_bool, q_str, q_sl, q_nils, e_exit, e_ret, e_nrm, e_ret_exit, e_exit_ret, e_nrm_exit, e_nrm_ret, e_exit_nrm, e_ret_nrm, Nat.zero_add, Nat.reduceAdd, noslR, noslP, noslB, noslA, List.all_cons, List.all_nil, e1, e2, e3]
  rw [hA]
  simp only [bnd_some, ctl_true, ctl_false, ctl_and, ctl_or', ctl_or2, x_toPV, x_toCs, x_toCs2, x_toEs, x_bEs, x_bCs, x_aPV, x_aCs, x_int, x_bool, x_str, x_es, x_esn, nth_0, nth_1, nth_2, nth_3, nth_4, nth_5, nth_6, nth_7, nth_8, nth_9, y_nil, y_int, y_bool, y_str, y_sl, y_nils, y_agg, y_ownp, y_own, z_nil, z_int, z_bool, z_str, z_sl, z_nils, b_nil, b_arr, b_box1, b_box2, b_box3, b_box4, List.map_cons, List.map_nil, Bool.and_self, Bool.and_true, Bool.true_and, Bool.not_true, Bool.not_false, Bool.or_false, Bool.false_or, cond_true, cond_false, okPack, okPut, okPutBlks, okPutCells, q_isP, q_isAg, q_isBox, q_isArr, q_int, q_bool, q_str, q_sl, q_nils, e_exit, e_ret, e_nrm, e_ret_exit, e_exit_ret, e_nrm_exit, e_nrm_ret, e_exit_nrm, e_ret_nrm, Nat.zero_add, Nat.reduceAdd, noslR, noslP, noslB, noslA, List.all_cons, List.all_nil, e4]
  rw [l1]
  simp only [bnd_some, ctl_true, ctl_false, ctl_and, ctl_or', ctl_or2, x_toPV, x_toCs, x_toCs2, x_toEs, x_bEs, x_bCs, x_aPV, x_aCs, x_int, x_bool, x_str, x_es, x_esn, nth_0, nth_1, nth_2, nth_3, nth_4, nth_5, nth_6, nth_7, nth_8, nth_9, y_nil, y_int, y_bool, y_str, y_sl, y_nils, y_agg, y_ownp, y_own, z_nil, z_int, z_bool, z_str, z_sl, z_nils, b_nil, b_arr, b_box1, b_box2, b_box3, b_box4, List.map_cons, List.map_nil, Bool.and_self, Bool.and_true, Bool.true_and, Bool.not_true, Bool.not_false, Bool.or_false, Bool.false_or, cond_true, cond_false, okPack, okPut, okPutBlks, okPutCells, q_isP, q_isAg, q_isBox, q_isArr, q_int, q_bool, q_str, q_sl, q_nils, e_exit, e_ret, e_nrm, e_ret_exit, e_exit_ret, e_nrm_exit, e_nrm_ret, e_exit_nrm, e_ret_nrm, Nat.zero_add, Nat.reduceAdd, noslR, noslP, noslB, noslA, List.all_cons, List.all_nil]
  rw [hloop]
  simp only [bnd_some, ctl_true, ctl_false, ctl_and, ctl_or', ctl_or2, x_toPV, x_toCs, x_toCs2, x_toEs, x_bEs, x_bCs, x_aPV, x_aCs, x_int, x_bool, x_str, x_es, x_esn, nth_0, nth_1, nth_2, nth_3, nth_4, nth_5, nth_6, nth_7, nth_8, nth_9, y_nil, y_int, y_bool, y_str, y_sl, y_nils, y_agg, y_ownp, y_own, z_nil, z_int, z_bool, z_str, z_sl, z_nils, b_nil, b_arr, b_box1, b_box2, b_box3, b_box4, List.map_cons, List.map_nil, Bool.and_self, Bool.and_true, Bool.true_and, Bool.not_true, Bool.not_false, Bool.or_false, Bool.false_or, cond_true, cond_false, okPack, okPut, okPutBlks, okPutCells, q_isP, q_isAg, q_isBox, q_isArr, q_int, q_bool, q_str, q_sl, q_nils, e_exit, e_ret, e_nrm, e_ret_exit, e_exit_ret, e_nrm_exit, e_nrm_ret, e_exit_nrm, e_ret_nrm, Nat.zero_add, Nat.reduceAdd, noslR, noslP, noslB, noslA, List.all_cons, List.all_nil, b_box6]
  rw [f1]
  simp only [bnd_some, ctl_true, ctl_false, ctl_and, ctl_or', ctl_or2, x_toPV, x_toCs, x_toCs2, x_toEs, x_bEs, x_bCs, x_aPV, x_aCs, x_int, x_bool, x_str, x_es, x_esn, nth_0, nth_1, nth_2, nth_3, nth_4, nth_5, nth_6, nth_7, nth_8, nth_9, y_nil, y_int, y_bool, y_str, y_sl, y_nils, y_agg, y_ownp, y_own, z_nil, z_int, z_bool, z_str, z_sl, z_nils, b_nil, b_arr, b_box1, b_box2, b_box3, b_box4, List.map_cons, List.map_nil, Bool.and_self, Bool.and_true, Bool.true_and, Bool.not_true, Bool.not_false, Bool.or_false, Bool.false_or, cond_true, cond_false, okPack, okPut, okPutBlks, okPutCells, q_isP, q_isAg, q_isBox, q_isArr, q_int, q_bool, q_str, q_sl, q_nils, e_exit, e_ret, e_nrm, e_ret_exit, e_exit_ret, e_nrm_exit, e_nrm_ret, e_exit_nrm, e_ret_nrm, Nat.zero_add, Nat.reduceAdd, noslR, noslP, noslB, noslA, List.all_cons, List.all_nil]
  rw [g1]
  simp only [bnd_some, ctl_true, ctl_false, ctl_and, ctl_or', ctl_or2, x_toPV, x_toCs, x_toCs2, x_toEs, x_bEs, x_bCs, x_aPV, x_aCs, x_int, x_bool, x_str, x_es, x_esn, nth_0, nth_1, nth_2, nth_3, nth_4, nth_5, nth_6, nth_7, nth_8, nth_9, y_nil, y_int, y_bool, y_str, y_sl, y_nils, y_agg, y_ownp, y_own, z_nil, z_int, z_bool, z_str, z_sl, z_nils, b_nil, b_arr, b_box1, b_box2, b_box3, b_box4, List.map_cons, List.map_nil, Bool.and_self, Bool.and_true, Bool.true_and, Bool.not_true, Bool.not_false, Bool.or_false, Bool.false_or, cond_true, cond_false, okPack, okPut, okPutBlks, okPutCells, q_isP, q_isAg, q_isBox, q_isArr, q_int, q_bool, q_str, q_sl, q_nils, e_exit, e_ret, e_nrm, e_ret_exit, e_exit_ret, e_nrm_exit, e_nrm_ret, e_exit_nrm, e_ret_nrm, Nat.zero_add, Nat.reduceAdd, noslR, noslP, noslB, noslA, List.all_cons, List.all_nil]
  obtain ⟨z1, z2⟩ := IsLat_uniq f2 hfree.1
  obtain ⟨z3, z4⟩ := IsLon_uniq g2 hfree.2
  rw [z1, z2, z3, z4, w64 (n := 0 - u.mx) (by omega), c_sane]
  have en : (-u.mx == 0 - u.mx) = true := by simp only [beq_iff_eq]; omega
  by_cases k2 : u.kd = 2
  · have b2 : (u.kd == 2) = true := by simpa using k2
    have b1 : (u.kd == 1) = false := by simp only [beq_eq_false_iff_ne]; omega
    have n1 : ¬ u.kd = 1 := by omega
    rw [b2, b1]
    simp only [if_pos k2, if_neg n1, bnd_some, ctl_true, ctl_false, ctl_and, ctl_or', ctl_or2, x_toPV, x_toCs, x_toCs2, x_toEs, x_bEs, x_bCs, x_aPV, x_aCs, x_int, x_bool, x_str, x_es, x_esn, nth_0, nth_1, nth_2, nth_3, nth_4, nth_5, nth_6, nth_7, nth_8, nth_9, y_nil, y_int, y_bool, y_str, y_sl, y_nils, y_agg, y_ownp, y_own, z_nil, z_int, z_bool, z_str, z_sl, z_nils, b_nil, b_arr, b_box1, b_box2, b_box3, b_box4, List.map_cons, List.map_nil, Bool.and_self, Bool.and_true, Bool.true_and, Bool.not_true, Bool.not_false, Bool.or_false, Bool.false_or, cond_true, cond_false, okPack, okPut, okPutBlks, okPutCells, q_isP, q_isAg, q_isBox, q_isArr, q_int, q_bool, q_str, q_sl, q_nils, e_exit, e_ret, e_nrm, e_ret_exit, e_exit_ret, e_nrm_exit, e_nrm_ret, e_exit_nrm, e_ret_nrm, Nat.zero_add, Nat.reduceAdd, noslR, noslP, noslB, noslA, List.all_cons, List.all_nil, beq_self_eq_true, en]
  · have b2 : (u.kd == 2) = false := by simpa using k2
    by_cases k1 : u.kd = 1
    · have b1 : (u.kd == 1) = true := by simpa using k1
      rw [b2, b1]
      simp only [if_neg k2, if_pos k1, bnd_some, ctl_true, ctl_false, ctl_and, ctl_or', ctl_or2, x_toPV, x_toCs, x_toCs2, x_toEs, x_bEs, x_bCs, x_aPV, x_aCs, x_int, x_bool, x_str, x_es, x_esn, nth_0, nth_1, nth_2, nth_3, nth_4, nth_5, nth_6, nth_7, nth_8, nth_9, y_nil, y_int, y_bool, y_str, y_sl, y_nils, y_agg, y_ownp, y_own, z_nil, z_int, z_bool, z_str, z_sl, z_nils, b_nil, b_arr, b_box1, b_box2, b_box3, b_box4, List.map_cons, List.map_nil, Bool.and_self, Bool.and_true, Bool.true_and, Bool.not_true, Bool.not_false, Bool.or_false, Bool.false_or, cond_true, cond_false, okPack, okPut, okPutBlks, okPutCells, q_isP, q_isAg, q_isBox, q_isArr, q_int, q_bool, q_str, q_sl, q_nils, e_exit, e_ret, e_nrm, e_ret_exit, e_exit_ret, e_nrm_exit, e_nrm_ret, e_exit_nrm, e_ret_nrm, Nat.zero_add, Nat.reduceAdd, noslR, noslP, noslB, noslA, List.all_cons, List.all_nil, beq_self_eq_true, en]
    · have b1 : (u.kd == 1) = false := by simpa using k1
      rw [b2, b1]
      simp only [if_neg k2, if_neg k1, bnd_some, ctl_true, ctl_false, ctl_and, ctl_or', ctl_or2, x_toPV, x_toCs, x_toCs2, x_toEs, x_bEs, x_bCs, x_aPV, x_aCs, x_int, x_bool, x_str, x_es, x_esn, nth_0, nth_1, nth_2, nth_3, nth_4, nth_5, nth_6, nth_7, nth_8, nth_9, y_nil, y_int, y_bool, y_str, y_sl, y_nils, y_agg, y_ownp, y_own, z_nil, z_int, z_bool, z_str, z_sl, z_nils, b_nil, b_arr, b_box1, b_box2, b_box3, b_box4, List.map_cons, List.map_nil, Bool.and_self, Bool.and_true, Bool.true_and, Bool.not_true, Bool.not_false, Bool.or_false, Bool.false_or, cond_true, cond_false, okPack, okPut, okPutBlks, okPutCells, q_isP, q_isAg, q_isBox, q_isArr, q_int, q_bool, q_str, q_sl, q_nils, e_exit, e_ret, e_nrm, e_ret_exit, e_exit_ret, e_nrm_exit, e_nrm_ret, e_exit_nrm, e_ret_nrm, Nat.zero_add, Nat.reduceAdd, noslR, noslP, noslB, noslA, List.all_cons, List.all_nil, beq_self_eq_true, en]

end Go.Proofs.Ytldeniedmbgnaaa.Vm
