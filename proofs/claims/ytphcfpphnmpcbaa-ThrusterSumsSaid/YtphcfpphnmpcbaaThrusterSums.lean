/- The law ThrusterSums comes to true. -/
import Derived.Test.YtphcfpphnmpcbaaShipC
import Derived.Test.YtphcfpphnmpcbaaRawSums
namespace Go.Proofs.Ytphcfpphnmpcbaa.Vm
set_option linter.unusedVariables false
set_option linter.unusedSimpArgs false

def negA (v : Int × Int) : Int × Int := (-v.1, -v.2)
/-- The sums of the law, thruster by thruster. -/
def sm3 (bw sn : Int) : List Thr → List (Int × Int) → Int → Int → Int → Int × Int × Int
  | t :: ts, v :: l, a, b, c => if t.st = 1 then sm3 bw sn ts l (a + v.1) (b + v.2) (c + -sn * v.2) else sm3 bw sn ts l (a + v.1) (b + v.2) (c + bw * v.2)
  | _, _, a, b, c => (a, b, c)

theorem sm3_eq (bw sn : Int) : ∀ (ts : List Thr) (l : List (Int × Int)) (a b c x y z : Int), (∀ t ∈ ts, SrcT t) → b = y + z → c = y * bw - z * sn → a = x →
    (sm3 bw sn ts l a b c).1 = (tot ts l x y z).1 ∧ (sm3 bw sn ts l a b c).2.1 = (tot ts l x y z).2.1 + (tot ts l x y z).2.2 ∧ (sm3 bw sn ts l a b c).2.2 = (tot ts l x y z).2.1 * bw - (tot ts l x y z).2.2 * sn
  | [], l, a, b, c, x, y, z, hs, hb, hc, ha => by unfold sm3 tot; exact ⟨ha, hb, hc⟩
  | t :: ts, [], a, b, c, x, y, z, hs, hb, hc, ha => by unfold sm3 tot; exact ⟨ha, hb, hc⟩
  | t :: ts, v :: l, a, b, c, x, y, z, hs, hb, hc, ha => by
    obtain ⟨h1, h2, h3, h4, _⟩ := hs t (List.mem_cons_self ..)
    have hs' : ∀ t ∈ ts, SrcT t := fun x hx => hs x (List.mem_cons_of_mem _ hx)
    have e1 : (y + v.2) * bw = y * bw + bw * v.2 := by rw [Int.add_mul, Int.mul_comm v.2]
    have e2 : (z + v.2) * sn = z * sn + sn * v.2 := by rw [Int.add_mul, Int.mul_comm v.2]
    have e3 : -sn * v.2 = -(sn * v.2) := Int.neg_mul ..
    unfold sm3 tot
    by_cases ht : t.st = 0
    · rw [if_neg (by omega), if_pos ht]
      exact sm3_eq bw sn ts l _ _ _ _ _ _ hs' (by omega) (by rw [e1]; omega) (by omega)
    · rw [if_pos (by omega), if_neg ht]
      exact sm3_eq bw sn ts l _ _ _ _ _ _ hs' (by omega) (by rw [e2, e3]; omega) (by omega)

theorem tot_neg : ∀ (ts : List Thr) (l : List (Int × Int)) (a b c : Int), (tot ts (l.map negA) (-a) (-b) (-c)).1 = -(tot ts l a b c).1 ∧ (tot ts (l.map negA) (-a) (-b) (-c)).2.1 = -(tot ts l a b c).2.1 ∧ (tot ts (l.map negA) (-a) (-b) (-c)).2.2 = -(tot ts l a b c).2.2
  | [], l, a, b, c => by unfold tot; exact ⟨rfl, rfl, rfl⟩
  | t :: ts, [], a, b, c => by unfold tot; exact ⟨rfl, rfl, rfl⟩
  | t :: ts, v :: l, a, b, c => by
    rw [List.map_cons]
    unfold tot
    have e1 : -a + (negA v).1 = -(a + v.1) := by unfold negA; simp only; omega
    have e2 : -b + (negA v).2 = -(b + v.2) := by unfold negA; simp only; omega
    have e3 : -c + (negA v).2 = -(c + v.2) := by unfold negA; simp only; omega
    rw [e1, e2, e3]
    split
    · exact tot_neg ts l (a + v.1) (b + v.2) c
    · exact tot_neg ts l (a + v.1) b (c + v.2)

theorem sums_loop (s : Shp) (hs0 : 0 ≤ s.bw ∧ s.bw ≤ 60 ∧ 1 ≤ s.sn ∧ s.sn ≤ 40) (L0 : List (List PV)) (N : Nat) (hN : N ≤ 1000) : ∀ (l p : List (Int × Int)) (ts q : List Thr) (a b c : Int), s.ts = q ++ ts → (p ++ l).length = N → p.length = q.length → l.length = ts.length → SmL l 20 →
    -20 * (p.length : Int) ≤ a ∧ a ≤ 20 * (p.length : Int) → -20 * (p.length : Int) ≤ b ∧ b ≤ 20 * (p.length : Int) → -1200 * (p.length : Int) ≤ c ∧ c ≤ 1200 * (p.length : Int) →
    lp E (denC E) 5 0 [] 0 { vals := [AV.sl 2 L0, AV.sl 2 (arcK (p ++ l)), AV.int .i64 N, AV.int .i64 (p.length : Int)], blks := [Blk.box [AV.int .i64 s.bw, AV.int .i64 s.sn, AV.sl 6 (thK s.ts)], Blk.arr 2 (arcK (p.map negA)), Blk.box [AV.int .i64 a, AV.int .i64 b, AV.int .i64 c]] } =
      some (Ex.exit 0, { vals := [AV.sl 2 L0], blks := [Blk.box [AV.int .i64 s.bw, AV.int .i64 s.sn, AV.sl 6 (thK s.ts)], Blk.arr 2 (arcK ((p ++ l).map negA)), Blk.box [AV.int .i64 (sm3 s.bw s.sn ts l a b c).1, AV.int .i64 (sm3 s.bw s.sn ts l a b c).2.1, AV.int .i64 (sm3 s.bw s.sn ts l a b c).2.2]] })
  | [], p, ts, q, a, b, c, hs, hN2, hpq, hl, hm, ha, hb, hc => by
    have : ts = [] := by cases ts with | nil => rfl | cons => cases hl
    subst this
    rw [List.append_nil] at hN2
    rw [r5_0, ctl_dec, if_neg (by omega), List.append_nil]
    rfl
  | v :: l, p, [], q, a, b, c, hs, hN2, hpq, hl, hm, ha, hb, hc => by cases hl
  | v :: l, p, t :: ts, q, a, b, c, hs, hN2, hpq, hl, hm, ha, hb, hc => by
    have hv := hm v (List.mem_cons_self ..)
    have ih := fun a b c => sums_loop s hs0 L0 N hN l (p ++ [v]) ts (q ++ [t]) a b c (by rw [hs]; simp) (by rw [← hN2]; simp) (by simp [hpq]) (by simpa using hl) (fun x hx => hm x (List.mem_cons_of_mem _ hx))
    simp only [List.length_append, List.length_cons, List.length_nil] at hN2 ih
    rw [r5_0, ctl_dec, if_pos (by omega), getE_arc]
    have e4 : leN (((arcK (p.map negA)).length + 1) * 16) 140737488355328 = true := by rw [arcK_length, List.length_map]; simp only [decide_eq_true_eq]; omega
    simp only [arcC, bnd_some, ctl_true, ctl_false, ctl_and, ctl_or', ctl_or2, x_toPV, x_toCs, x_toCs2, x_toEs, x_bEs, x_bCs, x_aPV, x_aCs, x_int, x_bool, x_str, x_es, x_esn, nth_0, nth_1, nth_2, nth_3, nth_4, nth_5, nth_6, nth_7, nth_8, nth_9, y_nil, y_int, y_bool, y_str, y_sl, y_nils, y_agg, y_ownp, y_own, z_nil, z_int, z_bool, z_str, z_sl, z_nils, b_nil, b_arr, b_box1, b_box2, b_box3, b_box4, List.map_cons, List.map_nil, Bool.and_self, Bool.and_true, Bool.true_and, Bool.not_true, Bool.not_false, Bool.or_false, Bool.false_or, cond_true, cond_false, okPack, okPut, okPutBlks, okPutCells, q_isP, q_isAg, q_isBox, q_isArr, q_int, q_bool, q_str, q_sl, q_nils, e_exit, e_ret, e_nrm, e_ret_exit, e_exit_ret, e_nrm_exit, e_nrm_ret, e_exit_nrm, e_ret_nrm, Nat.zero_add, Nat.reduceAdd, noslR, noslP, noslB, noslA, List.all_cons, List.all_nil, e4]
    have hg : ∀ {α : Type} (K : List PV → Option α), getE (thK s.ts) (p.length : Int) K = K (thC t) := fun K => by rw [hs, hpq]; exact getE_th q t ts K
    rw [hg]
    unfold thC
    simp only [bnd_some, ctl_true, ctl_false, ctl_and, ctl_or', ctl_or2, x_toPV, x_toCs, x_toCs2, x_toEs, x_bEs, x_bCs, x_aPV, x_aCs, x_int, x_bool, x_str, x_es, x_esn, nth_0, nth_1, nth_2, nth_3, nth_4, nth_5, nth_6, nth_7, nth_8, nth_9, y_nil, y_int, y_bool, y_str, y_sl, y_nils, y_agg, y_ownp, y_own, z_nil, z_int, z_bool, z_str, z_sl, z_nils, b_nil, b_arr, b_box1, b_box2, b_box3, b_box4, List.map_cons, List.map_nil, Bool.and_self, Bool.and_true, Bool.true_and, Bool.not_true, Bool.not_false, Bool.or_false, Bool.false_or, cond_true, cond_false, okPack, okPut, okPutBlks, okPutCells, q_isP, q_isAg, q_isBox, q_isArr, q_int, q_bool, q_str, q_sl, q_nils, e_exit, e_ret, e_nrm, e_ret_exit, e_exit_ret, e_nrm_exit, e_nrm_ret, e_exit_nrm, e_ret_nrm, Nat.zero_add, Nat.reduceAdd, noslR, noslP, noslB, noslA, List.all_cons, List.all_nil]
    have m1 := mul_le (a := -s.sn) (b := v.2) (m := 40) (n := 20) (by omega) (by omega)
    have m2 := mul_le (a := s.bw) (b := v.2) (m := 60) (n := 20) (by omega) (by omega)
    have e5 : 0 - s.sn = -s.sn := by omega
    rw [w64 (n := (p.length : Int) + 1) (by omega), w64 (n := a + v.1) (by omega), w64 (n := b + v.2) (by omega), w64 (n := 0 - v.1) (by omega), w64 (n := 0 - v.2) (by omega), w64 (n := 0 - s.sn) (by omega), e5, w64 (n := -s.sn * v.2) (by omega), w64 (n := s.bw * v.2) (by omega), w64 (n := c + -s.sn * v.2) (by omega), w64 (n := c + s.bw * v.2) (by omega)]
    have e1 : ((p.length : Int) + 1) = ((p.length + (0 + 1) : Nat) : Int) := by omega
    have e3 : arcK (p.map negA) ++ [[PV.int .i64 (0 - v.1), PV.int .i64 (0 - v.2)]] = arcK ((p ++ [v]).map negA) := by
      rw [List.map_append, arcK_append]
      have : arcK ([v].map negA) = [[PV.int .i64 (-v.1), PV.int .i64 (-v.2)]] := rfl
      rw [this, Int.zero_sub, Int.zero_sub]
    rw [e1, e3]
    simp only [List.append_assoc, List.cons_append, List.nil_append] at ih
    by_cases ht : t.st = 1
    · have e2 : (t.st == 1) = true := by simpa using ht
      rw [e2, ctl_true, ih _ _ _ (by omega) (by omega) (by omega)]
      simp only [sm3, if_pos ht]
    · have e2 : (t.st == 1) = false := by simpa using ht
      rw [e2, ctl_false, ih _ _ _ (by omega) (by omega) (by omega)]
      simp only [sm3, if_neg ht]

theorem d_ThrusterSums (t : List Int) (_ : t.length ≤ maxLen) (_ : ∀ n ∈ t, -9223372036854775808 ≤ n ∧ n ≤ 9223372036854775807) :
    denC E 5 [AV.sl 1 (intsK .i64 t)] [] = some ([RV.p (PV.bool true)], []) := by
  rw [denC_eq, r5, c_New]
  have hL : (t.take 600).length ≤ 600 := by simp; omega
  generalize t.take 600 = L at hL
  have h0 : (0 : Nat) ≤ 600 := by omega
  simp only [bnd_some, ctl_true, ctl_false, ctl_and, ctl_or', ctl_or2, x_toPV, x_toCs, x_toCs2, x_toEs, x_bEs, x_bCs, x_aPV, x_aCs, x_int, x_bool, x_str, x_es, x_esn, nth_0, nth_1, nth_2, nth_3, nth_4, nth_5, nth_6, nth_7, nth_8, nth_9, y_nil, y_int, y_bool, y_str, y_sl, y_nils, y_agg, y_ownp, y_own, z_nil, z_int, z_bool, z_str, z_sl, z_nils, b_nil, b_arr, b_box1, b_box2, b_box3, b_box4, List.map_cons, List.map_nil, Bool.and_self, Bool.and_true, Bool.true_and, Bool.not_true, Bool.not_false, Bool.or_false, Bool.false_or, cond_true, cond_false, okPack, okPut, okPutBlks, okPutCells, q_isP, q_isAg, q_isBox, q_isArr, q_int, q_bool, q_str, q_sl, q_nils, e_exit, e_ret, e_nrm, e_ret_exit, e_exit_ret, e_nrm_exit, e_nrm_ret, e_exit_nrm, e_ret_nrm, Nat.zero_add, Nat.reduceAdd, noslR, noslP, noslB, noslA, List.all_cons, List.all_nil]
  obtain ⟨s, k, hS, hs, hk⟩ := c_Ship hL h0 (most := 5) (by omega)
  have hok := SrcS_ok hs (by omega)
  obtain ⟨q1, q2, q3, q4, q5, q6⟩ := hs
  obtain ⟨l, k2, hT, hl, hsm, hk2⟩ := c_Thrusts hL hk s (by omega)
  have hsm5 : SmL l 5000 := fun v hv => by have := hsm v hv; omega
  have hsmn : SmL (l.map negA) 5000 := fun v hv => by
    obtain ⟨w, hw, rfl⟩ := List.mem_map.1 hv
    have := hsm w hw
    unfold negA
    simp only
    omega
  have hlp := sums_loop s (by omega) (arcK l) l.length (by omega) l [] s.ts [] 0 0 0 rfl rfl rfl hl hsm (by simp) (by simp) (by simp)
  simp only [List.nil_append, List.length_nil, List.map_nil] at hlp
  have e0 : (((0 : Nat)) : Int) = 0 := rfl
  have ea : arcK [] = [] := rfl
  rw [e0, ea] at hlp
  have t1 := c_Total hok hl hsm5
  have m1 := c_Moment hok hl hsm5
  have m2 := c_Moment hok (l := l.map negA) (by rw [List.length_map]; exact hl) hsmn
  have heq := sm3_eq s.bw s.sn s.ts l 0 0 0 0 0 0 q6 (by omega) (by simp) rfl
  have hneg := tot_neg s.ts l 0 0 0
  have hbd := tot_bound s.ts l 0 0 0 20 0 hsm (by omega) (by omega) (by omega) (by omega)
  have e5 : ((5 : Nat) : Int) = 5 := rfl
  rw [e5] at hS
  unfold shpC at hS hT t1 m1 m2
  rw [src_zero, hS]
  simp only [bnd_some, ctl_true, ctl_false, ctl_and, ctl_or', ctl_or2, x_toPV, x_toCs, x_toCs2, x_toEs, x_bEs, x_bCs, x_aPV, x_aCs, x_int, x_bool, x_str, x_es, x_esn, nth_0, nth_1, nth_2, nth_3, nth_4, nth_5, nth_6, nth_7, nth_8, nth_9, y_nil, y_int, y_bool, y_str, y_sl, y_nils, y_agg, y_ownp, y_own, z_nil, z_int, z_bool, z_str, z_sl, z_nils, b_nil, b_arr, b_box1, b_box2, b_box3, b_box4, List.map_cons, List.map_nil, Bool.and_self, Bool.and_true, Bool.true_and, Bool.not_true, Bool.not_false, Bool.or_false, Bool.false_or, cond_true, cond_false, okPack, okPut, okPutBlks, okPutCells, q_isP, q_isAg, q_isBox, q_isArr, q_int, q_bool, q_str, q_sl, q_nils, e_exit, e_ret, e_nrm, e_ret_exit, e_exit_ret, e_nrm_exit, e_nrm_ret, e_exit_nrm, e_ret_nrm, Nat.zero_add, Nat.reduceAdd, noslR, noslP, noslB, noslA, List.all_cons, List.all_nil]
  rw [hT]
  simp only [bnd_some, ctl_true, ctl_false, ctl_and, ctl_or', ctl_or2, x_toPV, x_toCs, x_toCs2, x_toEs, x_bEs, x_bCs, x_aPV, x_aCs, x_int, x_bool, x_str, x_es, x_esn, nth_0, nth_1, nth_2, nth_3, nth_4, nth_5, nth_6, nth_7, nth_8, nth_9, y_nil, y_int, y_bool, y_str, y_sl, y_nils, y_agg, y_ownp, y_own, z_nil, z_int, z_bool, z_str, z_sl, z_nils, b_nil, b_arr, b_box1, b_box2, b_box3, b_box4, List.map_cons, List.map_nil, Bool.and_self, Bool.and_true, Bool.true_and, Bool.not_true, Bool.not_false, Bool.or_false, Bool.false_or, cond_true, cond_false, okPack, okPut, okPutBlks, okPutCells, q_isP, q_isAg, q_isBox, q_isArr, q_int, q_bool, q_str, q_sl, q_nils, e_exit, e_ret, e_nrm, e_ret_exit, e_exit_ret, e_nrm_exit, e_nrm_ret, e_exit_nrm, e_ret_nrm, Nat.zero_add, Nat.reduceAdd, noslR, noslP, noslB, noslA, List.all_cons, List.all_nil]
  rw [arcK_length, hlp]
  simp only [bnd_some, ctl_true, ctl_false, ctl_and, ctl_or', ctl_or2, x_toPV, x_toCs, x_toCs2, x_toEs, x_bEs, x_bCs, x_aPV, x_aCs, x_int, x_bool, x_str, x_es, x_esn, nth_0, nth_1, nth_2, nth_3, nth_4, nth_5, nth_6, nth_7, nth_8, nth_9, y_nil, y_int, y_bool, y_str, y_sl, y_nils, y_agg, y_ownp, y_own, z_nil, z_int, z_bool, z_str, z_sl, z_nils, b_nil, b_arr, b_box1, b_box2, b_box3, b_box4, List.map_cons, List.map_nil, Bool.and_self, Bool.and_true, Bool.true_and, Bool.not_true, Bool.not_false, Bool.or_false, Bool.false_or, cond_true, cond_false, okPack, okPut, okPutBlks, okPutCells, q_isP, q_isAg, q_isBox, q_isArr, q_int, q_bool, q_str, q_sl, q_nils, e_exit, e_ret, e_nrm, e_ret_exit, e_exit_ret, e_nrm_exit, e_nrm_ret, e_exit_nrm, e_ret_nrm, Nat.zero_add, Nat.reduceAdd, noslR, noslP, noslB, noslA, List.all_cons, List.all_nil]
  rw [t1]
  simp only [bnd_some, ctl_true, ctl_false, ctl_and, ctl_or', ctl_or2, x_toPV, x_toCs, x_toCs2, x_toEs, x_bEs, x_bCs, x_aPV, x_aCs, x_int, x_bool, x_str, x_es, x_esn, nth_0, nth_1, nth_2, nth_3, nth_4, nth_5, nth_6, nth_7, nth_8, nth_9, y_nil, y_int, y_bool, y_str, y_sl, y_nils, y_agg, y_ownp, y_own, z_nil, z_int, z_bool, z_str, z_sl, z_nils, b_nil, b_arr, b_box1, b_box2, b_box3, b_box4, List.map_cons, List.map_nil, Bool.and_self, Bool.and_true, Bool.true_and, Bool.not_true, Bool.not_false, Bool.or_false, Bool.false_or, cond_true, cond_false, okPack, okPut, okPutBlks, okPutCells, q_isP, q_isAg, q_isBox, q_isArr, q_int, q_bool, q_str, q_sl, q_nils, e_exit, e_ret, e_nrm, e_ret_exit, e_exit_ret, e_nrm_exit, e_nrm_ret, e_exit_nrm, e_ret_nrm, Nat.zero_add, Nat.reduceAdd, noslR, noslP, noslB, noslA, List.all_cons, List.all_nil]
  rw [m1]
  simp only [bnd_some, ctl_true, ctl_false, ctl_and, ctl_or', ctl_or2, x_toPV, x_toCs, x_toCs2, x_toEs, x_bEs, x_bCs, x_aPV, x_aCs, x_int, x_bool, x_str, x_es, x_esn, nth_0, nth_1, nth_2, nth_3, nth_4, nth_5, nth_6, nth_7, nth_8, nth_9, y_nil, y_int, y_bool, y_str, y_sl, y_nils, y_agg, y_ownp, y_own, z_nil, z_int, z_bool, z_str, z_sl, z_nils, b_nil, b_arr, b_box1, b_box2, b_box3, b_box4, List.map_cons, List.map_nil, Bool.and_self, Bool.and_true, Bool.true_and, Bool.not_true, Bool.not_false, Bool.or_false, Bool.false_or, cond_true, cond_false, okPack, okPut, okPutBlks, okPutCells, q_isP, q_isAg, q_isBox, q_isArr, q_int, q_bool, q_str, q_sl, q_nils, e_exit, e_ret, e_nrm, e_ret_exit, e_exit_ret, e_nrm_exit, e_nrm_ret, e_exit_nrm, e_ret_nrm, Nat.zero_add, Nat.reduceAdd, noslR, noslP, noslB, noslA, List.all_cons, List.all_nil]
  rw [m2]
  simp only [bnd_some, ctl_true, ctl_false, ctl_and, ctl_or', ctl_or2, x_toPV, x_toCs, x_toCs2, x_toEs, x_bEs, x_bCs, x_aPV, x_aCs, x_int, x_bool, x_str, x_es, x_esn, nth_0, nth_1, nth_2, nth_3, nth_4, nth_5, nth_6, nth_7, nth_8, nth_9, y_nil, y_int, y_bool, y_str, y_sl, y_nils, y_agg, y_ownp, y_own, z_nil, z_int, z_bool, z_str, z_sl, z_nils, b_nil, b_arr, b_box1, b_box2, b_box3, b_box4, List.map_cons, List.map_nil, Bool.and_self, Bool.and_true, Bool.true_and, Bool.not_true, Bool.not_false, Bool.or_false, Bool.false_or, cond_true, cond_false, okPack, okPut, okPutBlks, okPutCells, q_isP, q_isAg, q_isBox, q_isArr, q_int, q_bool, q_str, q_sl, q_nils, e_exit, e_ret, e_nrm, e_ret_exit, e_exit_ret, e_nrm_exit, e_nrm_ret, e_exit_nrm, e_ret_nrm, Nat.zero_add, Nat.reduceAdd, noslR, noslP, noslB, noslA, List.all_cons, List.all_nil, c_sane]
  have ez : -(0 : Int) = 0 := rfl
  rw [ez] at hneg
  obtain ⟨n1, n2, n3⟩ := hneg
  obtain ⟨g1, g2, g3⟩ := heq
  unfold momY
  rw [g1, g2, g3, n1, n2, n3]
  generalize tot s.ts l 0 0 0 = z at *
  have p1 := mul_le (a := z.2.1) (b := s.bw) (m := 1000) (n := 200) (by omega) (by omega)
  have p2 := mul_le (a := z.2.2) (b := s.sn) (m := 1000) (n := 200) (by omega) (by omega)
  rw [w64 (n := 0 - z.1) (by omega), w64 (n := 0 - (z.2.1 + z.2.2)) (by omega), w64 (n := 0 - (z.2.1 * s.bw - z.2.2 * s.sn)) (by omega), w64 (n := z.2.1 + z.2.2) (by omega)]
  have k1 : (-z.1 == 0 - z.1) = true := by simp only [beq_iff_eq]; omega
  have k2 : (-z.2.1 + -z.2.2 == 0 - (z.2.1 + z.2.2)) = true := by simp only [beq_iff_eq]; omega
  have k3 : (-z.2.1 * s.bw - -z.2.2 * s.sn == 0 - (z.2.1 * s.bw - z.2.2 * s.sn)) = true := by
    rw [Int.neg_mul, Int.neg_mul]
    simp only [beq_iff_eq]; omega
  simp only [k1, k2, k3, beq_self_eq_true, bnd_some, ctl_true, ctl_false, ctl_and, ctl_or', ctl_or2, x_toPV, x_toCs, x_toCs2, x_toEs, x_bEs, x_bCs, x_aPV, x_aCs, x_int, x_bool, x_str, x_es, x_esn, nth_0, nth_1, nth_2, nth_3, nth_4, nth_5, nth_6, nth_7, nth_8, nth_9, y_nil, y_int, y_bool, y_str, y_sl, y_nils, y_agg, y_ownp, y_own, z_nil, z_int, z_bool, z_str, z_sl, z_nils, b_nil, b_arr, b_box1, b_box2, b_box3, b_box4, List.map_cons, List.map_nil, Bool.and_self, Bool.and_true, Bool.true_and, Bool.not_true, Bool.not_false, Bool.or_false, Bool.false_or, cond_true, cond_false, okPack, okPut, okPutBlks, okPutCells, q_isP, q_isAg, q_isBox, q_isArr, q_int, q_bool, q_str, q_sl, q_nils, e_exit, e_ret, e_nrm, e_ret_exit, e_exit_ret, e_nrm_exit, e_nrm_ret, e_exit_nrm, e_ret_nrm, Nat.zero_add, Nat.reduceAdd, noslR, noslP, noslB, noslA, List.all_cons, List.all_nil]

end Go.Proofs.Ytphcfpphnmpcbaa.Vm
