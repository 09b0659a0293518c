/- FailoverEpochs: the law. -/
import Derived.Test.YthmhnnppikdafaaFoN
import Derived.Test.YthmhnnppikdafaaRawEpochs
namespace Go.Proofs.Ythmhnnppikdafaa.Vm
set_option linter.unusedVariables false
set_option linter.unusedSimpArgs false

def seenB (o : List Ct) (k : Nat) (x : Int) : Bool := (List.range' 0 k).any fun j => ((gt o j).st == 1) && ((gt o j).ep == x)
theorem seen_succ (o : List Ct) (k : Nat) (x : Int) : seenB o (k + 1) x = (seenB o k x || (((gt o k).st == 1) && ((gt o k).ep == x))) := by
  unfold seenB
  rw [List.range'_concat, List.any_append]
  simp

theorem epoch_in {L : List Int} {q : Nat} {a o : List Ct} {R : List (List Bool)} (hl : o.length = a.length) (h5 : a.length ≤ 5) {d mp M M' : Int} {tm : Int} (hI : Inv o M') (hMM : mp ≤ M) (hnew : ∀ j, j < a.length → (gt o j).st = 1 → (gt a j).st ≠ 1 → M < (gt o j).ep) :
    ∀ (m k : Nat) (mq : Int) (kv : List (Int × MV)), k + m = a.length → mq ≤ M' → (∀ x, kvGet (MV.pv (.bool false)) x kv = MV.pv (.bool (seenB o k x))) →
    ∃ mr, mr ≤ M' ∧ lp E (denC E) 3 0 [] 2 { vals := [AV.int .i64 d, AV.sl 3 (ctrs a), AV.int .i64 0, AV.int .i64 mq, AV.int .i64 tm, AV.sl 3 (ctrs o), AV.int .i64 mp, AV.sl 3 (ctrs o), AV.int .i64 o.length, AV.int .i64 k], blks := [src L q, Blk.tab true 0 kv] } =
      some (Ex.exit 2, { vals := [AV.int .i64 d, AV.int .i64 0, AV.int .i64 mr, AV.int .i64 tm, AV.sl 3 (ctrs o)], blks := [src L q] }) := by
  intro m
  induction m with
  | zero =>
    intro k mq kv hk hq hv
    rw [r3_2, ctl_dec, if_neg (by omega)]
    exact ⟨mq, hq, rfl⟩
  | succ m ih =>
    intro k mq kv hk hq hv
    have hka : k < a.length := by omega
    have hko : k < o.length := by omega
    rw [r3_2, ctl_dec, if_pos (by omega), getE_ctrs hko]
    simp only [bnd_some, ctl_true, ctl_false, ctl_and, ctl_or', ctl_or2, x_toPV, x_toCs, x_toCs2, x_toEs, x_bEs, x_bCs, x_aPV, x_aCs, x_int, x_bool, x_str, x_es, x_esn, nth_0, nth_1, nth_2, nth_3, nth_4, nth_5, nth_6, nth_7, nth_8, nth_9, y_nil, y_int, y_bool, y_str, y_sl, y_nils, y_agg, y_ownp, y_own, z_nil, z_int, z_bool, z_str, z_sl, z_nils, b_nil, b_arr, b_box1, b_box2, b_box3, b_box4, List.map_cons, List.map_nil, Bool.and_self, Bool.and_true, Bool.true_and, Bool.not_true, Bool.not_false, Bool.or_false, Bool.false_or, cond_true, cond_false, okPack, okPut, okPutBlks, okPutCells, q_isP, q_isAg, q_isBox, q_isArr, q_int, q_bool, q_str, q_sl, q_nils, e_exit, e_ret, e_nrm, e_ret_exit, e_exit_ret, e_nrm_exit, e_nrm_ret, e_exit_nrm, e_ret_nrm, Nat.zero_add, Nat.reduceAdd, noslR, noslP, noslB, noslA, List.all_cons, List.all_nil]
    rw [w64 (n := (k : Int) + 1) (by omega), succ_cast, hv]
    by_cases hst : (gt o k).st = 1
    · have hs1 : ((gt o k).st != 1) = false := by rw [hst]; rfl
      have hs2 : ((gt o k).st == 1) = true := by rw [hst]; rfl
      have hns : seenB o k (gt o k).ep = false := by
        cases hh : seenB o k (gt o k).ep with
        | false => rfl
        | true =>
          obtain ⟨j, hj, hp⟩ := List.any_eq_true.1 hh
          have hjk : j < k := by simpa using hj
          simp only [Bool.and_eq_true, beq_iff_eq] at hp
          exact (hI.ne j k (by omega) hko (by omega) hp.1 hst hp.2).elim
      have hle := hI.le k hko hst
      have hput : ∀ x, kvGet (MV.pv (.bool false)) x (kvPut (gt o k).ep (MV.pv (.bool true)) kv) = MV.pv (.bool (seenB o (k + 1) x)) := fun x => by
        rw [seen_succ, hs2, Bool.true_and]
        by_cases hx : (gt o k).ep = x
        · subst hx
          rw [kv_put]; simp
        · rw [kv_put_ne _ _ hx, hv, show ((gt o k).ep == x) = false by simpa using hx, Bool.or_false]
      rw [hs1, hns, getE_ctrs hka]
      simp only [bnd_some, ctl_true, ctl_false, ctl_and, ctl_or', ctl_or2, x_toPV, x_toCs, x_toCs2, x_toEs, x_bEs, x_bCs, x_aPV, x_aCs, x_int, x_bool, x_str, x_es, x_esn, nth_0, nth_1, nth_2, nth_3, nth_4, nth_5, nth_6, nth_7, nth_8, nth_9, y_nil, y_int, y_bool, y_str, y_sl, y_nils, y_agg, y_ownp, y_own, z_nil, z_int, z_bool, z_str, z_sl, z_nils, b_nil, b_arr, b_box1, b_box2, b_box3, b_box4, List.map_cons, List.map_nil, Bool.and_self, Bool.and_true, Bool.true_and, Bool.not_true, Bool.not_false, Bool.or_false, Bool.false_or, cond_true, cond_false, okPack, okPut, okPutBlks, okPutCells, q_isP, q_isAg, q_isBox, q_isArr, q_int, q_bool, q_str, q_sl, q_nils, e_exit, e_ret, e_nrm, e_ret_exit, e_exit_ret, e_nrm_exit, e_nrm_ret, e_exit_nrm, e_ret_nrm, Nat.zero_add, Nat.reduceAdd, noslR, noslP, noslB, noslA, List.all_cons, List.all_nil]
      rw [show MV.pvOk Sh.bool (MV.pv (.bool false)) = true from rfl, show (MV.pv (.bool false)).toPV.toBool = false from rfl]
      by_cases hs : (gt a k).st = 1
      · obtain ⟨mr, h1, h2⟩ := ih (k + 1) mq _ (by omega) hq hput
        refine ⟨mr, h1, ?_⟩
        rw [show ((gt a k).st != 1) = false by rw [hs]; rfl, ← h2]
        rfl
      · have hgt := hnew k hka hst hs
        have f : leB (gt o k).ep mp = false := by simp only [decide_eq_false_iff_not]; omega
        obtain ⟨mr, h1, h2⟩ := ih (k + 1) (maxI (gt o k).ep mq) _ (by omega) (by unfold maxI; split <;> omega) hput
        refine ⟨mr, h1, ?_⟩
        rw [show ((gt a k).st != 1) = true by simpa using hs, f, ← h2]
        rfl
    · have hs1 : ((gt o k).st != 1) = true := by simpa using hst
      have hs2 : ((gt o k).st == 1) = false := by simpa using hst
      obtain ⟨mr, h1, h2⟩ := ih (k + 1) mq kv (by omega) hq fun x => by rw [hv, seen_succ, hs2]; simp
      refine ⟨mr, h1, ?_⟩
      rw [hs1, ← h2]
      rfl

theorem epoch_out {L : List Int} (hL : L.length ≤ 600) {d : Int} (hd : 0 ≤ d ∧ d ≤ 600) : ∀ (m k : Nat) (l : List Ct) (mp M : Int) (q : Nat), q ≤ 600 → k + m = 14 → Val l k → (∀ i, i < l.length → (gt l i).ep ≤ k) → Inv l M → mp ≤ M →
    lp E (denC E) 3 0 [] 0 { vals := [AV.int .i64 d, AV.sl 3 (ctrs l), AV.int .i64 0, AV.int .i64 mp, AV.int .i64 k], blks := [src L q] } = some (Ex.exit 0, { vals := [AV.int .i64 0], blks := [] }) := by
  intro m
  induction m with
  | zero =>
    intro k l mp M q hq hk hV he hI hM
    rw [r3_0, show ltB (k : Int) 14 = false by simp only [decide_eq_false_iff_not]; omega]
    rfl
  | succ m ih =>
    intro k l mp M q hq hk hV he hI hM
    obtain ⟨a, hsh, ha⟩ := c_Shaken hL hq hV.n1 hV.n5 (k : Int)
    have hVa := hsh.val (by omega) hV
    have hIa := hsh.inv hI
    have hea : ∀ i, i < a.length → (gt a i).ep ≤ k := fun i hi => by rw [(hsh.get i).1]; exact he i (by rw [← hsh.len]; exact hi)
    obtain ⟨R, q2, g2, r1, r2, hr⟩ := c_Reach hL (at'_le hL hq) hVa.n5
    have hS : Sq a R := ⟨hVa.n1, hVa.n5, r1, r2⟩
    obtain ⟨o, ho, hst, heo⟩ := tick_step (l := a) (R := R) (t := (k : Int)) (d := d) (B := (k : Int)) (by omega) hea
    obtain ⟨M', m1, m2, m3⟩ := tick_inv hIa ho
    have hVo := tick_val hVa (by omega) ho
    obtain ⟨mr, e1, e2⟩ := epoch_in (L := L) (q := q2) (R := R) (d := d) (tm := (k : Int)) hst.len hVa.n5 m2 hM m3 a.length 0 mp [] (by omega) (by omega) (fun x => rfl)
    have h := ih (k + 1) o mr M' q2 g2 (by omega) (hVo.mono (by omega)) (fun i hi => by have := heo i (by rw [← hst.len]; exact hi); omega) m2 e1
    rw [nc0] at e2
    rw [r3_0, show ltB (k : Int) 14 = true by simp only [decide_eq_true_eq]; omega, ha]
    simp only [bnd_some, ctl_true, ctl_false, ctl_and, ctl_or', ctl_or2, x_toPV, x_toCs, x_toCs2, x_toEs, x_bEs, x_bCs, x_aPV, x_aCs, x_int, x_bool, x_str, x_es, x_esn, nth_0, nth_1, nth_2, nth_3, nth_4, nth_5, nth_6, nth_7, nth_8, nth_9, y_nil, y_int, y_bool, y_str, y_sl, y_nils, y_agg, y_ownp, y_own, z_nil, z_int, z_bool, z_str, z_sl, z_nils, b_nil, b_arr, b_box1, b_box2, b_box3, b_box4, List.map_cons, List.map_nil, Bool.and_self, Bool.and_true, Bool.true_and, Bool.not_true, Bool.not_false, Bool.or_false, Bool.false_or, cond_true, cond_false, okPack, okPut, okPutBlks, okPutCells, q_isP, q_isAg, q_isBox, q_isArr, q_int, q_bool, q_str, q_sl, q_nils, e_exit, e_ret, e_nrm, e_ret_exit, e_exit_ret, e_nrm_exit, e_nrm_ret, e_exit_nrm, e_ret_nrm, Nat.zero_add, Nat.reduceAdd, noslR, noslP, noslB, noslA, List.all_cons, List.all_nil, beq_self_eq_true]
    rw [ctrs_length, hr]
    simp only [bnd_some, ctl_true, ctl_false, ctl_and, ctl_or', ctl_or2, x_toPV, x_toCs, x_toCs2, x_toEs, x_bEs, x_bCs, x_aPV, x_aCs, x_int, x_bool, x_str, x_es, x_esn, nth_0, nth_1, nth_2, nth_3, nth_4, nth_5, nth_6, nth_7, nth_8, nth_9, y_nil, y_int, y_bool, y_str, y_sl, y_nils, y_agg, y_ownp, y_own, z_nil, z_int, z_bool, z_str, z_sl, z_nils, b_nil, b_arr, b_box1, b_box2, b_box3, b_box4, List.map_cons, List.map_nil, Bool.and_self, Bool.and_true, Bool.true_and, Bool.not_true, Bool.not_false, Bool.or_false, Bool.false_or, cond_true, cond_false, okPack, okPut, okPutBlks, okPutCells, q_isP, q_isAg, q_isBox, q_isArr, q_int, q_bool, q_str, q_sl, q_nils, e_exit, e_ret, e_nrm, e_ret_exit, e_exit_ret, e_nrm_exit, e_nrm_ret, e_exit_nrm, e_ret_nrm, Nat.zero_add, Nat.reduceAdd, noslR, noslP, noslB, noslA, List.all_cons, List.all_nil]
    rw [c_Tick hVa hS (by omega) (by omega), ho]
    simp only [bnd_some, ctl_true, ctl_false, ctl_and, ctl_or', ctl_or2, x_toPV, x_toCs, x_toCs2, x_toEs, x_bEs, x_bCs, x_aPV, x_aCs, x_int, x_bool, x_str, x_es, x_esn, nth_0, nth_1, nth_2, nth_3, nth_4, nth_5, nth_6, nth_7, nth_8, nth_9, y_nil, y_int, y_bool, y_str, y_sl, y_nils, y_agg, y_ownp, y_own, z_nil, z_int, z_bool, z_str, z_sl, z_nils, b_nil, b_arr, b_box1, b_box2, b_box3, b_box4, List.map_cons, List.map_nil, Bool.and_self, Bool.and_true, Bool.true_and, Bool.not_true, Bool.not_false, Bool.or_false, Bool.false_or, cond_true, cond_false, okPack, okPut, okPutBlks, okPutCells, q_isP, q_isAg, q_isBox, q_isArr, q_int, q_bool, q_str, q_sl, q_nils, e_exit, e_ret, e_nrm, e_ret_exit, e_exit_ret, e_nrm_exit, e_nrm_ret, e_exit_nrm, e_ret_nrm, Nat.zero_add, Nat.reduceAdd, noslR, noslP, noslB, noslA, List.all_cons, List.all_nil]
    rw [show ((0 : Int) != 0) = false from rfl, ctrs_length, hst.len, show ((a.length : Int) != (a.length : Int)) = false by simp]
    simp only [bnd_some, ctl_true, ctl_false, ctl_and, ctl_or', ctl_or2, x_toPV, x_toCs, x_toCs2, x_toEs, x_bEs, x_bCs, x_aPV, x_aCs, x_int, x_bool, x_str, x_es, x_esn, nth_0, nth_1, nth_2, nth_3, nth_4, nth_5, nth_6, nth_7, nth_8, nth_9, y_nil, y_int, y_bool, y_str, y_sl, y_nils, y_agg, y_ownp, y_own, z_nil, z_int, z_bool, z_str, z_sl, z_nils, b_nil, b_arr, b_box1, b_box2, b_box3, b_box4, List.map_cons, List.map_nil, Bool.and_self, Bool.and_true, Bool.true_and, Bool.not_true, Bool.not_false, Bool.or_false, Bool.false_or, cond_true, cond_false, okPack, okPut, okPutBlks, okPutCells, q_isP, q_isAg, q_isBox, q_isArr, q_int, q_bool, q_str, q_sl, q_nils, e_exit, e_ret, e_nrm, e_ret_exit, e_exit_ret, e_nrm_exit, e_nrm_ret, e_exit_nrm, e_ret_nrm, Nat.zero_add, Nat.reduceAdd, noslR, noslP, noslB, noslA, List.all_cons, List.all_nil]
    rw [hst.len] at e2
    rw [e2]
    simp only [bnd_some, ctl_true, ctl_false, ctl_and, ctl_or', ctl_or2, x_toPV, x_toCs, x_toCs2, x_toEs, x_bEs, x_bCs, x_aPV, x_aCs, x_int, x_bool, x_str, x_es, x_esn, nth_0, nth_1, nth_2, nth_3, nth_4, nth_5, nth_6, nth_7, nth_8, nth_9, y_nil, y_int, y_bool, y_str, y_sl, y_nils, y_agg, y_ownp, y_own, z_nil, z_int, z_bool, z_str, z_sl, z_nils, b_nil, b_arr, b_box1, b_box2, b_box3, b_box4, List.map_cons, List.map_nil, Bool.and_self, Bool.and_true, Bool.true_and, Bool.not_true, Bool.not_false, Bool.or_false, Bool.false_or, cond_true, cond_false, okPack, okPut, okPutBlks, okPutCells, q_isP, q_isAg, q_isBox, q_isArr, q_int, q_bool, q_str, q_sl, q_nils, e_exit, e_ret, e_nrm, e_ret_exit, e_exit_ret, e_nrm_exit, e_nrm_ret, e_exit_nrm, e_ret_nrm, Nat.zero_add, Nat.reduceAdd, noslR, noslP, noslB, noslA, List.all_cons, List.all_nil]
    rw [w64 (n := (k : Int) + 1) (by omega), succ_cast]
    exact h

theorem d_FailoverEpochs (t : List Int) (_ : t.length ≤ maxLen) (_ : ∀ n ∈ t, -9223372036854775808 ≤ n ∧ n ≤ 9223372036854775807) (d : Int) (hd : 0 ≤ d ∧ d ≤ 255) :
    denC E 3 [AV.sl 1 (intsK .i64 t), AV.int .u8 d] [] = some ([RV.p (PV.bool true)], []) := by
  rw [denC_eq, r3, c_sane, intsK_length, ctl_dec]
  by_cases h : 600 < (t.length : Int)
  · rw [if_pos h]
    simp only [bnd_some, ctl_true, ctl_false, ctl_and, ctl_or', ctl_or2, x_toPV, x_toCs, x_toCs2, x_toEs, x_bEs, x_bCs, x_aPV, x_aCs, x_int, x_bool, x_str, x_es, x_esn, nth_0, nth_1, nth_2, nth_3, nth_4, nth_5, nth_6, nth_7, nth_8, nth_9, y_nil, y_int, y_bool, y_str, y_sl, y_nils, y_agg, y_ownp, y_own, z_nil, z_int, z_bool, z_str, z_sl, z_nils, b_nil, b_arr, b_box1, b_box2, b_box3, b_box4, List.map_cons, List.map_nil, Bool.and_self, Bool.and_true, Bool.true_and, Bool.not_true, Bool.not_false, Bool.or_false, Bool.false_or, cond_true, cond_false, okPack, okPut, okPutBlks, okPutCells, q_isP, q_isAg, q_isBox, q_isArr, q_int, q_bool, q_str, q_sl, q_nils, e_exit, e_ret, e_nrm, e_ret_exit, e_exit_ret, e_nrm_exit, e_nrm_ret, e_exit_nrm, e_ret_nrm, Nat.zero_add, Nat.reduceAdd, noslR, noslP, noslB, noslA, List.all_cons, List.all_nil]
  · have hL : (t.take 600).length ≤ 600 := by rw [List.length_take]; omega
    have hb := vRange_bounds (L := t.take 600) (k := 0) (lo := 1) (hi := 5) (by omega)
    have hR := c_Range (k := 0) hL (by omega) (lo := 1) (hi := 5) (by omega)
    obtain ⟨n, hn⟩ : ∃ n : Nat, vRange (t.take 600) 0 1 5 = n := ⟨(vRange (t.take 600) 0 1 5).toNat, by omega⟩
    rw [hn] at hb hR
    have hd4 : 0 ≤ d.tmod 4 ∧ d.tmod 4 ≤ 3 := by rw [Int.tmod_eq_emod_of_nonneg hd.1]; omega
    rw [if_neg h, c_New]
    simp only [bnd_some, ctl_true, ctl_false, ctl_and, ctl_or', ctl_or2, x_toPV, x_toCs, x_toCs2, x_toEs, x_bEs, x_bCs, x_aPV, x_aCs, x_int, x_bool, x_str, x_es, x_esn, nth_0, nth_1, nth_2, nth_3, nth_4, nth_5, nth_6, nth_7, nth_8, nth_9, y_nil, y_int, y_bool, y_str, y_sl, y_nils, y_agg, y_ownp, y_own, z_nil, z_int, z_bool, z_str, z_sl, z_nils, b_nil, b_arr, b_box1, b_box2, b_box3, b_box4, List.map_cons, List.map_nil, Bool.and_self, Bool.and_true, Bool.true_and, Bool.not_true, Bool.not_false, Bool.or_false, Bool.false_or, cond_true, cond_false, okPack, okPut, okPutBlks, okPutCells, q_isP, q_isAg, q_isBox, q_isArr, q_int, q_bool, q_str, q_sl, q_nils, e_exit, e_ret, e_nrm, e_ret_exit, e_exit_ret, e_nrm_exit, e_nrm_ret, e_exit_nrm, e_ret_nrm, Nat.zero_add, Nat.reduceAdd, noslR, noslP, noslB, noslA, List.all_cons, List.all_nil]
    rw [src_zero, hR]
    simp only [bnd_some, ctl_true, ctl_false, ctl_and, ctl_or', ctl_or2, x_toPV, x_toCs, x_toCs2, x_toEs, x_bEs, x_bCs, x_aPV, x_aCs, x_int, x_bool, x_str, x_es, x_esn, nth_0, nth_1, nth_2, nth_3, nth_4, nth_5, nth_6, nth_7, nth_8, nth_9, y_nil, y_int, y_bool, y_str, y_sl, y_nils, y_agg, y_ownp, y_own, z_nil, z_int, z_bool, z_str, z_sl, z_nils, b_nil, b_arr, b_box1, b_box2, b_box3, b_box4, List.map_cons, List.map_nil, Bool.and_self, Bool.and_true, Bool.true_and, Bool.not_true, Bool.not_false, Bool.or_false, Bool.false_or, cond_true, cond_false, okPack, okPut, okPutBlks, okPutCells, q_isP, q_isAg, q_isBox, q_isArr, q_int, q_bool, q_str, q_sl, q_nils, e_exit, e_ret, e_nrm, e_ret_exit, e_exit_ret, e_nrm_exit, e_nrm_ret, e_exit_nrm, e_ret_nrm, Nat.zero_add, Nat.reduceAdd, noslR, noslP, noslB, noslA, List.all_cons, List.all_nil]
    rw [c_FNew (by omega)]
    simp only [bnd_some, ctl_true, ctl_false, ctl_and, ctl_or', ctl_or2, x_toPV, x_toCs, x_toCs2, x_toEs, x_bEs, x_bCs, x_aPV, x_aCs, x_int, x_bool, x_str, x_es, x_esn, nth_0, nth_1, nth_2, nth_3, nth_4, nth_5, nth_6, nth_7, nth_8, nth_9, y_nil, y_int, y_bool, y_str, y_sl, y_nils, y_agg, y_ownp, y_own, z_nil, z_int, z_bool, z_str, z_sl, z_nils, b_nil, b_arr, b_box1, b_box2, b_box3, b_box4, List.map_cons, List.map_nil, Bool.and_self, Bool.and_true, Bool.true_and, Bool.not_true, Bool.not_false, Bool.or_false, Bool.false_or, cond_true, cond_false, okPack, okPut, okPutBlks, okPutCells, q_isP, q_isAg, q_isBox, q_isArr, q_int, q_bool, q_str, q_sl, q_nils, e_exit, e_ret, e_nrm, e_ret_exit, e_exit_ret, e_nrm_exit, e_nrm_ret, e_exit_nrm, e_ret_nrm, Nat.zero_add, Nat.reduceAdd, noslR, noslP, noslB, noslA, List.all_cons, List.all_nil]
    have hlen : (new n).length = n := by simp [new]
    have hg : ∀ j, gt (new n) j = ⟨0, 0, 0⟩ := fun j => by
      unfold gt new
      simp only [List.getD, List.getElem?_replicate]
      split <;> rfl
    have hV : Val (new n) ((0 : Nat) : Int) := ⟨by omega, by omega, fun i _ => by rw [hg]; exact ⟨by simp, by simp, by simp⟩⟩
    have hI : Inv (new n) 0 := by
      refine ⟨Int.le_refl _, ?_, fun i _ h => ?_, fun i j _ _ _ h => ?_⟩
      · have : cnt (new n) 0 = List.range' 0 n := by
          unfold cnt
          rw [hlen, List.filter_eq_self]
          intro k _
          rw [hg]; rfl
        rw [this]
        unfold maj
        rw [hlen]
        simp
        omega
      · rw [hg] at h; exact absurd h (by decide)
      · rw [hg] at h; exact absurd h (by decide)
    have hlp := epoch_out hL (d := d.tmod 4) (by omega) 14 0 (new n) 0 0 (at' (t.take 600) 0) (at'_le hL (by omega)) rfl hV (fun i _ => by rw [hg]; simp) hI (Int.le_refl _)
    rw [nc0] at hlp
    rw [w64 (n := d) (by omega), hlp]
    simp only [bnd_some, ctl_true, ctl_false, ctl_and, ctl_or', ctl_or2, x_toPV, x_toCs, x_toCs2, x_toEs, x_bEs, x_bCs, x_aPV, x_aCs, x_int, x_bool, x_str, x_es, x_esn, nth_0, nth_1, nth_2, nth_3, nth_4, nth_5, nth_6, nth_7, nth_8, nth_9, y_nil, y_int, y_bool, y_str, y_sl, y_nils, y_agg, y_ownp, y_own, z_nil, z_int, z_bool, z_str, z_sl, z_nils, b_nil, b_arr, b_box1, b_box2, b_box3, b_box4, List.map_cons, List.map_nil, Bool.and_self, Bool.and_true, Bool.true_and, Bool.not_true, Bool.not_false, Bool.or_false, Bool.false_or, cond_true, cond_false, okPack, okPut, okPutBlks, okPutCells, q_isP, q_isAg, q_isBox, q_isArr, q_int, q_bool, q_str, q_sl, q_nils, e_exit, e_ret, e_nrm, e_ret_exit, e_exit_ret, e_nrm_exit, e_nrm_ret, e_exit_nrm, e_ret_nrm, Nat.zero_add, Nat.reduceAdd, noslR, noslP, noslB, noslA, List.all_cons, List.all_nil, beq_self_eq_true]

end Go.Proofs.Ythmhnnppikdafaa.Vm
