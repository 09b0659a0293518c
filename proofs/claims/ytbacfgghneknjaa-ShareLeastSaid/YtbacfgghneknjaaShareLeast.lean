/- The law ShareLeast comes to true. -/
import Derived.Test.YtbacfgghneknjaaShareQ
import Derived.Test.YtbacfgghneknjaaRawX
namespace Go.Proofs.Ytbacfgghneknjaa.Vm
set_option linter.unusedVariables false
set_option linter.unusedSimpArgs false

abbrev sh0 : Shr := ⟨0, 0, 1⟩

theorem getE_shs {α : Type} {l : List Shr} {i : Int} (hi : 0 ≤ i ∧ i < l.length) (K : List PV → Option α) : getE (shK l) i K = K (shC (l.getD i.toNat sh0)) := by
  unfold getE
  rw [shK_length]
  have h1 : leB 0 i = true := by simpa using hi.1
  have h2 : ltB i l.length = true := by simpa using hi.2
  rw [h1, h2]
  have hlt : i.toNat < l.length := by omega
  simp only [Bool.and_self, ctl_true]
  rw [nth_eq]
  simp [shK, List.getD, hlt]

theorem nth_ints {y : List Int} {i : Nat} (h : i < y.length) : nth [] (intsK .i64 y) i = [PV.int .i64 (y.getD i 0)] := by
  rw [nth_eq]
  simp [intsK, List.getD, h]

theorem sumI_set : ∀ (y : List Int) (i : Nat) (v : Int), i < y.length → sumI (y.set i v) = sumI y - y.getD i 0 + v
  | [], _, _, h => by simp at h
  | x :: y, 0, v, _ => by simp [sumI]; omega
  | x :: y, i + 1, v, h => by
    have := sumI_set y i v (by simpa using h)
    simp only [List.set_cons_succ, sumI, this, List.getD_cons_succ]; omega

theorem InR.at : ∀ {l : List Shr} {y : List Int} (i : Nat), InR l y → i < l.length → (l.getD i sh0).lo ≤ y.getD i 0 ∧ y.getD i 0 ≤ (l.getD i sh0).hi
  | s :: l, x :: xs, 0, h, _ => h.1
  | s :: l, x :: xs, i + 1, h, hi => InR.at i h.2 (by simpa using hi)
  | [], _, _, _, h => by simp at h
  | _ :: _, [], _, h, _ => h.elim

theorem InR.set : ∀ {l : List Shr} {y : List Int} (i : Nat) {v : Int}, InR l y → (l.getD i sh0).lo ≤ v ∧ v ≤ (l.getD i sh0).hi → i < l.length → InR l (y.set i v)
  | s :: l, x :: xs, 0, v, h, hv, _ => ⟨hv, h.2⟩
  | s :: l, x :: xs, i + 1, v, h, hv, hi => ⟨h.1, InR.set i h.2 hv (by simpa using hi)⟩
  | [], _, _, _, _, _, h => by simp at h
  | _ :: _, [], _, _, h, _, _ => h.elim

theorem getD_okS {l : List Shr} (h : ∀ s ∈ l, OkS s) {i : Nat} (hi : i < l.length) : OkS (l.getD i sh0) := by
  have : l.getD i sh0 = l[i] := by simp [List.getD, hi]
  rw [this]
  exact h _ (List.getElem_mem hi)

theorem move_loop {L : List Int} (hL : L.length ≤ 600) {l : List Shr} (hok : OkL l) {total r : Int} {x : List Int} (hx : InR l x) (hp : Pr r l x) (hT : sumI x = clamp total (lows l) (highs l)) :
    ∀ (m i k : Nat) (y : List Int), i + m = 12 → k ≤ 600 → InR l y → sumI y = clamp total (lows l) (highs l) →
    lp E (denC E) 8 0 [] 2 { vals := [AV.sl 3 (shK l), AV.int .i64 total, AV.int .i64 (costS l x), AV.int .i64 (i : Int)], blks := [src L k, Blk.arr 1 (intsK .i64 y)] } =
      some (Ex.exit 2, { vals := [], blks := [] })
  | 0, i, k, y, h, _, _, _ => by
    have k1 : ltB (i : Int) 12 = false := by simp; omega
    rw [r8_2]
    simp only [k1, bnd_some, ctl_true, ctl_false, ctl_and, ctl_or', ctl_or2, x_toPV, x_toCs, x_toCs2, x_toEs, x_bEs, x_bCs, x_aPV, x_aCs, x_int, x_bool, x_str, x_es, x_esn, nth_0, nth_1, nth_2, nth_3, nth_4, nth_5, nth_6, nth_7, nth_8, nth_9, y_nil, y_int, y_bool, y_str, y_sl, y_nils, y_agg, y_ownp, y_own, z_nil, z_int, z_bool, z_str, z_sl, z_nils, b_nil, b_arr, b_box1, b_box2, b_box3, b_box4, List.map_cons, List.map_nil, Bool.and_self, Bool.and_true, Bool.true_and, Bool.not_true, Bool.not_false, Bool.or_false, Bool.false_or, cond_true, cond_false, okPack, okPut, okPutBlks, okPutCells, q_isP, q_isAg, q_isBox, q_isArr, q_int, q_bool, q_str, q_sl, q_nils, e_exit, e_ret, e_nrm, e_ret_exit, e_exit_ret, e_nrm_exit, e_nrm_ret, e_exit_nrm, e_ret_nrm, Nat.zero_add, Nat.reduceAdd, noslR, noslP, noslB, noslA, List.all_cons, List.all_nil]
  | m + 1, i, k, y, h, hk, hy, hs => by
    have ih := fun k' y' => move_loop hL hok hx hp hT m (i + 1) k' y' (by omega)
    have h8 := hok.1
    rw [r8_2]
    rw [shK_length]
    have k1 : ltB (i : Int) 12 = true := by simp; omega
    by_cases hlen : 1 < (l.length : Int)
    · have k2 : ltB 1 (l.length : Int) = true := by simp; omega
      have q1 := at'_le hL hk
      have q2 := at'_le hL q1
      have q3 := at'_le hL q2
      simp only [k1, k2, bnd_some, ctl_true, ctl_false, ctl_and, ctl_or', ctl_or2, x_toPV, x_toCs, x_toCs2, x_toEs, x_bEs, x_bCs, x_aPV, x_aCs, x_int, x_bool, x_str, x_es, x_esn, nth_0, nth_1, nth_2, nth_3, nth_4, nth_5, nth_6, nth_7, nth_8, nth_9, y_nil, y_int, y_bool, y_str, y_sl, y_nils, y_agg, y_ownp, y_own, z_nil, z_int, z_bool, z_str, z_sl, z_nils, b_nil, b_arr, b_box1, b_box2, b_box3, b_box4, List.map_cons, List.map_nil, Bool.and_self, Bool.and_true, Bool.true_and, Bool.not_true, Bool.not_false, Bool.or_false, Bool.false_or, cond_true, cond_false, okPack, okPut, okPutBlks, okPutCells, q_isP, q_isAg, q_isBox, q_isArr, q_int, q_bool, q_str, q_sl, q_nils, e_exit, e_ret, e_nrm, e_ret_exit, e_exit_ret, e_nrm_exit, e_nrm_ret, e_exit_nrm, e_ret_nrm, Nat.zero_add, Nat.reduceAdd, noslR, noslP, noslB, noslA, List.all_cons, List.all_nil]
      rw [c_N hL hk _ (by omega)]
      simp only [bnd_some, ctl_true, ctl_false, ctl_and, ctl_or', ctl_or2, x_toPV, x_toCs, x_toCs2, x_toEs, x_bEs, x_bCs, x_aPV, x_aCs, x_int, x_bool, x_str, x_es, x_esn, nth_0, nth_1, nth_2, nth_3, nth_4, nth_5, nth_6, nth_7, nth_8, nth_9, y_nil, y_int, y_bool, y_str, y_sl, y_nils, y_agg, y_ownp, y_own, z_nil, z_int, z_bool, z_str, z_sl, z_nils, b_nil, b_arr, b_box1, b_box2, b_box3, b_box4, List.map_cons, List.map_nil, Bool.and_self, Bool.and_true, Bool.true_and, Bool.not_true, Bool.not_false, Bool.or_false, Bool.false_or, cond_true, cond_false, okPack, okPut, okPutBlks, okPutCells, q_isP, q_isAg, q_isBox, q_isArr, q_int, q_bool, q_str, q_sl, q_nils, e_exit, e_ret, e_nrm, e_ret_exit, e_exit_ret, e_nrm_exit, e_nrm_ret, e_exit_nrm, e_ret_nrm, Nat.zero_add, Nat.reduceAdd, noslR, noslP, noslB, noslA, List.all_cons, List.all_nil]
      rw [c_N hL q1 _ (by omega)]
      simp only [bnd_some, ctl_true, ctl_false, ctl_and, ctl_or', ctl_or2, x_toPV, x_toCs, x_toCs2, x_toEs, x_bEs, x_bCs, x_aPV, x_aCs, x_int, x_bool, x_str, x_es, x_esn, nth_0, nth_1, nth_2, nth_3, nth_4, nth_5, nth_6, nth_7, nth_8, nth_9, y_nil, y_int, y_bool, y_str, y_sl, y_nils, y_agg, y_ownp, y_own, z_nil, z_int, z_bool, z_str, z_sl, z_nils, b_nil, b_arr, b_box1, b_box2, b_box3, b_box4, List.map_cons, List.map_nil, Bool.and_self, Bool.and_true, Bool.true_and, Bool.not_true, Bool.not_false, Bool.or_false, Bool.false_or, cond_true, cond_false, okPack, okPut, okPutBlks, okPutCells, q_isP, q_isAg, q_isBox, q_isArr, q_int, q_bool, q_str, q_sl, q_nils, e_exit, e_ret, e_nrm, e_ret_exit, e_exit_ret, e_nrm_exit, e_nrm_ret, e_exit_nrm, e_ret_nrm, Nat.zero_add, Nat.reduceAdd, noslR, noslP, noslB, noslA, List.all_cons, List.all_nil]
      rw [c_N hL q2 4 (by decide)]
      have b1 := vN_bounds (L := L) (k := k) (n := (l.length : Int)) (by omega)
      have b2 := vN_bounds (L := L) (k := at' L k) (n := (l.length : Int)) (by omega)
      have b3 := vN_bounds (L := L) (k := at' L (at' L k)) (n := 4) (by omega)
      generalize vN L k (l.length : Int) = a at *
      generalize vN L (at' L k) (l.length : Int) = b at *
      generalize vN L (at' L (at' L k)) 4 = n at *
      generalize at' L (at' L (at' L k)) = k3 at *
      have hyl := hy.length
      have c1 : (leB 0 a && ltB a ((intsK .i64 y).length : Int)) = true := by rw [intsK_length]; simp; omega
      have c2 : (leB 0 b && ltB b ((intsK .i64 y).length : Int)) = true := by rw [intsK_length]; simp; omega
      have na := nth_ints (y := y) (i := a.toNat) (by omega)
      have nb := nth_ints (y := y) (i := b.toNat) (by omega)
      have oka : ∀ v, okCs [Sh.int .i64] (List.take 1 (List.drop 0 [PV.int .i64 v])) = true := fun _ => rfl
      have ya := hy.at a.toNat (by omega)
      have yb := hy.at b.toNat (by omega)
      have sa := getD_okS hok.2 (i := a.toNat) (by omega)
      have sb := getD_okS hok.2 (i := b.toNat) (by omega)
      have sa' := sa
      have sb' := sb
      unfold OkS at sa' sb'
      simp only [bnd_some, ctl_true, ctl_false, ctl_and, ctl_or', ctl_or2, x_toPV, x_toCs, x_toCs2, x_toEs, x_bEs, x_bCs, x_aPV, x_aCs, x_int, x_bool, x_str, x_es, x_esn, nth_0, nth_1, nth_2, nth_3, nth_4, nth_5, nth_6, nth_7, nth_8, nth_9, y_nil, y_int, y_bool, y_str, y_sl, y_nils, y_agg, y_ownp, y_own, z_nil, z_int, z_bool, z_str, z_sl, z_nils, b_nil, b_arr, b_box1, b_box2, b_box3, b_box4, List.map_cons, List.map_nil, Bool.and_self, Bool.and_true, Bool.true_and, Bool.not_true, Bool.not_false, Bool.or_false, Bool.false_or, cond_true, cond_false, okPack, okPut, okPutBlks, okPutCells, q_isP, q_isAg, q_isBox, q_isArr, q_int, q_bool, q_str, q_sl, q_nils, e_exit, e_ret, e_nrm, e_ret_exit, e_exit_ret, e_nrm_exit, e_nrm_ret, e_exit_nrm, e_ret_nrm, Nat.zero_add, Nat.reduceAdd, noslR, noslP, noslB, noslA, List.all_cons, List.all_nil, c1, c2, na, nb, oka, getE_shs (l := l) (i := a) (by omega), getE_shs (l := l) (i := b) (by omega), shC]
      rw [w64 (n := y.getD a.toNat 0 - n) (by omega), w64 (n := y.getD b.toNat 0 + n) (by omega), w64 (n := (i : Int) + 1) (by omega)]
      have e1 : ((i : Int) + 1) = ((i + 1 : Nat) : Int) := by omega
      rw [e1]
      by_cases hv : ((a == b) || ltB (y.getD a.toNat 0 - n) (l.getD a.toNat sh0).lo || ltB (l.getD b.toNat sh0).hi (y.getD b.toNat 0 + n)) = true
      · rw [hv, ctl_true]
        exact ih _ _ q3 hy hs
      · have hv' : ((a == b) || ltB (y.getD a.toNat 0 - n) (l.getD a.toNat sh0).lo || ltB (l.getD b.toNat sh0).hi (y.getD b.toNat 0 + n)) = false := by simpa using hv
        rw [hv', ctl_false]
        simp only [Bool.or_eq_false_iff, beq_eq_false_iff_ne, ne_eq, decide_eq_false_iff_not] at hv'
        obtain ⟨⟨v1, v2⟩, v3⟩ := hv'
        have hne : a.toNat ≠ b.toNat := by omega
        rw [setEs_ints (by omega), setEs_ints (by simp; omega)]
        have c3 : (leB 0 b && ltB b ((intsK .i64 (y.set a.toNat (y.getD a.toNat 0 - n))).length : Int)) = true := by rw [intsK_length]; simp; omega
        have hy1 := hy.set a.toNat (v := y.getD a.toNat 0 - n) (by omega) (by omega)
        have hy2 := hy1.set b.toNat (v := y.getD b.toNat 0 + n) (by omega) (by omega)
        have hs2 : sumI ((y.set a.toNat (y.getD a.toNat 0 - n)).set b.toNat (y.getD b.toNat 0 + n)) = sumI y := by
          rw [sumI_set _ _ _ (by simp; omega), sumI_set _ _ _ (by omega)]
          have : (y.set a.toNat (y.getD a.toNat 0 - n)).getD b.toNat 0 = y.getD b.toNat 0 := by
            simp [List.getD, List.getElem?_set, hne]
          rw [this]; omega
        generalize (y.set a.toNat (y.getD a.toNat 0 - n)).set b.toNat (y.getD b.toNat 0 + n) = y2 at *
        have z : ((0 : Int) != 0) = false := rfl
        have g1 := cert_least hok hx hy2 hp (by omega)
        have k4 : ltB (costS l y2) (costS l x) = false := by simp; omega
        have k5 : (chk l total y2 && ltB (costS l x) (costS l y2)) = false := by
          cases hc : chk l total y2 with
          | false => rfl
          | true =>
            obtain ⟨_, p', hp'⟩ := chk_pr hy2 hc
            have g2 := cert_least hok hy2 hx hp' (by omega)
            simp; omega
        simp only [c3, ctl_true]
        rw [c_Sum hok hy2]
        simp only [bnd_some, ctl_true, ctl_false, ctl_and, ctl_or', ctl_or2, x_toPV, x_toCs, x_toCs2, x_toEs, x_bEs, x_bCs, x_aPV, x_aCs, x_int, x_bool, x_str, x_es, x_esn, nth_0, nth_1, nth_2, nth_3, nth_4, nth_5, nth_6, nth_7, nth_8, nth_9, y_nil, y_int, y_bool, y_str, y_sl, y_nils, y_agg, y_ownp, y_own, z_nil, z_int, z_bool, z_str, z_sl, z_nils, b_nil, b_arr, b_box1, b_box2, b_box3, b_box4, List.map_cons, List.map_nil, Bool.and_self, Bool.and_true, Bool.true_and, Bool.not_true, Bool.not_false, Bool.or_false, Bool.false_or, cond_true, cond_false, okPack, okPut, okPutBlks, okPutCells, q_isP, q_isAg, q_isBox, q_isArr, q_int, q_bool, q_str, q_sl, q_nils, e_exit, e_ret, e_nrm, e_ret_exit, e_exit_ret, e_nrm_exit, e_nrm_ret, e_exit_nrm, e_ret_nrm, Nat.zero_add, Nat.reduceAdd, noslR, noslP, noslB, noslA, List.all_cons, List.all_nil, z, k4]
        rw [c_Check hok hy2]
        simp only [bnd_some, ctl_true, ctl_false, ctl_and, ctl_or', ctl_or2, x_toPV, x_toCs, x_toCs2, x_toEs, x_bEs, x_bCs, x_aPV, x_aCs, x_int, x_bool, x_str, x_es, x_esn, nth_0, nth_1, nth_2, nth_3, nth_4, nth_5, nth_6, nth_7, nth_8, nth_9, y_nil, y_int, y_bool, y_str, y_sl, y_nils, y_agg, y_ownp, y_own, z_nil, z_int, z_bool, z_str, z_sl, z_nils, b_nil, b_arr, b_box1, b_box2, b_box3, b_box4, List.map_cons, List.map_nil, Bool.and_self, Bool.and_true, Bool.true_and, Bool.not_true, Bool.not_false, Bool.or_false, Bool.false_or, cond_true, cond_false, okPack, okPut, okPutBlks, okPutCells, q_isP, q_isAg, q_isBox, q_isArr, q_int, q_bool, q_str, q_sl, q_nils, e_exit, e_ret, e_nrm, e_ret_exit, e_exit_ret, e_nrm_exit, e_nrm_ret, e_exit_nrm, e_ret_nrm, Nat.zero_add, Nat.reduceAdd, noslR, noslP, noslB, noslA, List.all_cons, List.all_nil, k5]
        exact ih _ _ q3 hy2 (by omega)
    · have k2 : ltB 1 (l.length : Int) = false := by simp; omega
      simp only [k1, k2, bnd_some, ctl_true, ctl_false, ctl_and, ctl_or', ctl_or2, x_toPV, x_toCs, x_toCs2, x_toEs, x_bEs, x_bCs, x_aPV, x_aCs, x_int, x_bool, x_str, x_es, x_esn, nth_0, nth_1, nth_2, nth_3, nth_4, nth_5, nth_6, nth_7, nth_8, nth_9, y_nil, y_int, y_bool, y_str, y_sl, y_nils, y_agg, y_ownp, y_own, z_nil, z_int, z_bool, z_str, z_sl, z_nils, b_nil, b_arr, b_box1, b_box2, b_box3, b_box4, List.map_cons, List.map_nil, Bool.and_self, Bool.and_true, Bool.true_and, Bool.not_true, Bool.not_false, Bool.or_false, Bool.false_or, cond_true, cond_false, okPack, okPut, okPutBlks, okPutCells, q_isP, q_isAg, q_isBox, q_isArr, q_int, q_bool, q_str, q_sl, q_nils, e_exit, e_ret, e_nrm, e_ret_exit, e_exit_ret, e_nrm_exit, e_nrm_ret, e_exit_nrm, e_ret_nrm, Nat.zero_add, Nat.reduceAdd, noslR, noslP, noslB, noslA, List.all_cons, List.all_nil]

theorem add_loop {L : List Int} {k : Nat} {l0 : List (List PV)} {total mi cost f : Int} {z : List Int} (hz : z.length ≤ 8) : ∀ (l d : List Int) (n : Int), d ++ l = z → (∀ y ∈ l, -5000 ≤ y ∧ y ≤ 5000) → -5000 * (d.length : Int) ≤ n ∧ n ≤ 5000 * (d.length : Int) →
    lp E (denC E) 8 0 [] 0 { vals := [AV.sl 3 l0, AV.int .i64 total, AV.sl 1 (intsK .i64 z), AV.int .i64 mi, AV.int .i64 cost, AV.int .i64 f, AV.int .i64 n, AV.sl 1 (intsK .i64 z), AV.int .i64 (z.length : Int), AV.int .i64 (d.length : Int)], blks := [src L k] } =
      some (Ex.exit 0, { vals := [AV.sl 3 l0, AV.int .i64 total, AV.sl 1 (intsK .i64 z), AV.int .i64 mi, AV.int .i64 cost, AV.int .i64 f, AV.int .i64 (n + sumI l)], blks := [src L k] })
  | [], d, n, hd, _, _ => by
    rw [r8_0, ctl_dec, if_neg (by rw [← hd]; simp)]
    simp [sumI]
  | u :: l, d, n, hd, hu, hn => by
    have hk := hu u (List.mem_cons_self ..)
    have hlt : d.length < z.length := by rw [← hd]; simp
    rw [r8_0, ctl_dec, if_pos (by omega), getE_ints (by omega)]
    have e1 : z.getD ((d.length : Int)).toNat 0 = u := by rw [← hd]; simp [List.getD]
    rw [e1]
    simp only [bnd_some, ctl_true, ctl_false, ctl_and, ctl_or', ctl_or2, x_toPV, x_toCs, x_toCs2, x_toEs, x_bEs, x_bCs, x_aPV, x_aCs, x_int, x_bool, x_str, x_es, x_esn, nth_0, nth_1, nth_2, nth_3, nth_4, nth_5, nth_6, nth_7, nth_8, nth_9, y_nil, y_int, y_bool, y_str, y_sl, y_nils, y_agg, y_ownp, y_own, z_nil, z_int, z_bool, z_str, z_sl, z_nils, b_nil, b_arr, b_box1, b_box2, b_box3, b_box4, List.map_cons, List.map_nil, Bool.and_self, Bool.and_true, Bool.true_and, Bool.not_true, Bool.not_false, Bool.or_false, Bool.false_or, cond_true, cond_false, okPack, okPut, okPutBlks, okPutCells, q_isP, q_isAg, q_isBox, q_isArr, q_int, q_bool, q_str, q_sl, q_nils, e_exit, e_ret, e_nrm, e_ret_exit, e_exit_ret, e_nrm_exit, e_nrm_ret, e_exit_nrm, e_ret_nrm, Nat.zero_add, Nat.reduceAdd, noslR, noslP, noslB, noslA, List.all_cons, List.all_nil]
    have ih := add_loop (L := L) (k := k) (l0 := l0) (total := total) (mi := mi) (cost := cost) (f := f) hz l (d ++ [u]) (n + u) (by rw [← hd]; simp) (fun v hv => hu v (List.mem_cons_of_mem _ hv)) (by simp; omega)
    rw [w64 (n := n + u) (by omega), w64 (n := (d.length : Int) + 1) (by omega)]
    simp only [List.length_append, List.length_cons, List.length_nil] at ih
    have e3 : ((d.length : Int) + 1) = ((d.length + (0 + 1) : Nat) : Int) := by omega
    rw [e3, ih]
    simp only [sumI, Int.add_assoc]

theorem d_ShareLeast (t : List Int) (_ : t.length ≤ maxLen) (_ : ∀ n ∈ t, -9223372036854775808 ≤ n ∧ n ≤ 9223372036854775807) :
    denC E 8 [AV.sl 1 (intsK .i64 t)] [] = some ([RV.p (PV.bool true)], []) := by
  rw [denC_eq, r8, c_New]
  have hL : (t.take 600).length ≤ 600 := by simp; omega
  generalize t.take 600 = L at hL
  have h0 : (0 : Nat) ≤ 600 := by omega
  simp only [bnd_some, ctl_true, ctl_false, ctl_and, ctl_or', ctl_or2, x_toPV, x_toCs, x_toCs2, x_toEs, x_bEs, x_bCs, x_aPV, x_aCs, x_int, x_bool, x_str, x_es, x_esn, nth_0, nth_1, nth_2, nth_3, nth_4, nth_5, nth_6, nth_7, nth_8, nth_9, y_nil, y_int, y_bool, y_str, y_sl, y_nils, y_agg, y_ownp, y_own, z_nil, z_int, z_bool, z_str, z_sl, z_nils, b_nil, b_arr, b_box1, b_box2, b_box3, b_box4, List.map_cons, List.map_nil, Bool.and_self, Bool.and_true, Bool.true_and, Bool.not_true, Bool.not_false, Bool.or_false, Bool.false_or, cond_true, cond_false, okPack, okPut, okPutBlks, okPutCells, q_isP, q_isAg, q_isBox, q_isArr, q_int, q_bool, q_str, q_sl, q_nils, e_exit, e_ret, e_nrm, e_ret_exit, e_exit_ret, e_nrm_exit, e_nrm_ret, e_exit_nrm, e_ret_nrm, Nat.zero_add, Nat.reduceAdd, noslR, noslP, noslB, noslA, List.all_cons, List.all_nil]
  rw [src_zero, c_Shares hL h0 (by decide)]
  have hok := (shN_ok L 0 (most := 4) (by decide)).1
  have hat := shAt_le hL h0 4
  generalize shN L 0 4 = l at hok
  generalize shAt L 0 4 = k at hat
  have he := ends_in hok.2
  have h8 := hok.1
  simp only [bnd_some, ctl_true, ctl_false, ctl_and, ctl_or', ctl_or2, x_toPV, x_toCs, x_toCs2, x_toEs, x_bEs, x_bCs, x_aPV, x_aCs, x_int, x_bool, x_str, x_es, x_esn, nth_0, nth_1, nth_2, nth_3, nth_4, nth_5, nth_6, nth_7, nth_8, nth_9, y_nil, y_int, y_bool, y_str, y_sl, y_nils, y_agg, y_ownp, y_own, z_nil, z_int, z_bool, z_str, z_sl, z_nils, b_nil, b_arr, b_box1, b_box2, b_box3, b_box4, List.map_cons, List.map_nil, Bool.and_self, Bool.and_true, Bool.true_and, Bool.not_true, Bool.not_false, Bool.or_false, Bool.false_or, cond_true, cond_false, okPack, okPut, okPutBlks, okPutCells, q_isP, q_isAg, q_isBox, q_isArr, q_int, q_bool, q_str, q_sl, q_nils, e_exit, e_ret, e_nrm, e_ret_exit, e_exit_ret, e_nrm_exit, e_nrm_ret, e_exit_nrm, e_ret_nrm, Nat.zero_add, Nat.reduceAdd, noslR, noslP, noslB, noslA, List.all_cons, List.all_nil]
  rw [c_Range hL hat (lo := -30) (hi := 40) (by decide)]
  have hb := vRange_bounds (L := L) (k := k) (lo := -30) (hi := 40) (by omega)
  generalize vRange L k (-30) 40 = total at hb
  have hat1 := at'_le hL hat
  generalize at' L k = k1 at *
  obtain ⟨r, hr, e1⟩ := c_Divide hok (total := total) (by omega)
  have hT := clamp_in (x := total) he.2.1
  have hup := divL_up hok hT hT (Int.le_refl _) hr hr
  have hsum := divL_sum hok hT hr
  have hlen := divL_length hok (clamp total (lows l) (highs l)) r
  have hpr := divL_price hok (clamp total (lows l) (highs l)) r
  have hp : Pr r l (divL l (clamp total (lows l) (highs l)) r) := by rw [divL_eq hok]; exact fillK_pr r hok.2
  generalize divL l (clamp total (lows l) (highs l)) r = x at *
  have hx := hup.left
  have hck := pr_chk hpr hsum
  simp only [bnd_some, ctl_true, ctl_false, ctl_and, ctl_or', ctl_or2, x_toPV, x_toCs, x_toCs2, x_toEs, x_bEs, x_bCs, x_aPV, x_aCs, x_int, x_bool, x_str, x_es, x_esn, nth_0, nth_1, nth_2, nth_3, nth_4, nth_5, nth_6, nth_7, nth_8, nth_9, y_nil, y_int, y_bool, y_str, y_sl, y_nils, y_agg, y_ownp, y_own, z_nil, z_int, z_bool, z_str, z_sl, z_nils, b_nil, b_arr, b_box1, b_box2, b_box3, b_box4, List.map_cons, List.map_nil, Bool.and_self, Bool.and_true, Bool.true_and, Bool.not_true, Bool.not_false, Bool.or_false, Bool.false_or, cond_true, cond_false, okPack, okPut, okPutBlks, okPutCells, q_isP, q_isAg, q_isBox, q_isArr, q_int, q_bool, q_str, q_sl, q_nils, e_exit, e_ret, e_nrm, e_ret_exit, e_exit_ret, e_nrm_exit, e_nrm_ret, e_exit_nrm, e_ret_nrm, Nat.zero_add, Nat.reduceAdd, noslR, noslP, noslB, noslA, List.all_cons, List.all_nil]
  rw [e1]
  have z : ((0 : Int) != 0) = false := rfl
  simp only [bnd_some, ctl_true, ctl_false, ctl_and, ctl_or', ctl_or2, x_toPV, x_toCs, x_toCs2, x_toEs, x_bEs, x_bCs, x_aPV, x_aCs, x_int, x_bool, x_str, x_es, x_esn, nth_0, nth_1, nth_2, nth_3, nth_4, nth_5, nth_6, nth_7, nth_8, nth_9, y_nil, y_int, y_bool, y_str, y_sl, y_nils, y_agg, y_ownp, y_own, z_nil, z_int, z_bool, z_str, z_sl, z_nils, b_nil, b_arr, b_box1, b_box2, b_box3, b_box4, List.map_cons, List.map_nil, Bool.and_self, Bool.and_true, Bool.true_and, Bool.not_true, Bool.not_false, Bool.or_false, Bool.false_or, cond_true, cond_false, okPack, okPut, okPutBlks, okPutCells, q_isP, q_isAg, q_isBox, q_isArr, q_int, q_bool, q_str, q_sl, q_nils, e_exit, e_ret, e_nrm, e_ret_exit, e_exit_ret, e_nrm_exit, e_nrm_ret, e_exit_nrm, e_ret_nrm, Nat.zero_add, Nat.reduceAdd, noslR, noslP, noslB, noslA, List.all_cons, List.all_nil, z, intsK_length, shK_length, hlen, bne_self_eq_false]
  rw [c_Check hok hx, hck]
  simp only [bnd_some, ctl_true, ctl_false, ctl_and, ctl_or', ctl_or2, x_toPV, x_toCs, x_toCs2, x_toEs, x_bEs, x_bCs, x_aPV, x_aCs, x_int, x_bool, x_str, x_es, x_esn, nth_0, nth_1, nth_2, nth_3, nth_4, nth_5, nth_6, nth_7, nth_8, nth_9, y_nil, y_int, y_bool, y_str, y_sl, y_nils, y_agg, y_ownp, y_own, z_nil, z_int, z_bool, z_str, z_sl, z_nils, b_nil, b_arr, b_box1, b_box2, b_box3, b_box4, List.map_cons, List.map_nil, Bool.and_self, Bool.and_true, Bool.true_and, Bool.not_true, Bool.not_false, Bool.or_false, Bool.false_or, cond_true, cond_false, okPack, okPut, okPutBlks, okPutCells, q_isP, q_isAg, q_isBox, q_isArr, q_int, q_bool, q_str, q_sl, q_nils, e_exit, e_ret, e_nrm, e_ret_exit, e_exit_ret, e_nrm_exit, e_nrm_ret, e_exit_nrm, e_ret_nrm, Nat.zero_add, Nat.reduceAdd, noslR, noslP, noslB, noslA, List.all_cons, List.all_nil]
  rw [c_Sum hok hx]
  simp only [bnd_some, ctl_true, ctl_false, ctl_and, ctl_or', ctl_or2, x_toPV, x_toCs, x_toCs2, x_toEs, x_bEs, x_bCs, x_aPV, x_aCs, x_int, x_bool, x_str, x_es, x_esn, nth_0, nth_1, nth_2, nth_3, nth_4, nth_5, nth_6, nth_7, nth_8, nth_9, y_nil, y_int, y_bool, y_str, y_sl, y_nils, y_agg, y_ownp, y_own, z_nil, z_int, z_bool, z_str, z_sl, z_nils, b_nil, b_arr, b_box1, b_box2, b_box3, b_box4, List.map_cons, List.map_nil, Bool.and_self, Bool.and_true, Bool.true_and, Bool.not_true, Bool.not_false, Bool.or_false, Bool.false_or, cond_true, cond_false, okPack, okPut, okPutBlks, okPutCells, q_isP, q_isAg, q_isBox, q_isArr, q_int, q_bool, q_str, q_sl, q_nils, e_exit, e_ret, e_nrm, e_ret_exit, e_exit_ret, e_nrm_exit, e_nrm_ret, e_exit_nrm, e_ret_nrm, Nat.zero_add, Nat.reduceAdd, noslR, noslP, noslB, noslA, List.all_cons, List.all_nil]
  have ha := add_loop (L := L) (k := k1) (l0 := shK l) (total := total) (mi := total - clamp total (lows l) (highs l)) (cost := costS l x) (f := 0) (z := x) (by omega) x [] 0 rfl (hx.bound hok.2) (by simp)
  simp only [List.length_nil, Int.zero_add, hlen] at ha
  have e0 : (((0 : Nat)) : Int) = 0 := rfl
  rw [e0] at ha
  rw [ha]
  have hroom : (leN ((intsK .i64 x).length * 8) 140737488355328) = true := by rw [intsK_length]; simp; omega
  have e2 : sumI x + (total - clamp total (lows l) (highs l)) = total := by omega
  simp only [bnd_some, ctl_true, ctl_false, ctl_and, ctl_or', ctl_or2, x_toPV, x_toCs, x_toCs2, x_toEs, x_bEs, x_bCs, x_aPV, x_aCs, x_int, x_bool, x_str, x_es, x_esn, nth_0, nth_1, nth_2, nth_3, nth_4, nth_5, nth_6, nth_7, nth_8, nth_9, y_nil, y_int, y_bool, y_str, y_sl, y_nils, y_agg, y_ownp, y_own, z_nil, z_int, z_bool, z_str, z_sl, z_nils, b_nil, b_arr, b_box1, b_box2, b_box3, b_box4, List.map_cons, List.map_nil, Bool.and_self, Bool.and_true, Bool.true_and, Bool.not_true, Bool.not_false, Bool.or_false, Bool.false_or, cond_true, cond_false, okPack, okPut, okPutBlks, okPutCells, q_isP, q_isAg, q_isBox, q_isArr, q_int, q_bool, q_str, q_sl, q_nils, e_exit, e_ret, e_nrm, e_ret_exit, e_exit_ret, e_nrm_exit, e_nrm_ret, e_exit_nrm, e_ret_nrm, Nat.zero_add, Nat.reduceAdd, noslR, noslP, noslB, noslA, List.all_cons, List.all_nil, z]
  rw [w64 (by omega), e2]
  simp only [bne_self_eq_false, bnd_some, ctl_true, ctl_false, ctl_and, ctl_or', ctl_or2, x_toPV, x_toCs, x_toCs2, x_toEs, x_bEs, x_bCs, x_aPV, x_aCs, x_int, x_bool, x_str, x_es, x_esn, nth_0, nth_1, nth_2, nth_3, nth_4, nth_5, nth_6, nth_7, nth_8, nth_9, y_nil, y_int, y_bool, y_str, y_sl, y_nils, y_agg, y_ownp, y_own, z_nil, z_int, z_bool, z_str, z_sl, z_nils, b_nil, b_arr, b_box1, b_box2, b_box3, b_box4, List.map_cons, List.map_nil, Bool.and_self, Bool.and_true, Bool.true_and, Bool.not_true, Bool.not_false, Bool.or_false, Bool.false_or, cond_true, cond_false, okPack, okPut, okPutBlks, okPutCells, q_isP, q_isAg, q_isBox, q_isArr, q_int, q_bool, q_str, q_sl, q_nils, e_exit, e_ret, e_nrm, e_ret_exit, e_exit_ret, e_nrm_exit, e_nrm_ret, e_exit_nrm, e_ret_nrm, Nat.zero_add, Nat.reduceAdd, noslR, noslP, noslB, noslA, List.all_cons, List.all_nil, hroom]
  have hm := move_loop hL hok hx hp hsum 12 0 k1 x (by omega) hat1 hx hsum
  rw [e0] at hm
  rw [hm]
  simp only [bnd_some, ctl_true, ctl_false, ctl_and, ctl_or', ctl_or2, x_toPV, x_toCs, x_toCs2, x_toEs, x_bEs, x_bCs, x_aPV, x_aCs, x_int, x_bool, x_str, x_es, x_esn, nth_0, nth_1, nth_2, nth_3, nth_4, nth_5, nth_6, nth_7, nth_8, nth_9, y_nil, y_int, y_bool, y_str, y_sl, y_nils, y_agg, y_ownp, y_own, z_nil, z_int, z_bool, z_str, z_sl, z_nils, b_nil, b_arr, b_box1, b_box2, b_box3, b_box4, List.map_cons, List.map_nil, Bool.and_self, Bool.and_true, Bool.true_and, Bool.not_true, Bool.not_false, Bool.or_false, Bool.false_or, cond_true, cond_false, okPack, okPut, okPutBlks, okPutCells, q_isP, q_isAg, q_isBox, q_isArr, q_int, q_bool, q_str, q_sl, q_nils, e_exit, e_ret, e_nrm, e_ret_exit, e_exit_ret, e_nrm_exit, e_nrm_ret, e_exit_nrm, e_ret_nrm, Nat.zero_add, Nat.reduceAdd, noslR, noslP, noslB, noslA, List.all_cons, List.all_nil, c_sane]

end Go.Proofs.Ytbacfgghneknjaa.Vm
