/- Allocation: the source, the stations, the example. -/
import Derived.Test.YtaekifnmofjhhaaAllocC
namespace Go.Proofs.Ytaekifnmofjhhaa.Vm
set_option linter.unusedVariables false
set_option linter.unusedSimpArgs false

/-! ### The source -/
theorem most_loop {L : List Int} (hL : L.length ≤ 600) (N : Nat) (hN : N ≤ 1000) : ∀ (n : Nat) (i : Nat) (k : Nat) (acc : List Int), k ≤ 600 → i + n = N → acc.length = i →
    ∃ (l : List Int) (k' : Nat), lp E (denC E) 11 1 [] 0 { vals := [AV.int .i64 N, AV.int .i64 i], blks := [src L k, Blk.arr 1 (intsK .i64 acc)] } =
      some (Ex.exit 0, { vals := [], blks := [src L k', Blk.arr 1 (intsK .i64 (acc ++ l))] }) ∧ l.length = n ∧ (∀ m ∈ l, 0 ≤ m ∧ m ≤ 5000) ∧ k' ≤ 600
  | 0, i, k, acc, hk, hi, ha => by
    refine ⟨[], k, ?_, rfl, fun t ht => (by cases ht), hk⟩
    rw [r11_0, ctl_dec, if_neg (by omega), List.append_nil]
  | n + 1, i, k, acc, hk, hi, ha => by
    have hk1 := at'_le hL hk
    have e1 : denC E 23 [AV.t (.ptr 0 0), AV.sl 1 [[PV.int .i64 0], [PV.int .i64 3], [PV.int .i64 10], [PV.int .i64 50], [PV.int .i64 5000]]] _ = _ := c_Pick hL hk (l := [0, 3, 10, 50, 5000]) (by decide)
    have b1 := vPick_mem L k (l := [0, 3, 10, 50, 5000]) (by decide)
    generalize vPick L k [0, 3, 10, 50, 5000] = x at *
    obtain ⟨l, k', h2, h3, h4, h5⟩ := most_loop hL N hN n (i + 1) (at' L k) (acc ++ [x]) hk1 (by omega) (by simp [ha])
    refine ⟨x :: l, k', ?_, by simp [h3], fun v hv => ?_, h5⟩
    · rw [r11_0, ctl_dec, if_pos (by omega), e1]
      simp only [bnd_some, ctl_true, ctl_false, ctl_and, ctl_or', ctl_or2, x_toPV, x_toCs, x_toCs2, x_toEs, x_bEs, x_bCs, x_aPV, x_aCs, x_int, x_bool, x_str, x_es, x_esn, nth_0, nth_1, nth_2, nth_3, nth_4, nth_5, nth_6, nth_7, nth_8, nth_9, y_nil, y_int, y_bool, y_str, y_sl, y_nils, y_agg, y_ownp, y_own, z_nil, z_int, z_bool, z_str, z_sl, z_nils, b_nil, b_arr, b_box1, b_box2, b_box3, b_box4, List.map_cons, List.map_nil, Bool.and_self, Bool.and_true, Bool.true_and, Bool.not_true, Bool.not_false, Bool.or_false, Bool.false_or, cond_true, cond_false, okPack, okPut, okPutBlks, okPutCells, q_isP, q_isAg, q_isBox, q_isArr, q_int, q_bool, q_str, q_sl, q_nils, e_exit, e_ret, e_nrm, e_ret_exit, e_exit_ret, e_nrm_exit, e_nrm_ret, e_exit_nrm, e_ret_nrm, Nat.zero_add, Nat.reduceAdd, noslR, noslP, noslB, noslA, List.all_cons, List.all_nil]
      have e2 : leN (((intsK .i64 acc).length + 1) * 8) 140737488355328 = true := by rw [intsK_length]; simp only [decide_eq_true_eq]; omega
      rw [e2, w64 (by omega)]
      have e3 : (i : Int) + 1 = ((i + 1 : Nat) : Int) := by omega
      have e4 : intsK .i64 (acc ++ [x]) = intsK .i64 acc ++ [[PV.int .i64 x]] := by simp [intsK]
      rw [e3]
      rw [e4] at h2
      simp only [ctl_true]
      refine Eq.trans h2 ?_
      simp only [List.append_assoc, List.cons_append, List.nil_append]
    · rcases List.mem_cons.1 hv with rfl | hv
      · simp only [List.mem_cons, List.not_mem_nil, or_false] at b1; omega
      · exact h4 v hv

theorem c_MostL {L : List Int} {k : Nat} (hL : L.length ≤ 600) (hk : k ≤ 600) (s : Shp) (hs : s.ts.length ≤ 1000) :
    ∃ (l : List Int) (k' : Nat), denC E 11 [AV.t (.ptr 0 0), AV.agg (shpC s)] [src L k] = some ([RV.p (PV.sl 1 (intsK .i64 l))], [src L k']) ∧ l.length = s.ts.length ∧ (∀ m ∈ l, 0 ≤ m ∧ m ≤ 5000) ∧ k' ≤ 600 := by
  obtain ⟨l, k', h1, h2, h3, h4⟩ := most_loop hL s.ts.length hs s.ts.length 0 k [] hk (by omega) rfl
  refine ⟨l, k', ?_, h2, h3, h4⟩
  unfold shpC
  rw [denC_eq, r11, thK_length]
  have ea : intsK .i64 [] = [] := rfl
  have e0 : (((0 : Nat)) : Int) = 0 := rfl
  rw [ea, e0] at h1
  rw [h1]
  simp only [bnd_some, ctl_true, ctl_false, ctl_and, ctl_or', ctl_or2, x_toPV, x_toCs, x_toCs2, x_toEs, x_bEs, x_bCs, x_aPV, x_aCs, x_int, x_bool, x_str, x_es, x_esn, nth_0, nth_1, nth_2, nth_3, nth_4, nth_5, nth_6, nth_7, nth_8, nth_9, y_nil, y_int, y_bool, y_str, y_sl, y_nils, y_agg, y_ownp, y_own, z_nil, z_int, z_bool, z_str, z_sl, z_nils, b_nil, b_arr, b_box1, b_box2, b_box3, b_box4, List.map_cons, List.map_nil, Bool.and_self, Bool.and_true, Bool.true_and, Bool.not_true, Bool.not_false, Bool.or_false, Bool.false_or, cond_true, cond_false, okPack, okPut, okPutBlks, okPutCells, q_isP, q_isAg, q_isBox, q_isArr, q_int, q_bool, q_str, q_sl, q_nils, e_exit, e_ret, e_nrm, e_ret_exit, e_exit_ret, e_nrm_exit, e_nrm_ret, e_exit_nrm, e_ret_nrm, Nat.zero_add, Nat.reduceAdd, noslR, noslP, noslB, noslA, List.all_cons, List.all_nil, List.nil_append]

/-! ### The demand at the stations -/
theorem half_spec {n d : Int} (hd : 0 < d) : -d ≤ 2 * (d * Half n d - n) ∧ 2 * (d * Half n d - n) ≤ d := by
  unfold Half
  have h1 := Int.mul_ediv_add_emod (2 * n + d) (2 * d)
  have h2 := Int.emod_nonneg (2 * n + d) (b := 2 * d) (by omega)
  have h3 := Int.emod_lt_of_pos (2 * n + d) (b := 2 * d) (by omega)
  generalize (2 * n + d) / (2 * d) = q at *
  generalize (2 * n + d) % (2 * d) = r at *
  rw [Int.mul_assoc] at h1
  generalize d * q = z at *
  omega

theorem c_Stations {s : Shp} (h : OkShp s) {f0 f1 f2 : Int} (h0 : -5000 ≤ f0 ∧ f0 ≤ 5000) (h1 : -5000 ≤ f1 ∧ f1 ≤ 5000) (h2 : -400000 ≤ f2 ∧ f2 ≤ 400000) (hb : -494000 ≤ Half (f2 + f1 * s.sn) (s.bw + s.sn) ∧ Half (f2 + f1 * s.sn) (s.bw + s.sn) ≤ 494000) :
    denC E 31 [AV.agg (shpC s), AV.agg [PV.int .i64 f0, PV.int .i64 f1, PV.int .i64 f2]] [] =
      some ([RV.agg [PV.int .i64 f0, PV.int .i64 (Half (f2 + f1 * s.sn) (s.bw + s.sn)), PV.int .i64 (f1 - Half (f2 + f1 * s.sn) (s.bw + s.sn))], RV.p (PV.int .i64 0)], []) := by
  have hC := c_Check h
  obtain ⟨g1, g2, g3, g4, g5, g6, g7⟩ := h
  have m1 := mul_le (a := f1) (b := s.sn) (m := 5000) (n := 200) h1 (by omega)
  have w1 : denC E 43 [AV.sl 1 [[PV.int .i64 f0], [PV.int .i64 f1]], AV.int .i64 (-5000), AV.int .i64 5000] [] = some ([RV.p (PV.bool true)], []) := c_within (l := [f0, f1]) (fun n hn => by
    simp only [List.mem_cons, List.not_mem_nil, or_false] at hn
    rcases hn with rfl | rfl <;> omega) (by simp)
  have w2 : denC E 43 [AV.sl 1 [[PV.int .i64 f2]], AV.int .i64 (-500000), AV.int .i64 500000] [] = some ([RV.p (PV.bool true)], []) := c_within (l := [f2]) (fun n hn => by
    simp only [List.mem_cons, List.not_mem_nil, or_false] at hn
    rcases hn with rfl; omega) (by simp)
  have hH := c_Half (n := f2 + f1 * s.sn) (d := s.bw + s.sn) (by omega) (by omega)
  generalize Half (f2 + f1 * s.sn) (s.bw + s.sn) = b at *
  have w3 : denC E 43 [AV.sl 1 [[PV.int .i64 b], [PV.int .i64 (f1 - b)]], AV.int .i64 (-500000), AV.int .i64 500000] [] = some ([RV.p (PV.bool true)], []) := c_within (l := [b, f1 - b]) (fun n hn => by
    simp only [List.mem_cons, List.not_mem_nil, or_false] at hn
    rcases hn with rfl | rfl <;> omega) (by simp)
  have e0 : ((0 : Int) != 0) = false := rfl
  unfold shpC at *
  rw [denC_eq, r31, hC]
  simp only [bnd_some, ctl_true, ctl_false, ctl_and, ctl_or', ctl_or2, x_toPV, x_toCs, x_toCs2, x_toEs, x_bEs, x_bCs, x_aPV, x_aCs, x_int, x_bool, x_str, x_es, x_esn, nth_0, nth_1, nth_2, nth_3, nth_4, nth_5, nth_6, nth_7, nth_8, nth_9, y_nil, y_int, y_bool, y_str, y_sl, y_nils, y_agg, y_ownp, y_own, z_nil, z_int, z_bool, z_str, z_sl, z_nils, b_nil, b_arr, b_box1, b_box2, b_box3, b_box4, List.map_cons, List.map_nil, Bool.and_self, Bool.and_true, Bool.true_and, Bool.not_true, Bool.not_false, Bool.or_false, Bool.false_or, cond_true, cond_false, okPack, okPut, okPutBlks, okPutCells, q_isP, q_isAg, q_isBox, q_isArr, q_int, q_bool, q_str, q_sl, q_nils, e_exit, e_ret, e_nrm, e_ret_exit, e_exit_ret, e_nrm_exit, e_nrm_ret, e_exit_nrm, e_ret_nrm, Nat.zero_add, Nat.reduceAdd, noslR, noslP, noslB, noslA, List.all_cons, List.all_nil, e0]
  rw [w1]
  simp only [bnd_some, ctl_true, ctl_false, ctl_and, ctl_or', ctl_or2, x_toPV, x_toCs, x_toCs2, x_toEs, x_bEs, x_bCs, x_aPV, x_aCs, x_int, x_bool, x_str, x_es, x_esn, nth_0, nth_1, nth_2, nth_3, nth_4, nth_5, nth_6, nth_7, nth_8, nth_9, y_nil, y_int, y_bool, y_str, y_sl, y_nils, y_agg, y_ownp, y_own, z_nil, z_int, z_bool, z_str, z_sl, z_nils, b_nil, b_arr, b_box1, b_box2, b_box3, b_box4, List.map_cons, List.map_nil, Bool.and_self, Bool.and_true, Bool.true_and, Bool.not_true, Bool.not_false, Bool.or_false, Bool.false_or, cond_true, cond_false, okPack, okPut, okPutBlks, okPutCells, q_isP, q_isAg, q_isBox, q_isArr, q_int, q_bool, q_str, q_sl, q_nils, e_exit, e_ret, e_nrm, e_ret_exit, e_exit_ret, e_nrm_exit, e_nrm_ret, e_exit_nrm, e_ret_nrm, Nat.zero_add, Nat.reduceAdd, noslR, noslP, noslB, noslA, List.all_cons, List.all_nil]
  rw [w2]
  simp only [bnd_some, ctl_true, ctl_false, ctl_and, ctl_or', ctl_or2, x_toPV, x_toCs, x_toCs2, x_toEs, x_bEs, x_bCs, x_aPV, x_aCs, x_int, x_bool, x_str, x_es, x_esn, nth_0, nth_1, nth_2, nth_3, nth_4, nth_5, nth_6, nth_7, nth_8, nth_9, y_nil, y_int, y_bool, y_str, y_sl, y_nils, y_agg, y_ownp, y_own, z_nil, z_int, z_bool, z_str, z_sl, z_nils, b_nil, b_arr, b_box1, b_box2, b_box3, b_box4, List.map_cons, List.map_nil, Bool.and_self, Bool.and_true, Bool.true_and, Bool.not_true, Bool.not_false, Bool.or_false, Bool.false_or, cond_true, cond_false, okPack, okPut, okPutBlks, okPutCells, q_isP, q_isAg, q_isBox, q_isArr, q_int, q_bool, q_str, q_sl, q_nils, e_exit, e_ret, e_nrm, e_ret_exit, e_exit_ret, e_nrm_exit, e_nrm_ret, e_exit_nrm, e_ret_nrm, Nat.zero_add, Nat.reduceAdd, noslR, noslP, noslB, noslA, List.all_cons, List.all_nil]
  rw [w64 (n := f1 * s.sn) (by omega), w64 (n := f2 + f1 * s.sn) (by omega), w64 (n := s.bw + s.sn) (by omega), hH]
  simp only [bnd_some, ctl_true, ctl_false, ctl_and, ctl_or', ctl_or2, x_toPV, x_toCs, x_toCs2, x_toEs, x_bEs, x_bCs, x_aPV, x_aCs, x_int, x_bool, x_str, x_es, x_esn, nth_0, nth_1, nth_2, nth_3, nth_4, nth_5, nth_6, nth_7, nth_8, nth_9, y_nil, y_int, y_bool, y_str, y_sl, y_nils, y_agg, y_ownp, y_own, z_nil, z_int, z_bool, z_str, z_sl, z_nils, b_nil, b_arr, b_box1, b_box2, b_box3, b_box4, List.map_cons, List.map_nil, Bool.and_self, Bool.and_true, Bool.true_and, Bool.not_true, Bool.not_false, Bool.or_false, Bool.false_or, cond_true, cond_false, okPack, okPut, okPutBlks, okPutCells, q_isP, q_isAg, q_isBox, q_isArr, q_int, q_bool, q_str, q_sl, q_nils, e_exit, e_ret, e_nrm, e_ret_exit, e_exit_ret, e_nrm_exit, e_nrm_ret, e_exit_nrm, e_ret_nrm, Nat.zero_add, Nat.reduceAdd, noslR, noslP, noslB, noslA, List.all_cons, List.all_nil]
  rw [w64 (n := f1 - b) (by omega), w3]
  simp only [bnd_some, ctl_true, ctl_false, ctl_and, ctl_or', ctl_or2, x_toPV, x_toCs, x_toCs2, x_toEs, x_bEs, x_bCs, x_aPV, x_aCs, x_int, x_bool, x_str, x_es, x_esn, nth_0, nth_1, nth_2, nth_3, nth_4, nth_5, nth_6, nth_7, nth_8, nth_9, y_nil, y_int, y_bool, y_str, y_sl, y_nils, y_agg, y_ownp, y_own, z_nil, z_int, z_bool, z_str, z_sl, z_nils, b_nil, b_arr, b_box1, b_box2, b_box3, b_box4, List.map_cons, List.map_nil, Bool.and_self, Bool.and_true, Bool.true_and, Bool.not_true, Bool.not_false, Bool.or_false, Bool.false_or, cond_true, cond_false, okPack, okPut, okPutBlks, okPutCells, q_isP, q_isAg, q_isBox, q_isArr, q_int, q_bool, q_str, q_sl, q_nils, e_exit, e_ret, e_nrm, e_ret_exit, e_exit_ret, e_nrm_exit, e_nrm_ret, e_exit_nrm, e_ret_nrm, Nat.zero_add, Nat.reduceAdd, noslR, noslP, noslB, noslA, List.all_cons, List.all_nil]

/-! ### What is given, station by station -/
/-- The sum of the numbers at thrusters of one station. -/
def sumAt (k : Int) : List Thr → List Int → Int
  | t :: ts, x :: xs => (if t.st = k then x else 0) + sumAt k ts xs
  | _, _ => 0

theorem tot_eq : ∀ (ts : List Thr) (xs ys : List Int) (a b c : Int), (∀ t ∈ ts, t.st = 0 ∨ t.st = 1) → xs.length = ts.length → ys.length = ts.length →
    tot ts (pairL xs ys) a b c = (a + Div.sumI xs, b + sumAt 0 ts ys, c + sumAt 1 ts ys)
  | [], xs, ys, a, b, c, hs, hx, hy => by
    have e1 : xs = [] := by cases xs with | nil => rfl | cons => cases hx
    have e2 : ys = [] := by cases ys with | nil => rfl | cons => cases hy
    subst e1; subst e2
    simp [tot, pairL, Div.sumI, sumAt]
  | t :: ts, [], ys, a, b, c, hs, hx, hy => by cases hx
  | t :: ts, _ :: _, [], a, b, c, hs, hx, hy => by cases hy
  | t :: ts, x :: xs, y :: ys, a, b, c, hs, hx, hy => by
    have ih := fun a b c => tot_eq ts xs ys a b c (fun z hz => hs z (List.mem_cons_of_mem _ hz)) (by simpa using hx) (by simpa using hy)
    have ht := hs t (List.mem_cons_self ..)
    simp only [pairL, tot, Div.sumI, sumAt]
    by_cases h0 : t.st = 0
    · rw [if_pos h0, ih, if_pos h0, if_neg (by omega)]
      simp only [Int.add_assoc, Int.zero_add]
    · rw [if_neg h0, ih, if_neg h0, if_pos (by omega)]
      simp only [Int.add_assoc, Int.zero_add]

theorem sumAt_add (k : Int) : ∀ (ts : List Thr) (ls : List (Int × Int)) (a b : List Int), (∀ t ∈ ts, okT t = true) → InR (lats 1 ts ls) a → InR (lats 0 ts ls) b → (k = 0 ∨ k = 1) →
    sumAt k ts (addL a b) = if k = 0 then Div.sumI b else Div.sumI a
  | [], _, [], [], hv, ha, hb, hk => by simp [sumAt, addL, Div.sumI]
  | [], _, _ :: _, _, _, h, _, _ => h.elim
  | [], _, [], _ :: _, _, _, h, _ => h.elim
  | t :: ts, _, [], _, _, h, _, _ => h.elim
  | t :: ts, _, _ :: _, [], _, _, h, _ => h.elim
  | t :: ts, ls, x :: a, z :: b, hv, ha, hb, hk => by
    have ih := sumAt_add k ts ls.tail a b (fun x hx => hv x (List.mem_cons_of_mem _ hx)) ha.2 hb.2 hk
    have hv1 := okT0_iff.1 (okT_iff.1 (hv t (List.mem_cons_self ..))).1
    have ha1 := ha.1
    have hb1 := hb.1
    unfold latS at ha1 hb1
    simp only [addL, sumAt, Div.sumI]
    rw [ih]
    by_cases h0 : t.st = 0
    · rw [if_neg (by omega)] at ha1
      simp only at ha1
      rcases hk with rfl | rfl
      · rw [if_pos h0, if_pos rfl, if_pos rfl]; omega
      · rw [if_neg (by omega), if_neg (by omega), if_neg (by omega)]; omega
    · rw [if_neg h0] at hb1
      simp only at hb1
      rcases hk with rfl | rfl
      · rw [if_neg h0, if_pos rfl, if_pos rfl]; omega
      · rw [if_pos (by omega), if_neg (by omega), if_neg (by omega)]; omega

theorem Ws_st : ∀ {ts : List Thr} {ms : List Int} (k : Int) (xs : List Int), ms.length = ts.length → sumAt k (Ws ts ms) xs = sumAt k ts xs
  | [], _, k, xs, _ => by simp [Ws]
  | t :: ts, [], k, xs, h => by cases h
  | t :: ts, m :: ms, k, [], h => by simp [Ws, sumAt]
  | t :: ts, m :: ms, k, x :: xs, h => by
    have e : (withT t m).st = t.st := rfl
    simp only [Ws, sumAt, e]
    rw [Ws_st k xs (by simpa using h)]

theorem gvA_eq {s : Shp} {ms : List Int} {ls : List (Int × Int)} (h : AOk s ms ls) {d0 d1 d2 : Int} (hd : Mod3 d0 d1 d2) :
    gvA s ms ls d0 d1 d2 = (totC (lons (Ws s.ts ms) (ysA (Ws s.ts ms) ls d1 d2) ls) d0, totC (lats 0 (Ws s.ts ms) ls) d1, totC (lats 1 (Ws s.ts ms) ls) d2) := by
  obtain ⟨w1, w2, w3, w4, w5⟩ := wsa h
  have o0 := OkL_lats w2 w3 0 ls
  have o1 := OkL_lats w2 w3 1 ls
  have hy := ysA_len h hd
  have hx := xsA_len h hd
  have o2 := OkL_lons w2 w3 (ys := ysA (Ws s.ts ms) ls d1 d2) (by rw [hy.1, w1]) ls
  have hst : ∀ t ∈ s.ts, t.st = 0 ∨ t.st = 1 := fun t ht => by
    have := okT0_iff.1 (okT_iff.1 (h.ok.2.2.2.2.2.2 t ht).1).1
    omega
  have e := tot_eq s.ts (xsA (Ws s.ts ms) ls d0 d1 d2) (ysA (Ws s.ts ms) ls d1 d2) 0 0 0 hst hx.1 hy.1
  have e0 := sumAt_add 0 (Ws s.ts ms) ls (dv (lats 1 (Ws s.ts ms) ls) d2) (dv (lats 0 (Ws s.ts ms) ls) d1) w3 (dv_in o1 hd.2.2) (dv_in o0 hd.2.1) (.inl rfl)
  have e1 := sumAt_add 1 (Ws s.ts ms) ls (dv (lats 1 (Ws s.ts ms) ls) d2) (dv (lats 0 (Ws s.ts ms) ls) d1) w3 (dv_in o1 hd.2.2) (dv_in o0 hd.2.1) (.inr rfl)
  have hyy : addL (dv (lats 1 (Ws s.ts ms) ls) d2) (dv (lats 0 (Ws s.ts ms) ls) d1) = ysA (Ws s.ts ms) ls d1 d2 := rfl
  rw [hyy, Ws_st _ _ h.ml] at e0 e1
  rw [if_pos rfl, dv_sum o0 hd.2.1] at e0
  rw [if_neg (by omega), dv_sum o1 hd.2.2] at e1
  have e2 : Div.sumI (xsA (Ws s.ts ms) ls d0 d1 d2) = totC (lons (Ws s.ts ms) (ysA (Ws s.ts ms) ls d1 d2) ls) d0 := dv_sum o2 hd.1
  unfold gvA thA
  rw [e, e0, e1, e2]
  simp only [Int.zero_add]

end Go.Proofs.Ytaekifnmofjhhaa.Vm
