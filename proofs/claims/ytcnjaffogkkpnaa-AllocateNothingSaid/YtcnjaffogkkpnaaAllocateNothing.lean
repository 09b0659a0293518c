/- The law AllocateNothing comes to true. -/
import Derived.Test.YtcnjaffogkkpnaaAllocX
import Derived.Test.YtcnjaffogkkpnaaRawNothing
namespace Go.Proofs.Ytcnjaffogkkpnaa.Vm
set_option linter.unusedVariables false
set_option linter.unusedSimpArgs false

theorem getE_all0 {α : Type} {l : List (Int × Int)} (h : ∀ v ∈ l, v = (0, 0)) {i : Nat} (hi : i < l.length) (K : List PV → Option α) : getE (arcK l) (i : Int) K = K [PV.int .i64 0, PV.int .i64 0] := by
  unfold getE
  rw [arcK_length]
  have h1 : leB 0 (i : Int) = true := by simp
  have h2 : ltB (i : Int) (l.length : Int) = true := by simp; omega
  rw [h1, h2]
  simp only [Bool.and_self, ctl_true, Int.toNat_natCast]
  rw [nth_eq]
  have : (arcK l).getD i [] = arcC (l.getD i (0, 0)) := by
    unfold arcK
    simp [List.getD, hi]
  rw [this]
  have hv : l.getD i (0, 0) = (0, 0) := by
    have : l.getD i (0, 0) ∈ l := by simp [List.getD, hi]
    exact h _ this
  rw [hv]
  rfl

theorem no_loop (s : Shp) (a1 a2 a3 a4 a5 a6 b1 b2 b3 b4 b5 b6 : Int) {la lb : List (Int × Int)} (ha : ∀ v ∈ la, v = (0, 0)) (hb : ∀ v ∈ lb, v = (0, 0)) (hl : la.length = lb.length) (h8 : la.length ≤ 100) : ∀ (j i : Nat), i + j = la.length →
    lp E (denC E) 3 0 [] 0 { vals := [AV.int .i64 (la.length : Int), AV.int .i64 (i : Int)], blks := [Blk.box [AV.int .i64 s.bw, AV.int .i64 s.sn, AV.sl 6 (thK s.ts)], Blk.box [AV.sl 2 (arcK la), AV.int .i64 a1, AV.int .i64 a2, AV.int .i64 a3, AV.int .i64 a4, AV.int .i64 a5, AV.int .i64 a6], Blk.box [AV.sl 2 (arcK lb), AV.int .i64 b1, AV.int .i64 b2, AV.int .i64 b3, AV.int .i64 b4, AV.int .i64 b5, AV.int .i64 b6]] } =
      some (Ex.exit 0, { vals := [], blks := [Blk.box [AV.int .i64 s.bw, AV.int .i64 s.sn, AV.sl 6 (thK s.ts)], Blk.box [AV.sl 2 (arcK la), AV.int .i64 a1, AV.int .i64 a2, AV.int .i64 a3, AV.int .i64 a4, AV.int .i64 a5, AV.int .i64 a6]] })
  | 0, i, h => by
    rw [r3_0, ctl_dec, if_neg (by omega)]
  | j + 1, i, h => by
    have ih := no_loop s a1 a2 a3 a4 a5 a6 b1 b2 b3 b4 b5 b6 ha hb hl h8 j (i + 1) (by omega)
    rw [r3_0, ctl_dec, if_pos (by omega), getE_all0 ha (by omega), getE_all0 hb (by omega), arcK_length]
    have e1 : leB (lb.length : Int) (i : Int) = false := by simp only [decide_eq_false_iff_not]; omega
    simp only [bnd_some, ctl_true, ctl_false, ctl_and, ctl_or', ctl_or2, x_toPV, x_toCs, x_toCs2, x_toEs, x_bEs, x_bCs, x_aPV, x_aCs, x_int, x_bool, x_str, x_es, x_esn, nth_0, nth_1, nth_2, nth_3, nth_4, nth_5, nth_6, nth_7, nth_8, nth_9, y_nil, y_int, y_bool, y_str, y_sl, y_nils, y_agg, y_ownp, y_own, z_nil, z_int, z_bool, z_str, z_sl, z_nils, b_nil, b_arr, b_box1, b_box2, b_box3, b_box4, List.map_cons, List.map_nil, Bool.and_self, Bool.and_true, Bool.true_and, Bool.not_true, Bool.not_false, Bool.or_false, Bool.false_or, cond_true, cond_false, okPack, okPut, okPutBlks, okPutCells, q_isP, q_isAg, q_isBox, q_isArr, q_int, q_bool, q_str, q_sl, q_nils, e_exit, e_ret, e_nrm, e_ret_exit, e_exit_ret, e_nrm_exit, e_nrm_ret, e_exit_nrm, e_ret_nrm, Nat.zero_add, Nat.reduceAdd, noslR, noslP, noslB, noslA, List.all_cons, List.all_nil, beq_self_eq_true, e1]
    rw [w64 (n := (i : Int) + 1) (by omega)]
    have e2 : ((i : Int) + 1) = ((i + 1 : Nat) : Int) := by omega
    rw [e2, ih]

/-- A thruster whose greatest force is 0. -/
theorem lat_none {t : Thr} (hv : okT t = true) (hm : t.mx = 0) : latF t = (0, 0) := by
  have := lat_in hv
  exact Prod.ext (by simp only; omega) (by simp only; omega)
theorem lon_none {t : Thr} (hv : okT t = true) (hm : t.mx = 0) (y : Int) : lonF t y = (0, 0) := by
  have := lon_in hv y
  exact Prod.ext (by simp only; omega) (by simp only; omega)

theorem InR_none : ∀ {l : List Div.Shr} {xs : List Int}, (∀ s ∈ l, s.lo = 0 ∧ s.hi = 0) → InR l xs → ∀ x ∈ xs, x = 0
  | [], [], _, _, x, hx => by cases hx
  | [], _ :: _, _, h, _, _ => h.elim
  | _ :: _, [], _, h, _, _ => h.elim
  | s :: l, y :: xs, hs, h, x, hx => by
    rcases List.mem_cons.1 hx with rfl | hx
    · have := hs s (List.mem_cons_self ..)
      have := h.1
      omega
    · exact InR_none (fun z hz => hs z (List.mem_cons_of_mem _ hz)) h.2 x hx
theorem totC_none {l : List Div.Shr} (h : ∀ s ∈ l, s.lo = 0 ∧ s.hi = 0) (d : Int) : totC l d = 0 := by
  have hl : Div.lows l = 0 ∧ Div.highs l = 0 := by
    induction l with
    | nil => exact ⟨rfl, rfl⟩
    | cons s l ih =>
      have := ih fun x hx => h x (List.mem_cons_of_mem _ hx)
      have := h s (List.mem_cons_self ..)
      simp only [Div.lows, Div.highs]
      omega
  unfold totC
  rw [hl.1, hl.2, Div.clamp_eq]
  split <;> split <;> omega

theorem lats_none (k : Int) : ∀ {ts : List Thr}, (∀ t ∈ ts, okT t = true ∧ t.mx = 0) → ∀ s ∈ lats k ts [], s.lo = 0 ∧ s.hi = 0
  | [], _, s, hs => by cases hs
  | t :: ts, h, s, hs => by
    rcases List.mem_cons.1 hs with rfl | hs
    · have h1 := lat_none (h t (List.mem_cons_self ..)).1 (h t (List.mem_cons_self ..)).2
      unfold latS
      split
      · simp only [List.head?_nil, Option.map_none, ratS, h1, and_self]
      · exact ⟨rfl, rfl⟩
    · exact lats_none k (fun x hx => h x (List.mem_cons_of_mem _ hx)) s hs
theorem lons_none : ∀ {ts : List Thr} (ys : List Int), (∀ t ∈ ts, okT t = true ∧ t.mx = 0) → ∀ s ∈ lons ts ys [], s.lo = 0 ∧ s.hi = 0
  | [], _, _, s, hs => by cases hs
  | t :: ts, [], _, s, hs => by cases hs
  | t :: ts, y :: ys, h, s, hs => by
    rcases List.mem_cons.1 hs with rfl | hs
    · have h1 := lon_none (h t (List.mem_cons_self ..)).1 (h t (List.mem_cons_self ..)).2 y
      unfold lonS
      simp only [List.head?_nil, Option.map_none, ratS, h1, and_self]
    · exact lons_none ys (fun x hx => h x (List.mem_cons_of_mem _ hx)) s hs

theorem Ws_none : ∀ {ts : List Thr} {n : Nat}, (∀ t ∈ ts, okT t = true) → ∀ w ∈ Ws ts (List.replicate n 0), okT w = true ∧ w.mx = 0
  | [], _, _, w, hw => by cases hw
  | t :: ts, 0, h, w, hw => by cases hw
  | t :: ts, n + 1, h, w, hw => by
    rcases List.mem_cons.1 hw with rfl | hw
    · have ht := h t (List.mem_cons_self ..)
      have hv := okT0_iff.1 (okT_iff.1 ht).1
      refine ⟨withT_ok ht 0, ?_⟩
      unfold withT minI maxI
      simp only
      split <;> split <;> omega
    · exact Ws_none (fun x hx => h x (List.mem_cons_of_mem _ hx)) w hw

/-- A ship without power. -/
theorem thA_none {s : Shp} (h : AOk s (List.replicate s.ts.length 0) []) {d0 d1 d2 : Int} (hd : Mod3 d0 d1 d2) :
    (∀ v ∈ thA (Ws s.ts (List.replicate s.ts.length 0)) [] d0 d1 d2, v = (0, 0)) ∧ gvA s (List.replicate s.ts.length 0) [] d0 d1 d2 = (0, 0, 0) := by
  obtain ⟨w1, w2, w3, w4, w5⟩ := wsa h
  have hw := Ws_none (ts := s.ts) (n := s.ts.length) fun t ht => (h.ok.2.2.2.2.2.2 t ht).1
  have hy := ysA_len h hd
  have o0 := OkL_lats w2 w3 0 []
  have o1 := OkL_lats w2 w3 1 []
  have o2 := OkL_lons w2 w3 (ys := ysA (Ws s.ts (List.replicate s.ts.length 0)) [] d1 d2) (by rw [hy.1, w1]) []
  have z0 := InR_none (lats_none 0 hw) (dv_in o0 hd.2.1)
  have z1 := InR_none (lats_none 1 hw) (dv_in o1 hd.2.2)
  have z2 := InR_none (lons_none _ hw) (dv_in o2 hd.1)
  refine ⟨pairL_zero z2 (addL_zero z1 z0), ?_⟩
  rw [gvA_eq h hd, totC_none (lats_none 0 hw), totC_none (lats_none 1 hw), totC_none (lons_none _ hw)]

theorem d_AllocateNothing (t : List Int) (_ : t.length ≤ maxLen) (_ : ∀ n ∈ t, -9223372036854775808 ≤ n ∧ n ≤ 9223372036854775807) :
    denC E 3 [AV.sl 1 (intsK .i64 t)] [] = some ([RV.p (PV.bool true)], []) := by
  rw [denC_eq, r3, c_New]
  have hL : (t.take 600).length ≤ 600 := by simp; omega
  generalize t.take 600 = L at hL
  have h0 : (0 : Nat) ≤ 600 := by omega
  simp only [bnd_some, ctl_true, ctl_false, ctl_and, ctl_or', ctl_or2, x_toPV, x_toCs, x_toCs2, x_toEs, x_bEs, x_bCs, x_aPV, x_aCs, x_int, x_bool, x_str, x_es, x_esn, nth_0, nth_1, nth_2, nth_3, nth_4, nth_5, nth_6, nth_7, nth_8, nth_9, y_nil, y_int, y_bool, y_str, y_sl, y_nils, y_agg, y_ownp, y_own, z_nil, z_int, z_bool, z_str, z_sl, z_nils, b_nil, b_arr, b_box1, b_box2, b_box3, b_box4, List.map_cons, List.map_nil, Bool.and_self, Bool.and_true, Bool.true_and, Bool.not_true, Bool.not_false, Bool.or_false, Bool.false_or, cond_true, cond_false, okPack, okPut, okPutBlks, okPutCells, q_isP, q_isAg, q_isBox, q_isArr, q_int, q_bool, q_str, q_sl, q_nils, e_exit, e_ret, e_nrm, e_ret_exit, e_exit_ret, e_nrm_exit, e_nrm_ret, e_exit_nrm, e_ret_nrm, Nat.zero_add, Nat.reduceAdd, noslR, noslP, noslB, noslA, List.all_cons, List.all_nil]
  obtain ⟨s, ms, ls, d0, d1, d2, k, hW, hs, hA, hsm, x0, x1, x2, hk⟩ := c_world hL h0
  have hl5 := hs.2.2.2.2.1
  have hA0 : AOk s ms [] := ⟨hA.ok, hA.ml, hA.mi, .inl rfl, fun v hv => by cases hv⟩
  have hAn : AOk s (List.replicate s.ts.length 0) [] := ⟨hA.ok, by simp, fun m hm => by have := List.eq_of_mem_replicate hm; omega, .inl rfl, fun v hv => by cases hv⟩
  have hd : Mod3 d0 d1 d2 := by unfold Mod3; omega
  have hz : Mod3 0 0 0 := by unfold Mod3; omega
  have D1 := c_ADivide hA0 hz
  have D2 := c_ADivide hAn hd
  obtain ⟨a1, a2⟩ := thA_zero hA0
  obtain ⟨b1, b2⟩ := thA_none hAn hd
  have la := (thA_len hA0 hz).1
  have lb := (thA_len hAn hd).1
  rw [a2] at D1
  rw [b2] at D2
  generalize thA (Ws s.ts ms) [] 0 0 0 = la_ at *
  generalize thA (Ws s.ts (List.replicate s.ts.length 0)) [] d0 d1 d2 = lb_ at *
  have hlp := no_loop s 0 0 0 (0 - 0) (0 - 0) (0 - 0) 0 0 0 (d0 - 0) (d1 - 0) (d2 - 0) a1 b1 (by rw [la, lb]) (by omega) la_.length 0 (by omega)
  have e0 : (((0 : Nat)) : Int) = 0 := rfl
  have ea : arcK [] = [] := rfl
  rw [e0] at hlp
  rw [ea] at D1 D2
  simp only at D1 D2
  have z0 : (0 : Int) - 0 = 0 := rfl
  have z1 : ∀ d : Int, d - 0 = d := fun d => by omega
  rw [z0] at D1 hlp
  simp only [z1] at D2 hlp
  unfold shpC at *
  rw [src_zero, hW]
  simp only [bnd_some, ctl_true, ctl_false, ctl_and, ctl_or', ctl_or2, x_toPV, x_toCs, x_toCs2, x_toEs, x_bEs, x_bCs, x_aPV, x_aCs, x_int, x_bool, x_str, x_es, x_esn, nth_0, nth_1, nth_2, nth_3, nth_4, nth_5, nth_6, nth_7, nth_8, nth_9, y_nil, y_int, y_bool, y_str, y_sl, y_nils, y_agg, y_ownp, y_own, z_nil, z_int, z_bool, z_str, z_sl, z_nils, b_nil, b_arr, b_box1, b_box2, b_box3, b_box4, List.map_cons, List.map_nil, Bool.and_self, Bool.and_true, Bool.true_and, Bool.not_true, Bool.not_false, Bool.or_false, Bool.false_or, cond_true, cond_false, okPack, okPut, okPutBlks, okPutCells, q_isP, q_isAg, q_isBox, q_isArr, q_int, q_bool, q_str, q_sl, q_nils, e_exit, e_ret, e_nrm, e_ret_exit, e_exit_ret, e_nrm_exit, e_nrm_ret, e_exit_nrm, e_ret_nrm, Nat.zero_add, Nat.reduceAdd, noslR, noslP, noslB, noslA, List.all_cons, List.all_nil]
  rw [D1]
  simp only [bnd_some, ctl_true, ctl_false, ctl_and, ctl_or', ctl_or2, x_toPV, x_toCs, x_toCs2, x_toEs, x_bEs, x_bCs, x_aPV, x_aCs, x_int, x_bool, x_str, x_es, x_esn, nth_0, nth_1, nth_2, nth_3, nth_4, nth_5, nth_6, nth_7, nth_8, nth_9, y_nil, y_int, y_bool, y_str, y_sl, y_nils, y_agg, y_ownp, y_own, z_nil, z_int, z_bool, z_str, z_sl, z_nils, b_nil, b_arr, b_box1, b_box2, b_box3, b_box4, List.map_cons, List.map_nil, Bool.and_self, Bool.and_true, Bool.true_and, Bool.not_true, Bool.not_false, Bool.or_false, Bool.false_or, cond_true, cond_false, okPack, okPut, okPutBlks, okPutCells, q_isP, q_isAg, q_isBox, q_isArr, q_int, q_bool, q_str, q_sl, q_nils, e_exit, e_ret, e_nrm, e_ret_exit, e_exit_ret, e_nrm_exit, e_nrm_ret, e_exit_nrm, e_ret_nrm, Nat.zero_add, Nat.reduceAdd, noslR, noslP, noslB, noslA, List.all_cons, List.all_nil, thK_length]
  have g1 : leB (s.ts.length : Int) (s.ts.length : Int) = true := by simp
  have g2 : leB (s.ts.length : Int) 9223372036854775807 = true := by simp only [decide_eq_true_eq]; omega
  have g3 : leB ((s.ts.length : Int) * 8) 140737488355328 = true := by simp only [decide_eq_true_eq]; omega
  simp only [bnd_some, ctl_true, ctl_false, ctl_and, ctl_or', ctl_or2, x_toPV, x_toCs, x_toCs2, x_toEs, x_bEs, x_bCs, x_aPV, x_aCs, x_int, x_bool, x_str, x_es, x_esn, nth_0, nth_1, nth_2, nth_3, nth_4, nth_5, nth_6, nth_7, nth_8, nth_9, y_nil, y_int, y_bool, y_str, y_sl, y_nils, y_agg, y_ownp, y_own, z_nil, z_int, z_bool, z_str, z_sl, z_nils, b_nil, b_arr, b_box1, b_box2, b_box3, b_box4, List.map_cons, List.map_nil, Bool.and_self, Bool.and_true, Bool.true_and, Bool.not_true, Bool.not_false, Bool.or_false, Bool.false_or, cond_true, cond_false, okPack, okPut, okPutBlks, okPutCells, q_isP, q_isAg, q_isBox, q_isArr, q_int, q_bool, q_str, q_sl, q_nils, e_exit, e_ret, e_nrm, e_ret_exit, e_exit_ret, e_nrm_exit, e_nrm_ret, e_exit_nrm, e_ret_nrm, Nat.zero_add, Nat.reduceAdd, noslR, noslP, noslB, noslA, List.all_cons, List.all_nil, g1, g2, g3]
  rw [Int.toNat_natCast, reps_ints, D2]
  have n0 : ((0 : Int) != 0) = false := rfl
  simp only [bnd_some, ctl_true, ctl_false, ctl_and, ctl_or', ctl_or2, x_toPV, x_toCs, x_toCs2, x_toEs, x_bEs, x_bCs, x_aPV, x_aCs, x_int, x_bool, x_str, x_es, x_esn, nth_0, nth_1, nth_2, nth_3, nth_4, nth_5, nth_6, nth_7, nth_8, nth_9, y_nil, y_int, y_bool, y_str, y_sl, y_nils, y_agg, y_ownp, y_own, z_nil, z_int, z_bool, z_str, z_sl, z_nils, b_nil, b_arr, b_box1, b_box2, b_box3, b_box4, List.map_cons, List.map_nil, Bool.and_self, Bool.and_true, Bool.true_and, Bool.not_true, Bool.not_false, Bool.or_false, Bool.false_or, cond_true, cond_false, okPack, okPut, okPutBlks, okPutCells, q_isP, q_isAg, q_isBox, q_isArr, q_int, q_bool, q_str, q_sl, q_nils, e_exit, e_ret, e_nrm, e_ret_exit, e_exit_ret, e_nrm_exit, e_nrm_ret, e_exit_nrm, e_ret_nrm, Nat.zero_add, Nat.reduceAdd, noslR, noslP, noslB, noslA, List.all_cons, List.all_nil, beq_self_eq_true, n0, arcK_length]
  rw [hlp]
  simp only [bnd_some, ctl_true, ctl_false, ctl_and, ctl_or', ctl_or2, x_toPV, x_toCs, x_toCs2, x_toEs, x_bEs, x_bCs, x_aPV, x_aCs, x_int, x_bool, x_str, x_es, x_esn, nth_0, nth_1, nth_2, nth_3, nth_4, nth_5, nth_6, nth_7, nth_8, nth_9, y_nil, y_int, y_bool, y_str, y_sl, y_nils, y_agg, y_ownp, y_own, z_nil, z_int, z_bool, z_str, z_sl, z_nils, b_nil, b_arr, b_box1, b_box2, b_box3, b_box4, List.map_cons, List.map_nil, Bool.and_self, Bool.and_true, Bool.true_and, Bool.not_true, Bool.not_false, Bool.or_false, Bool.false_or, cond_true, cond_false, okPack, okPut, okPutBlks, okPutCells, q_isP, q_isAg, q_isBox, q_isArr, q_int, q_bool, q_str, q_sl, q_nils, e_exit, e_ret, e_nrm, e_ret_exit, e_exit_ret, e_nrm_exit, e_nrm_ret, e_exit_nrm, e_ret_nrm, Nat.zero_add, Nat.reduceAdd, noslR, noslP, noslB, noslA, List.all_cons, List.all_nil, arcK_length, thK_length]
  have g4 : ((la_.length : Int) == (s.ts.length : Int)) = true := by rw [la]; simp
  rw [g4, c_sane]
  simp only [bnd_some, ctl_true, ctl_false, ctl_and, ctl_or', ctl_or2, x_toPV, x_toCs, x_toCs2, x_toEs, x_bEs, x_bCs, x_aPV, x_aCs, x_int, x_bool, x_str, x_es, x_esn, nth_0, nth_1, nth_2, nth_3, nth_4, nth_5, nth_6, nth_7, nth_8, nth_9, y_nil, y_int, y_bool, y_str, y_sl, y_nils, y_agg, y_ownp, y_own, z_nil, z_int, z_bool, z_str, z_sl, z_nils, b_nil, b_arr, b_box1, b_box2, b_box3, b_box4, List.map_cons, List.map_nil, Bool.and_self, Bool.and_true, Bool.true_and, Bool.not_true, Bool.not_false, Bool.or_false, Bool.false_or, cond_true, cond_false, okPack, okPut, okPutBlks, okPutCells, q_isP, q_isAg, q_isBox, q_isArr, q_int, q_bool, q_str, q_sl, q_nils, e_exit, e_ret, e_nrm, e_ret_exit, e_exit_ret, e_nrm_exit, e_nrm_ret, e_exit_nrm, e_ret_nrm, Nat.zero_add, Nat.reduceAdd, noslR, noslP, noslB, noslA, List.all_cons, List.all_nil]

end Go.Proofs.Ytcnjaffogkkpnaa.Vm
