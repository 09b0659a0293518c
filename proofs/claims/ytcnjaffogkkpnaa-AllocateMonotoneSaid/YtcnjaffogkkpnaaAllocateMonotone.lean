/- The law AllocateMonotone comes to true. -/
import Derived.Test.YtcnjaffogkkpnaaAllocX
import Derived.Test.YtcnjaffogkkpnaaRawMonotone
namespace Go.Proofs.Ytcnjaffogkkpnaa.Vm
set_option linter.unusedVariables false
set_option linter.unusedSimpArgs false

/-- What the law asks, thruster by thruster. -/
def MonoY : List Thr → List Int → List Int → List Int → Prop
  | [], [], [], [] => True
  | t :: ts, a :: la, b :: lb, c :: lc => (a ≤ b ∧ (t.st = 0 → c = a)) ∧ MonoY ts la lb lc
  | _, _, _, _ => False
def MonoR : List Thr → List (Int × Int) → List (Int × Int) → List (Int × Int) → Prop
  | [], [], [], [] => True
  | t :: ts, a :: la, b :: lb, c :: lc => (a.2 ≤ b.2 ∧ (t.st = 0 → c.2 = a.2)) ∧ MonoR ts la lb lc
  | _, _, _, _ => False

theorem monoY : ∀ {ts : List Thr} {ls : List (Int × Int)} {sa sc bA bB : List Int}, InR (lats 1 ts ls) sa → InR (lats 1 ts ls) sc → Div.Up (lats 0 ts ls) bA bB → MonoY ts (addL sa bA) (addL sa bB) (addL sc bA)
  | [], _, [], [], [], [], _, _, _ => trivial
  | [], _, _ :: _, _, _, _, h, _, _ => h.elim
  | [], _, [], _ :: _, _, _, _, h, _ => h.elim
  | [], _, [], [], _ :: _, _, _, _, h => h.elim
  | [], _, [], [], [], _ :: _, _, _, h => h.elim
  | t :: ts, _, [], _, _, _, h, _, _ => h.elim
  | t :: ts, _, _ :: _, [], _, _, _, h, _ => h.elim
  | t :: ts, _, _ :: _, _ :: _, [], _, _, _, h => h.elim
  | t :: ts, _, _ :: _, _ :: _, _ :: _, [], _, _, h => h.elim
  | t :: ts, ls, x :: sa, y :: sc, u :: bA, w :: bB, ha, hc, hu => by
    refine ⟨⟨?_, fun h0 => ?_⟩, monoY ha.2 hc.2 hu.2⟩
    · have := hu.1; omega
    · have h1 := ha.1
      have h2 := hc.1
      unfold latS at h1 h2
      rw [if_neg (by omega)] at h1 h2
      simp only at h1 h2
      omega

theorem MonoY_Ws : ∀ {ts : List Thr} {ms : List Int} {a b c : List Int}, ms.length = ts.length → MonoY (Ws ts ms) a b c → MonoY ts a b c
  | [], [], _, _, _, _, h => h
  | [], _ :: _, _, _, _, hl, _ => by cases hl
  | t :: ts, [], _, _, _, hl, _ => by cases hl
  | t :: ts, m :: ms, [], _, _, _, h => h.elim
  | t :: ts, m :: ms, _ :: _, [], _, _, h => h.elim
  | t :: ts, m :: ms, _ :: _, _ :: _, [], _, h => h.elim
  | t :: ts, m :: ms, a :: la, b :: lb, c :: lc, hl, h => ⟨h.1, MonoY_Ws (by simpa using hl) h.2⟩

theorem MonoY_R : ∀ {ts : List Thr} {xa ya xb yb xc yc : List Int}, MonoY ts ya yb yc → xa.length = ya.length → xb.length = yb.length → xc.length = yc.length → MonoR ts (pairL xa ya) (pairL xb yb) (pairL xc yc)
  | [], [], [], [], [], [], [], _, _, _, _ => trivial
  | [], _, _ :: _, _, _, _, _, h, _, _, _ => by
    rename_i yb _ yc _ _ _ _
    exact absurd h (by intro h; cases h)
  | [], _, [], _, _ :: _, _, _, h, _, _, _ => absurd h (by intro h; cases h)
  | [], _, [], _, [], _, _ :: _, h, _, _, _ => absurd h (by intro h; cases h)
  | [], _ :: _, [], _, [], _, [], _, h, _, _ => by cases h
  | [], [], [], _ :: _, [], _, [], _, _, h, _ => by cases h
  | [], [], [], [], [], _ :: _, [], _, _, _, h => by cases h
  | t :: ts, _, [], _, _, _, _, h, _, _, _ => absurd h (by intro h; cases h)
  | t :: ts, _, _ :: _, _, [], _, _, h, _, _, _ => absurd h (by intro h; cases h)
  | t :: ts, _, _ :: _, _, _ :: _, _, [], h, _, _, _ => absurd h (by intro h; cases h)
  | t :: ts, [], _ :: _, _, _ :: _, _, _ :: _, _, h, _, _ => by cases h
  | t :: ts, _ :: _, _ :: _, [], _ :: _, _, _ :: _, _, _, h, _ => by cases h
  | t :: ts, _ :: _, _ :: _, _ :: _, _ :: _, [], _ :: _, _, _, _, h => by cases h
  | t :: ts, x :: xa, y :: ya, z :: xb, w :: yb, u :: xc, v :: yc, h, h1, h2, h3 => ⟨h.1, MonoY_R h.2 (by simpa using h1) (by simpa using h2) (by simpa using h3)⟩

theorem mo_loop (a1 a2 a3 a4 a5 a6 b1 b2 b3 b4 b5 b6 c1 c2 c3 c4 c5 c6 : Int) : ∀ (ts q : List Thr) (la pa lb pb lc pc : List (Int × Int)), MonoR ts la lb lc → pa.length = q.length → pb.length = q.length → pc.length = q.length → (q ++ ts).length ≤ 8 →
    lp E (denC E) 4 0 [] 0 { vals := [AV.sl 6 (thK (q ++ ts)), AV.int .i64 ((q ++ ts).length : Int), AV.int .i64 (q.length : Int)], blks := [Blk.box [AV.sl 2 (arcK (pa ++ la)), AV.int .i64 a1, AV.int .i64 a2, AV.int .i64 a3, AV.int .i64 a4, AV.int .i64 a5, AV.int .i64 a6], Blk.box [AV.sl 2 (arcK (pb ++ lb)), AV.int .i64 b1, AV.int .i64 b2, AV.int .i64 b3, AV.int .i64 b4, AV.int .i64 b5, AV.int .i64 b6], Blk.box [AV.sl 2 (arcK (pc ++ lc)), AV.int .i64 c1, AV.int .i64 c2, AV.int .i64 c3, AV.int .i64 c4, AV.int .i64 c5, AV.int .i64 c6]] } =
      some (Ex.exit 0, { vals := [], blks := [] })
  | [], q, la, pa, lb, pb, lc, pc, hm, ha, hb, hc, h => by
    rw [r4_0, ctl_dec, if_neg (by simp)]
  | t :: ts, q, [], _, _, _, _, _, hm, _, _, _, _ => hm.elim
  | t :: ts, q, _ :: _, _, [], _, _, _, hm, _, _, _, _ => hm.elim
  | t :: ts, q, _ :: _, _, _ :: _, _, [], _, hm, _, _, _, _ => hm.elim
  | t :: ts, q, a :: la, pa, b :: lb, pb, c :: lc, pc, hm, ha, hb, hc, h => by
    have ih := mo_loop a1 a2 a3 a4 a5 a6 b1 b2 b3 b4 b5 b6 c1 c2 c3 c4 c5 c6 ts (q ++ [t]) la (pa ++ [a]) lb (pb ++ [b]) lc (pc ++ [c]) hm.2 (by simp [ha]) (by simp [hb]) (by simp [hc]) (by simp at h ⊢; omega)
    simp only [List.append_assoc, List.cons_append, List.nil_append, List.length_append, List.length_cons, List.length_nil] at ih h
    have ga : ∀ {α : Type} (K : List PV → Option α), getE (arcK (pa ++ a :: la)) (q.length : Int) K = K (arcC a) := fun K => by rw [← ha]; exact getE_arc pa a la K
    have gb : ∀ {α : Type} (K : List PV → Option α), getE (arcK (pb ++ b :: lb)) (q.length : Int) K = K (arcC b) := fun K => by rw [← hb]; exact getE_arc pb b lb K
    have gc : ∀ {α : Type} (K : List PV → Option α), getE (arcK (pc ++ c :: lc)) (q.length : Int) K = K (arcC c) := fun K => by rw [← hc]; exact getE_arc pc c lc K
    rw [r4_0, ctl_dec, if_pos (by simp; omega), getE_th]
    simp only [ga, gb, gc]
    unfold thC
    simp only [arcC, bnd_some, ctl_true, ctl_false, ctl_and, ctl_or', ctl_or2, x_toPV, x_toCs, x_toCs2, x_toEs, x_bEs, x_bCs, x_aPV, x_aCs, x_int, x_bool, x_str, x_es, x_esn, nth_0, nth_1, nth_2, nth_3, nth_4, nth_5, nth_6, nth_7, nth_8, nth_9, y_nil, y_int, y_bool, y_str, y_sl, y_nils, y_agg, y_ownp, y_own, z_nil, z_int, z_bool, z_str, z_sl, z_nils, b_nil, b_arr, b_box1, b_box2, b_box3, b_box4, List.map_cons, List.map_nil, Bool.and_self, Bool.and_true, Bool.true_and, Bool.not_true, Bool.not_false, Bool.or_false, Bool.false_or, cond_true, cond_false, okPack, okPut, okPutBlks, okPutCells, q_isP, q_isAg, q_isBox, q_isArr, q_int, q_bool, q_str, q_sl, q_nils, e_exit, e_ret, e_nrm, e_ret_exit, e_exit_ret, e_nrm_exit, e_nrm_ret, e_exit_nrm, e_ret_nrm, Nat.zero_add, Nat.reduceAdd, noslR, noslP, noslB, noslA, List.all_cons, List.all_nil, List.length_append, List.length_cons]
    rw [w64 (n := (q.length : Int) + 1) (by omega)]
    have e1 : ((q.length : Int) + 1) = ((q.length + (0 + 1) : Nat) : Int) := by omega
    obtain ⟨⟨m1, m2⟩, _⟩ := hm
    have f1 : ltB b.2 a.2 = false := by simp only [decide_eq_false_iff_not]; omega
    have f2 : (t.st == 0 && c.2 != a.2) = false := by
      cases hh : (t.st == 0) with
      | false => rfl
      | true =>
        have := m2 (by simpa using hh)
        rw [this]; simp
    rw [e1, f1]
    simp only [bnd_some, ctl_true, ctl_false, ctl_and, ctl_or', ctl_or2, x_toPV, x_toCs, x_toCs2, x_toEs, x_bEs, x_bCs, x_aPV, x_aCs, x_int, x_bool, x_str, x_es, x_esn, nth_0, nth_1, nth_2, nth_3, nth_4, nth_5, nth_6, nth_7, nth_8, nth_9, y_nil, y_int, y_bool, y_str, y_sl, y_nils, y_agg, y_ownp, y_own, z_nil, z_int, z_bool, z_str, z_sl, z_nils, b_nil, b_arr, b_box1, b_box2, b_box3, b_box4, List.map_cons, List.map_nil, Bool.and_self, Bool.and_true, Bool.true_and, Bool.not_true, Bool.not_false, Bool.or_false, Bool.false_or, cond_true, cond_false, okPack, okPut, okPutBlks, okPutCells, q_isP, q_isAg, q_isBox, q_isArr, q_int, q_bool, q_str, q_sl, q_nils, e_exit, e_ret, e_nrm, e_ret_exit, e_exit_ret, e_nrm_exit, e_nrm_ret, e_exit_nrm, e_ret_nrm, Nat.zero_add, Nat.reduceAdd, noslR, noslP, noslB, noslA, List.all_cons, List.all_nil, f2]
    exact ih

theorem d_AllocateMonotone (t : List Int) (_ : t.length ≤ maxLen) (_ : ∀ n ∈ t, -9223372036854775808 ≤ n ∧ n ≤ 9223372036854775807) :
    denC E 4 [AV.sl 1 (intsK .i64 t)] [] = some ([RV.p (PV.bool true)], []) := by
  rw [denC_eq, r4, c_New]
  have hL : (t.take 600).length ≤ 600 := by simp; omega
  generalize t.take 600 = L at hL
  have h0 : (0 : Nat) ≤ 600 := by omega
  simp only [bnd_some, ctl_true, ctl_false, ctl_and, ctl_or', ctl_or2, x_toPV, x_toCs, x_toCs2, x_toEs, x_bEs, x_bCs, x_aPV, x_aCs, x_int, x_bool, x_str, x_es, x_esn, nth_0, nth_1, nth_2, nth_3, nth_4, nth_5, nth_6, nth_7, nth_8, nth_9, y_nil, y_int, y_bool, y_str, y_sl, y_nils, y_agg, y_ownp, y_own, z_nil, z_int, z_bool, z_str, z_sl, z_nils, b_nil, b_arr, b_box1, b_box2, b_box3, b_box4, List.map_cons, List.map_nil, Bool.and_self, Bool.and_true, Bool.true_and, Bool.not_true, Bool.not_false, Bool.or_false, Bool.false_or, cond_true, cond_false, okPack, okPut, okPutBlks, okPutCells, q_isP, q_isAg, q_isBox, q_isArr, q_int, q_bool, q_str, q_sl, q_nils, e_exit, e_ret, e_nrm, e_ret_exit, e_exit_ret, e_nrm_exit, e_nrm_ret, e_exit_nrm, e_ret_nrm, Nat.zero_add, Nat.reduceAdd, noslR, noslP, noslB, noslA, List.all_cons, List.all_nil]
  obtain ⟨s, ms, ls, d0, d1, d2, k, hW, hs, hA, hsm, x0, x1, x2, hk⟩ := c_world hL h0
  have hl5 := hs.2.2.2.2.1
  have hk1 := at'_le hL hk
  have hN := c_N hL hk 9 (by omega)
  have bN := vN_bounds (L := L) (k := k) (n := 9) (by omega)
  have hR := c_Range hL hk1 (lo := -9) (hi := 9) (by omega)
  have bR := vRange_bounds (L := L) (k := at' L k) (lo := -9) (hi := 9) (by omega)
  generalize vN L k 9 = m at *
  generalize vRange L (at' L k) (-9) 9 = o at *
  have hd : Mod3 d0 d1 d2 := by unfold Mod3; omega
  have hd1 : Mod3 d0 (d1 + m) d2 := by unfold Mod3; omega
  have hd2 : Mod3 d0 d1 (d2 + o) := by unfold Mod3; omega
  have D0 := c_ADivide hA hd
  have D1 := c_ADivide hA hd1
  have D2 := c_ADivide hA hd2
  obtain ⟨w1, w2, w3, w4, w5⟩ := wsa hA
  have o0 := OkL_lats w2 w3 0 ls
  have o1 := OkL_lats w2 w3 1 ls
  have hmy : MonoY s.ts (ysA (Ws s.ts ms) ls d1 d2) (ysA (Ws s.ts ms) ls (d1 + m) d2) (ysA (Ws s.ts ms) ls d1 (d2 + o)) :=
    MonoY_Ws hA.ml (monoY (dv_in o1 hd.2.2) (dv_in o1 hd2.2.2) (dv_up o0 hd.2.1 hd1.2.1 (by omega)))
  have hmr : MonoR s.ts (thA (Ws s.ts ms) ls d0 d1 d2) (thA (Ws s.ts ms) ls d0 (d1 + m) d2) (thA (Ws s.ts ms) ls d0 d1 (d2 + o)) :=
    MonoY_R hmy (by rw [(xsA_len hA hd).1, (ysA_len hA hd).1]) (by rw [(xsA_len hA hd1).1, (ysA_len hA hd1).1]) (by rw [(xsA_len hA hd2).1, (ysA_len hA hd2).1])
  have l0 := (thA_len hA hd).1
  have l1 := (thA_len hA hd1).1
  have l2 := (thA_len hA hd2).1
  have hlp := fun a1 a2 a3 a4 a5 a6 b1 b2 b3 b4 b5 b6 c1 c2 c3 c4 c5 c6 => mo_loop a1 a2 a3 a4 a5 a6 b1 b2 b3 b4 b5 b6 c1 c2 c3 c4 c5 c6 s.ts [] _ [] _ [] _ [] hmr rfl rfl rfl (by simp; omega)
  simp only [List.nil_append, List.length_nil] at hlp
  have e0 : (((0 : Nat)) : Int) = 0 := rfl
  simp only [e0] at hlp
  unfold shpC at *
  rw [src_zero, hW]
  simp only [bnd_some, ctl_true, ctl_false, ctl_and, ctl_or', ctl_or2, x_toPV, x_toCs, x_toCs2, x_toEs, x_bEs, x_bCs, x_aPV, x_aCs, x_int, x_bool, x_str, x_es, x_esn, nth_0, nth_1, nth_2, nth_3, nth_4, nth_5, nth_6, nth_7, nth_8, nth_9, y_nil, y_int, y_bool, y_str, y_sl, y_nils, y_agg, y_ownp, y_own, z_nil, z_int, z_bool, z_str, z_sl, z_nils, b_nil, b_arr, b_box1, b_box2, b_box3, b_box4, List.map_cons, List.map_nil, Bool.and_self, Bool.and_true, Bool.true_and, Bool.not_true, Bool.not_false, Bool.or_false, Bool.false_or, cond_true, cond_false, okPack, okPut, okPutBlks, okPutCells, q_isP, q_isAg, q_isBox, q_isArr, q_int, q_bool, q_str, q_sl, q_nils, e_exit, e_ret, e_nrm, e_ret_exit, e_exit_ret, e_nrm_exit, e_nrm_ret, e_exit_nrm, e_ret_nrm, Nat.zero_add, Nat.reduceAdd, noslR, noslP, noslB, noslA, List.all_cons, List.all_nil]
  rw [hN]
  simp only [bnd_some, ctl_true, ctl_false, ctl_and, ctl_or', ctl_or2, x_toPV, x_toCs, x_toCs2, x_toEs, x_bEs, x_bCs, x_aPV, x_aCs, x_int, x_bool, x_str, x_es, x_esn, nth_0, nth_1, nth_2, nth_3, nth_4, nth_5, nth_6, nth_7, nth_8, nth_9, y_nil, y_int, y_bool, y_str, y_sl, y_nils, y_agg, y_ownp, y_own, z_nil, z_int, z_bool, z_str, z_sl, z_nils, b_nil, b_arr, b_box1, b_box2, b_box3, b_box4, List.map_cons, List.map_nil, Bool.and_self, Bool.and_true, Bool.true_and, Bool.not_true, Bool.not_false, Bool.or_false, Bool.false_or, cond_true, cond_false, okPack, okPut, okPutBlks, okPutCells, q_isP, q_isAg, q_isBox, q_isArr, q_int, q_bool, q_str, q_sl, q_nils, e_exit, e_ret, e_nrm, e_ret_exit, e_exit_ret, e_nrm_exit, e_nrm_ret, e_exit_nrm, e_ret_nrm, Nat.zero_add, Nat.reduceAdd, noslR, noslP, noslB, noslA, List.all_cons, List.all_nil]
  rw [hR]
  simp only [bnd_some, ctl_true, ctl_false, ctl_and, ctl_or', ctl_or2, x_toPV, x_toCs, x_toCs2, x_toEs, x_bEs, x_bCs, x_aPV, x_aCs, x_int, x_bool, x_str, x_es, x_esn, nth_0, nth_1, nth_2, nth_3, nth_4, nth_5, nth_6, nth_7, nth_8, nth_9, y_nil, y_int, y_bool, y_str, y_sl, y_nils, y_agg, y_ownp, y_own, z_nil, z_int, z_bool, z_str, z_sl, z_nils, b_nil, b_arr, b_box1, b_box2, b_box3, b_box4, List.map_cons, List.map_nil, Bool.and_self, Bool.and_true, Bool.true_and, Bool.not_true, Bool.not_false, Bool.or_false, Bool.false_or, cond_true, cond_false, okPack, okPut, okPutBlks, okPutCells, q_isP, q_isAg, q_isBox, q_isArr, q_int, q_bool, q_str, q_sl, q_nils, e_exit, e_ret, e_nrm, e_ret_exit, e_exit_ret, e_nrm_exit, e_nrm_ret, e_exit_nrm, e_ret_nrm, Nat.zero_add, Nat.reduceAdd, noslR, noslP, noslB, noslA, List.all_cons, List.all_nil]
  rw [D0]
  simp only [bnd_some, ctl_true, ctl_false, ctl_and, ctl_or', ctl_or2, x_toPV, x_toCs, x_toCs2, x_toEs, x_bEs, x_bCs, x_aPV, x_aCs, x_int, x_bool, x_str, x_es, x_esn, nth_0, nth_1, nth_2, nth_3, nth_4, nth_5, nth_6, nth_7, nth_8, nth_9, y_nil, y_int, y_bool, y_str, y_sl, y_nils, y_agg, y_ownp, y_own, z_nil, z_int, z_bool, z_str, z_sl, z_nils, b_nil, b_arr, b_box1, b_box2, b_box3, b_box4, List.map_cons, List.map_nil, Bool.and_self, Bool.and_true, Bool.true_and, Bool.not_true, Bool.not_false, Bool.or_false, Bool.false_or, cond_true, cond_false, okPack, okPut, okPutBlks, okPutCells, q_isP, q_isAg, q_isBox, q_isArr, q_int, q_bool, q_str, q_sl, q_nils, e_exit, e_ret, e_nrm, e_ret_exit, e_exit_ret, e_nrm_exit, e_nrm_ret, e_exit_nrm, e_ret_nrm, Nat.zero_add, Nat.reduceAdd, noslR, noslP, noslB, noslA, List.all_cons, List.all_nil]
  rw [w64 (n := d1 + m) (by omega), D1]
  simp only [bnd_some, ctl_true, ctl_false, ctl_and, ctl_or', ctl_or2, x_toPV, x_toCs, x_toCs2, x_toEs, x_bEs, x_bCs, x_aPV, x_aCs, x_int, x_bool, x_str, x_es, x_esn, nth_0, nth_1, nth_2, nth_3, nth_4, nth_5, nth_6, nth_7, nth_8, nth_9, y_nil, y_int, y_bool, y_str, y_sl, y_nils, y_agg, y_ownp, y_own, z_nil, z_int, z_bool, z_str, z_sl, z_nils, b_nil, b_arr, b_box1, b_box2, b_box3, b_box4, List.map_cons, List.map_nil, Bool.and_self, Bool.and_true, Bool.true_and, Bool.not_true, Bool.not_false, Bool.or_false, Bool.false_or, cond_true, cond_false, okPack, okPut, okPutBlks, okPutCells, q_isP, q_isAg, q_isBox, q_isArr, q_int, q_bool, q_str, q_sl, q_nils, e_exit, e_ret, e_nrm, e_ret_exit, e_exit_ret, e_nrm_exit, e_nrm_ret, e_exit_nrm, e_ret_nrm, Nat.zero_add, Nat.reduceAdd, noslR, noslP, noslB, noslA, List.all_cons, List.all_nil]
  rw [w64 (n := d2 + o) (by omega), D2]
  simp only [bnd_some, ctl_true, ctl_false, ctl_and, ctl_or', ctl_or2, x_toPV, x_toCs, x_toCs2, x_toEs, x_bEs, x_bCs, x_aPV, x_aCs, x_int, x_bool, x_str, x_es, x_esn, nth_0, nth_1, nth_2, nth_3, nth_4, nth_5, nth_6, nth_7, nth_8, nth_9, y_nil, y_int, y_bool, y_str, y_sl, y_nils, y_agg, y_ownp, y_own, z_nil, z_int, z_bool, z_str, z_sl, z_nils, b_nil, b_arr, b_box1, b_box2, b_box3, b_box4, List.map_cons, List.map_nil, Bool.and_self, Bool.and_true, Bool.true_and, Bool.not_true, Bool.not_false, Bool.or_false, Bool.false_or, cond_true, cond_false, okPack, okPut, okPutBlks, okPutCells, q_isP, q_isAg, q_isBox, q_isArr, q_int, q_bool, q_str, q_sl, q_nils, e_exit, e_ret, e_nrm, e_ret_exit, e_exit_ret, e_nrm_exit, e_nrm_ret, e_exit_nrm, e_ret_nrm, Nat.zero_add, Nat.reduceAdd, noslR, noslP, noslB, noslA, List.all_cons, List.all_nil, bne_self_eq_false, arcK_length, thK_length, l0, l1, l2]
  rw [hlp]
  simp only [bnd_some, ctl_true, ctl_false, ctl_and, ctl_or', ctl_or2, x_toPV, x_toCs, x_toCs2, x_toEs, x_bEs, x_bCs, x_aPV, x_aCs, x_int, x_bool, x_str, x_es, x_esn, nth_0, nth_1, nth_2, nth_3, nth_4, nth_5, nth_6, nth_7, nth_8, nth_9, y_nil, y_int, y_bool, y_str, y_sl, y_nils, y_agg, y_ownp, y_own, z_nil, z_int, z_bool, z_str, z_sl, z_nils, b_nil, b_arr, b_box1, b_box2, b_box3, b_box4, List.map_cons, List.map_nil, Bool.and_self, Bool.and_true, Bool.true_and, Bool.not_true, Bool.not_false, Bool.or_false, Bool.false_or, cond_true, cond_false, okPack, okPut, okPutBlks, okPutCells, q_isP, q_isAg, q_isBox, q_isArr, q_int, q_bool, q_str, q_sl, q_nils, e_exit, e_ret, e_nrm, e_ret_exit, e_exit_ret, e_nrm_exit, e_nrm_ret, e_exit_nrm, e_ret_nrm, Nat.zero_add, Nat.reduceAdd, noslR, noslP, noslB, noslA, List.all_cons, List.all_nil, c_sane]

end Go.Proofs.Ytcnjaffogkkpnaa.Vm
