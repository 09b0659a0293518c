/- The law AllocateStations comes to true. -/
import Derived.Test.YtcnjaffogkkpnaaAllocX
import Derived.Test.YtcnjaffogkkpnaaRawStations
namespace Go.Proofs.Ytcnjaffogkkpnaa.Vm
set_option linter.unusedVariables false
set_option linter.unusedSimpArgs false

def LeL : List Int → List Int → Prop
  | [], [] => True
  | a :: l, b :: m => (a ≤ b ∧ 0 ≤ b ∧ b ≤ 5000) ∧ LeL l m
  | _, _ => False
theorem LeL_length : ∀ {a b : List Int}, LeL a b → b.length = a.length
  | [], [], _ => rfl
  | [], _ :: _, h => h.elim
  | _ :: _, [], h => h.elim
  | _ :: _, _ :: _, h => by simp [LeL_length h.2]
theorem LeL_in : ∀ {a b : List Int}, LeL a b → ∀ m ∈ b, 0 ≤ m ∧ m ≤ 5000
  | [], [], _, m, hm => by cases hm
  | [], _ :: _, h, _, _ => h.elim
  | _ :: _, [], h, _, _ => h.elim
  | x :: a, y :: b, h, m, hm => by
    rcases List.mem_cons.1 hm with rfl | hm
    · exact h.1.2
    · exact LeL_in h.2 m hm

theorem more_loop {L : List Int} (hL : L.length ≤ 600) (s : Shp) (d1 d2 : Int) (M : List (List PV)) : ∀ (rs dn : List Int) (k : Nat), k ≤ 600 → (∀ m ∈ rs, 0 ≤ m ∧ m ≤ 5000) → (dn ++ rs).length ≤ 100 →
    ∃ out : List Int, lp E (denC E) 6 0 [] 0 { vals := [AV.sl 1 M, AV.int .i64 ((dn ++ rs).length : Int), AV.int .i64 (dn.length : Int)], blks := [src L k, Blk.box [AV.int .i64 s.bw, AV.int .i64 s.sn, AV.sl 6 (thK s.ts)], Blk.box [AV.int .i64 0, AV.int .i64 d1, AV.int .i64 d2], Blk.arr 1 (intsK .i64 (dn ++ rs))] } =
      some (Ex.exit 0, { vals := [AV.sl 1 M], blks := [Blk.box [AV.int .i64 s.bw, AV.int .i64 s.sn, AV.sl 6 (thK s.ts)], Blk.box [AV.int .i64 0, AV.int .i64 d1, AV.int .i64 d2], Blk.arr 1 (intsK .i64 (dn ++ out))] }) ∧ LeL rs out
  | [], dn, k, hk, hm, h => by
    refine ⟨[], ?_, trivial⟩
    rw [r6_0, ctl_dec, if_neg (by simp)]
  | m :: rs, dn, k, hk, hm, h => by
    have h1 := hm m (List.mem_cons_self ..)
    have hN := c_N hL hk 10 (by omega)
    have bN := vN_bounds (L := L) (k := k) (n := 10) (by omega)
    generalize vN L k 10 = x at *
    have hb : m ≤ minI 5000 (m + x) ∧ 0 ≤ minI 5000 (m + x) ∧ minI 5000 (m + x) ≤ 5000 := by unfold minI; split <;> omega
    obtain ⟨out, h2, h3⟩ := more_loop hL s d1 d2 M rs (dn ++ [minI 5000 (m + x)]) (at' L k) (at'_le hL hk) (fun z hz => hm z (List.mem_cons_of_mem _ hz)) (by simp at h ⊢; omega)
    refine ⟨minI 5000 (m + x) :: out, ?_, ⟨hb, h3⟩⟩
    simp only [List.append_assoc, List.cons_append, List.nil_append, List.length_append, List.length_cons, List.length_nil] at h2 h
    have i0 : leB 0 (dn.length : Int) = true := by simp
    have i1 : ltB (dn.length : Int) ((intsK .i64 (dn ++ m :: rs)).length : Int) = true := by rw [intsK_length]; simp; omega
    have i2 : nth [] (intsK .i64 (dn ++ m :: rs)) ((dn.length : Int)).toNat = [PV.int .i64 m] := by
      rw [Int.toNat_natCast]; exact Div.nth_mid dn m rs
    have i3 : okCs [Sh.int .i64] (List.take 1 (List.drop 0 [PV.int .i64 m])) = true := rfl
    rw [r6_0, ctl_dec, if_pos (by simp; omega)]
    simp only [bnd_some, ctl_true, ctl_false, ctl_and, ctl_or', ctl_or2, x_toPV, x_toCs, x_toCs2, x_toEs, x_bEs, x_bCs, x_aPV, x_aCs, x_int, x_bool, x_str, x_es, x_esn, nth_0, nth_1, nth_2, nth_3, nth_4, nth_5, nth_6, nth_7, nth_8, nth_9, y_nil, y_int, y_bool, y_str, y_sl, y_nils, y_agg, y_ownp, y_own, z_nil, z_int, z_bool, z_str, z_sl, z_nils, b_nil, b_arr, b_box1, b_box2, b_box3, b_box4, List.map_cons, List.map_nil, Bool.and_self, Bool.and_true, Bool.true_and, Bool.not_true, Bool.not_false, Bool.or_false, Bool.false_or, cond_true, cond_false, okPack, okPut, okPutBlks, okPutCells, q_isP, q_isAg, q_isBox, q_isArr, q_int, q_bool, q_str, q_sl, q_nils, e_exit, e_ret, e_nrm, e_ret_exit, e_exit_ret, e_nrm_exit, e_nrm_ret, e_exit_nrm, e_ret_nrm, Nat.zero_add, Nat.reduceAdd, noslR, noslP, noslB, noslA, List.all_cons, List.all_nil, i0, i1, i2, i3]
    rw [hN]
    simp only [bnd_some, ctl_true, ctl_false, ctl_and, ctl_or', ctl_or2, x_toPV, x_toCs, x_toCs2, x_toEs, x_bEs, x_bCs, x_aPV, x_aCs, x_int, x_bool, x_str, x_es, x_esn, nth_0, nth_1, nth_2, nth_3, nth_4, nth_5, nth_6, nth_7, nth_8, nth_9, y_nil, y_int, y_bool, y_str, y_sl, y_nils, y_agg, y_ownp, y_own, z_nil, z_int, z_bool, z_str, z_sl, z_nils, b_nil, b_arr, b_box1, b_box2, b_box3, b_box4, List.map_cons, List.map_nil, Bool.and_self, Bool.and_true, Bool.true_and, Bool.not_true, Bool.not_false, Bool.or_false, Bool.false_or, cond_true, cond_false, okPack, okPut, okPutBlks, okPutCells, q_isP, q_isAg, q_isBox, q_isArr, q_int, q_bool, q_str, q_sl, q_nils, e_exit, e_ret, e_nrm, e_ret_exit, e_exit_ret, e_nrm_exit, e_nrm_ret, e_exit_nrm, e_ret_nrm, Nat.zero_add, Nat.reduceAdd, noslR, noslP, noslB, noslA, List.all_cons, List.all_nil]
    rw [w64 (n := m + x) (by omega), w64 (n := (dn.length : Int) + 1) (by omega), Int.toNat_natCast, Div.setEs_ints (by simp)]
    have eset : (dn ++ m :: rs).set dn.length (minI 5000 (m + x)) = dn ++ minI 5000 (m + x) :: rs := by
      rw [List.set_append_right _ _ (Nat.le_refl _)]; simp
    have e1 : ((dn.length : Int) + 1) = ((dn.length + (0 + 1) : Nat) : Int) := by omega
    simp only [List.length_append, List.length_cons]
    rw [eset, e1, h2]

/-- A greater force: no narrower. -/
theorem lat_wider {t : Thr} (hv : okT t = true) {m m' : Int} (h : m ≤ m') : (latF (withT t m')).1 ≤ (latF (withT t m)).1 ∧ (latF (withT t m)).2 ≤ (latF (withT t m')).2 := by
  have o := withT_ok hv m
  have o' := withT_ok hv m'
  have h0 := okT0_iff.1 (okT_iff.1 hv).1
  have a := latF_is (withT t m)
  have a' := latF_is (withT t m')
  unfold IsLat at a a'
  rw [if_pos o] at a
  rw [if_pos o'] at a'
  have b := withT_mx (t := t) (by omega) m
  have hmx : (withT t m).mx ≤ (withT t m').mx := by
    unfold withT minI maxI
    simp only
    split <;> split <;> (try split) <;> (try split) <;> omega
  exact IsRun_mono (fun n hn => by
    have h1 := (alw_iff.1 hn).1
    have h2 := (alw_iff.1 hn).2
    have h1 := alw0_iff.1 h1
    have hs := sq_le (a := (withT t m).mx) (m := (withT t m').mx) (by omega)
    exact alw_iff.2 ⟨alw0_iff.2 ⟨by omega, by omega, by omega, by omega, by omega, h1.2.2.2.2.2.1, h1.2.2.2.2.2.2⟩, h2⟩) a' a

theorem reach_wider (k : Int) : ∀ {ts : List Thr} {ms mm : List Int}, (∀ t ∈ ts, okT t = true) → LeL ms mm → Div.lows (lats k (Ws ts mm) []) ≤ Div.lows (lats k (Ws ts ms) []) ∧ Div.highs (lats k (Ws ts ms) []) ≤ Div.highs (lats k (Ws ts mm) [])
  | [], ms, mm, _, _ => by simp [Ws, lats]
  | t :: ts, [], [], _, _ => by simp [Ws, lats]
  | t :: ts, [], _ :: _, _, h => h.elim
  | t :: ts, _ :: _, [], _, h => h.elim
  | t :: ts, m :: ms, n :: mm, hv, h => by
    have ih := reach_wider k (ts := ts) (ms := ms) (mm := mm) (fun x hx => hv x (List.mem_cons_of_mem _ hx)) h.2
    have h1 := lat_wider (hv t (List.mem_cons_self ..)) h.1.1
    simp only [Ws, lats, Div.lows, Div.highs, List.head?_nil, List.tail_nil]
    have e1 : (withT t m).st = t.st := rfl
    have e2 : (withT t n).st = t.st := rfl
    unfold latS
    rw [e1, e2]
    split
    · simp only [Option.map_none, ratS]; omega
    · simp only; omega

theorem totC_id {l : List Div.Shr} {d : Int} (h : Div.lows l ≤ Div.highs l) : totC l d = d ↔ Div.lows l ≤ d ∧ d ≤ Div.highs l := by
  unfold totC
  rw [Div.clamp_eq]
  split <;> split <;> omega

theorem holds_more {s : Shp} {ms mm : List Int} (h : AOk s ms []) (h' : AOk s mm []) (hl : LeL ms mm) {d1 d2 : Int} (hd : Mod3 0 d1 d2) (hh : holdsB s ms 0 d1 d2 = true) : holdsB s mm 0 d1 d2 = true := by
  obtain ⟨w1, w2, w3, w4, w5⟩ := wsa h
  obtain ⟨v1, v2, v3, v4, v5⟩ := wsa h'
  have hv : ∀ t ∈ s.ts, okT t = true := fun t ht => (h.ok.2.2.2.2.2.2 t ht).1
  have r0 := reach_wider 0 hv hl
  have r1 := reach_wider 1 hv hl
  have a0 := (Div.ends_in (lats_ok 0 [] w3)).2.1
  have a1 := (Div.ends_in (lats_ok 1 [] w3)).2.1
  have b0 := (Div.ends_in (lats_ok 0 [] v3)).2.1
  have b1 := (Div.ends_in (lats_ok 1 [] v3)).2.1
  unfold holdsB at hh ⊢
  rw [gvA_eq h hd] at hh
  rw [gvA_eq h' hd]
  simp only [Bool.and_eq_true, beq_iff_eq] at hh ⊢
  obtain ⟨_, g1, g2⟩ := hh
  have g1 := (totC_id a0).1 (show totC (lats 0 (Ws s.ts ms) []) d1 = d1 by omega)
  have g2 := (totC_id a1).1 (show totC (lats 1 (Ws s.ts ms) []) d2 = d2 by omega)
  have k1 := (totC_id (d := d1) b0).2 (by omega)
  have k2 := (totC_id (d := d2) b1).2 (by omega)
  rw [totC_zero (lons_zero _ v3), k1, k2]
  omega

theorem half_small {n d : Int} (hd : 1 ≤ d ∧ d ≤ 100) (hn : -7200 ≤ n ∧ n ≤ 7200) : -14500 ≤ Half n d ∧ Half n d ≤ 14500 := by
  unfold Half
  constructor
  · rw [Int.le_ediv_iff_mul_le (by omega)]
    omega
  · have : (2 * n + d) / (2 * d) < 14501 := Int.ediv_lt_of_lt_mul (by omega) (by omega)
    omega

theorem d_AllocateStations (t : List Int) (_ : t.length ≤ maxLen) (_ : ∀ n ∈ t, -9223372036854775808 ≤ n ∧ n ≤ 9223372036854775807) :
    denC E 6 [AV.sl 1 (intsK .i64 t)] [] = some ([RV.p (PV.bool true)], []) := by
  rw [denC_eq, r6, c_New]
  have hL : (t.take 600).length ≤ 600 := by simp; omega
  generalize t.take 600 = L at hL
  have h0 : (0 : Nat) ≤ 600 := by omega
  simp only [bnd_some, ctl_true, ctl_false, ctl_and, ctl_or', ctl_or2, x_toPV, x_toCs, x_toCs2, x_toEs, x_bEs, x_bCs, x_aPV, x_aCs, x_int, x_bool, x_str, x_es, x_esn, nth_0, nth_1, nth_2, nth_3, nth_4, nth_5, nth_6, nth_7, nth_8, nth_9, y_nil, y_int, y_bool, y_str, y_sl, y_nils, y_agg, y_ownp, y_own, z_nil, z_int, z_bool, z_str, z_sl, z_nils, b_nil, b_arr, b_box1, b_box2, b_box3, b_box4, List.map_cons, List.map_nil, Bool.and_self, Bool.and_true, Bool.true_and, Bool.not_true, Bool.not_false, Bool.or_false, Bool.false_or, cond_true, cond_false, okPack, okPut, okPutBlks, okPutCells, q_isP, q_isAg, q_isBox, q_isArr, q_int, q_bool, q_str, q_sl, q_nils, e_exit, e_ret, e_nrm, e_ret_exit, e_exit_ret, e_nrm_exit, e_nrm_ret, e_exit_nrm, e_ret_nrm, Nat.zero_add, Nat.reduceAdd, noslR, noslP, noslB, noslA, List.all_cons, List.all_nil]
  obtain ⟨s, ms, ls, d0, d1, d2, k, hW, hs, hA, hsm, _, _, _, hk⟩ := c_world hL h0
  have hl5 := hs.2.2.2.2.1
  have hA0 : AOk s ms [] := ⟨hA.ok, hA.ml, hA.mi, .inl rfl, fun v hv => by cases hv⟩
  have hk1 := at'_le hL hk
  have hk2 := at'_le hL hk1
  have hk3 := at'_le hL hk2
  have r1 := c_Range hL hk (lo := -40) (hi := 40) (by omega)
  have r2 := c_Range hL hk1 (lo := -80) (hi := 80) (by omega)
  have r3 := c_Range hL hk2 (lo := -4000) (hi := 4000) (by omega)
  have b1 := vRange_bounds (L := L) (k := k) (lo := -40) (hi := 40) (by omega)
  have b2 := vRange_bounds (L := L) (k := at' L k) (lo := -80) (hi := 80) (by omega)
  have b3 := vRange_bounds (L := L) (k := at' L (at' L k)) (lo := -4000) (hi := 4000) (by omega)
  generalize vRange L k (-40) 40 = f0 at *
  generalize vRange L (at' L k) (-80) 80 = f1 at *
  generalize vRange L (at' L (at' L k)) (-4000) 4000 = f2 at *
  obtain ⟨q1, q2, q3, q4, q5, q6⟩ := hs
  have m1 := mul_le (a := f1) (b := s.sn) (m := 80) (n := 40) b2 (by omega)
  have hb := half_small (n := f2 + f1 * s.sn) (d := s.bw + s.sn) (by omega) (by omega)
  have hsp := half_spec (n := f2 + f1 * s.sn) (d := s.bw + s.sn) (by omega)
  have hSt := c_Stations hA.ok (f0 := f0) (f1 := f1) (f2 := f2) (by omega) (by omega) (by omega) (by omega)
  generalize Half (f2 + f1 * s.sn) (s.bw + s.sn) = b at *
  obtain ⟨mm, hlp, hle⟩ := more_loop hL s b (f1 - b) (intsK .i64 ms) ms [] _ hk3 hA.mi (by have := hA.ml; simp; omega)
  have hlm := LeL_length hle
  have hAm : AOk s mm [] := ⟨hA.ok, by rw [hlm]; exact hA.ml, LeL_in hle, .inl rfl, fun v hv => by cases hv⟩
  have hd : Mod3 0 b (f1 - b) := by unfold Mod3; omega
  have H1 := c_Holds hA0 hd
  have H2 := c_Holds hAm hd
  have hmono := holds_more hA0 hAm hle hd
  simp only [List.nil_append, List.length_nil] at hlp
  have e0 : (((0 : Nat)) : Int) = 0 := rfl
  rw [e0] at hlp
  unfold shpC at *
  rw [src_zero, hW]
  simp only [bnd_some, ctl_true, ctl_false, ctl_and, ctl_or', ctl_or2, x_toPV, x_toCs, x_toCs2, x_toEs, x_bEs, x_bCs, x_aPV, x_aCs, x_int, x_bool, x_str, x_es, x_esn, nth_0, nth_1, nth_2, nth_3, nth_4, nth_5, nth_6, nth_7, nth_8, nth_9, y_nil, y_int, y_bool, y_str, y_sl, y_nils, y_agg, y_ownp, y_own, z_nil, z_int, z_bool, z_str, z_sl, z_nils, b_nil, b_arr, b_box1, b_box2, b_box3, b_box4, List.map_cons, List.map_nil, Bool.and_self, Bool.and_true, Bool.true_and, Bool.not_true, Bool.not_false, Bool.or_false, Bool.false_or, cond_true, cond_false, okPack, okPut, okPutBlks, okPutCells, q_isP, q_isAg, q_isBox, q_isArr, q_int, q_bool, q_str, q_sl, q_nils, e_exit, e_ret, e_nrm, e_ret_exit, e_exit_ret, e_nrm_exit, e_nrm_ret, e_exit_nrm, e_ret_nrm, Nat.zero_add, Nat.reduceAdd, noslR, noslP, noslB, noslA, List.all_cons, List.all_nil]
  rw [r1]
  simp only [bnd_some, ctl_true, ctl_false, ctl_and, ctl_or', ctl_or2, x_toPV, x_toCs, x_toCs2, x_toEs, x_bEs, x_bCs, x_aPV, x_aCs, x_int, x_bool, x_str, x_es, x_esn, nth_0, nth_1, nth_2, nth_3, nth_4, nth_5, nth_6, nth_7, nth_8, nth_9, y_nil, y_int, y_bool, y_str, y_sl, y_nils, y_agg, y_ownp, y_own, z_nil, z_int, z_bool, z_str, z_sl, z_nils, b_nil, b_arr, b_box1, b_box2, b_box3, b_box4, List.map_cons, List.map_nil, Bool.and_self, Bool.and_true, Bool.true_and, Bool.not_true, Bool.not_false, Bool.or_false, Bool.false_or, cond_true, cond_false, okPack, okPut, okPutBlks, okPutCells, q_isP, q_isAg, q_isBox, q_isArr, q_int, q_bool, q_str, q_sl, q_nils, e_exit, e_ret, e_nrm, e_ret_exit, e_exit_ret, e_nrm_exit, e_nrm_ret, e_exit_nrm, e_ret_nrm, Nat.zero_add, Nat.reduceAdd, noslR, noslP, noslB, noslA, List.all_cons, List.all_nil]
  rw [r2]
  simp only [bnd_some, ctl_true, ctl_false, ctl_and, ctl_or', ctl_or2, x_toPV, x_toCs, x_toCs2, x_toEs, x_bEs, x_bCs, x_aPV, x_aCs, x_int, x_bool, x_str, x_es, x_esn, nth_0, nth_1, nth_2, nth_3, nth_4, nth_5, nth_6, nth_7, nth_8, nth_9, y_nil, y_int, y_bool, y_str, y_sl, y_nils, y_agg, y_ownp, y_own, z_nil, z_int, z_bool, z_str, z_sl, z_nils, b_nil, b_arr, b_box1, b_box2, b_box3, b_box4, List.map_cons, List.map_nil, Bool.and_self, Bool.and_true, Bool.true_and, Bool.not_true, Bool.not_false, Bool.or_false, Bool.false_or, cond_true, cond_false, okPack, okPut, okPutBlks, okPutCells, q_isP, q_isAg, q_isBox, q_isArr, q_int, q_bool, q_str, q_sl, q_nils, e_exit, e_ret, e_nrm, e_ret_exit, e_exit_ret, e_nrm_exit, e_nrm_ret, e_exit_nrm, e_ret_nrm, Nat.zero_add, Nat.reduceAdd, noslR, noslP, noslB, noslA, List.all_cons, List.all_nil]
  rw [r3]
  simp only [bnd_some, ctl_true, ctl_false, ctl_and, ctl_or', ctl_or2, x_toPV, x_toCs, x_toCs2, x_toEs, x_bEs, x_bCs, x_aPV, x_aCs, x_int, x_bool, x_str, x_es, x_esn, nth_0, nth_1, nth_2, nth_3, nth_4, nth_5, nth_6, nth_7, nth_8, nth_9, y_nil, y_int, y_bool, y_str, y_sl, y_nils, y_agg, y_ownp, y_own, z_nil, z_int, z_bool, z_str, z_sl, z_nils, b_nil, b_arr, b_box1, b_box2, b_box3, b_box4, List.map_cons, List.map_nil, Bool.and_self, Bool.and_true, Bool.true_and, Bool.not_true, Bool.not_false, Bool.or_false, Bool.false_or, cond_true, cond_false, okPack, okPut, okPutBlks, okPutCells, q_isP, q_isAg, q_isBox, q_isArr, q_int, q_bool, q_str, q_sl, q_nils, e_exit, e_ret, e_nrm, e_ret_exit, e_exit_ret, e_nrm_exit, e_nrm_ret, e_exit_nrm, e_ret_nrm, Nat.zero_add, Nat.reduceAdd, noslR, noslP, noslB, noslA, List.all_cons, List.all_nil]
  rw [hSt]
  have u1 := mul_le (a := b) (b := s.bw) (m := 14500) (n := 60) hb (by omega)
  have u2 := mul_le (a := f1 - b) (b := s.sn) (m := 15000) (n := 40) (by omega) (by omega)
  have eo : (s.bw + s.sn) * b - (f2 + f1 * s.sn) = b * s.bw - (f1 - b) * s.sn - f2 := by
    rw [Int.add_mul, Int.sub_mul, Int.mul_comm s.bw, Int.mul_comm s.sn]
    omega
  rw [eo] at hsp
  simp only [bnd_some, ctl_true, ctl_false, ctl_and, ctl_or', ctl_or2, x_toPV, x_toCs, x_toCs2, x_toEs, x_bEs, x_bCs, x_aPV, x_aCs, x_int, x_bool, x_str, x_es, x_esn, nth_0, nth_1, nth_2, nth_3, nth_4, nth_5, nth_6, nth_7, nth_8, nth_9, y_nil, y_int, y_bool, y_str, y_sl, y_nils, y_agg, y_ownp, y_own, z_nil, z_int, z_bool, z_str, z_sl, z_nils, b_nil, b_arr, b_box1, b_box2, b_box3, b_box4, List.map_cons, List.map_nil, Bool.and_self, Bool.and_true, Bool.true_and, Bool.not_true, Bool.not_false, Bool.or_false, Bool.false_or, cond_true, cond_false, okPack, okPut, okPutBlks, okPutCells, q_isP, q_isAg, q_isBox, q_isArr, q_int, q_bool, q_str, q_sl, q_nils, e_exit, e_ret, e_nrm, e_ret_exit, e_exit_ret, e_nrm_exit, e_nrm_ret, e_exit_nrm, e_ret_nrm, Nat.zero_add, Nat.reduceAdd, noslR, noslP, noslB, noslA, List.all_cons, List.all_nil, bne_self_eq_false]
  have es : b + (f1 - b) = f1 := by omega
  rw [w64 (n := b + (f1 - b)) (by omega), es, w64 (n := b * s.bw) (by omega), w64 (n := (f1 - b) * s.sn) (by omega), w64 (n := b * s.bw - (f1 - b) * s.sn) (by omega), w64 (n := b * s.bw - (f1 - b) * s.sn - f2) (by omega)]
  generalize b * s.bw - (f1 - b) * s.sn - f2 = off at *
  rw [w64 (n := 2 * off) (by omega), w64 (n := 0 - 2 * off) (by omega), w64 (n := s.bw + s.sn) (by omega)]
  have g1 : (ltB (s.bw + s.sn) (2 * off) || ltB (s.bw + s.sn) (0 - 2 * off)) = false := by simp only [Bool.or_eq_false_iff, decide_eq_false_iff_not]; omega
  have g2 : leN (ms.length * 8) 140737488355328 = true := by have := hA.ml; simp only [decide_eq_true_eq]; omega
  simp only [bnd_some, ctl_true, ctl_false, ctl_and, ctl_or', ctl_or2, x_toPV, x_toCs, x_toCs2, x_toEs, x_bEs, x_bCs, x_aPV, x_aCs, x_int, x_bool, x_str, x_es, x_esn, nth_0, nth_1, nth_2, nth_3, nth_4, nth_5, nth_6, nth_7, nth_8, nth_9, y_nil, y_int, y_bool, y_str, y_sl, y_nils, y_agg, y_ownp, y_own, z_nil, z_int, z_bool, z_str, z_sl, z_nils, b_nil, b_arr, b_box1, b_box2, b_box3, b_box4, List.map_cons, List.map_nil, Bool.and_self, Bool.and_true, Bool.true_and, Bool.not_true, Bool.not_false, Bool.or_false, Bool.false_or, cond_true, cond_false, okPack, okPut, okPutBlks, okPutCells, q_isP, q_isAg, q_isBox, q_isArr, q_int, q_bool, q_str, q_sl, q_nils, e_exit, e_ret, e_nrm, e_ret_exit, e_exit_ret, e_nrm_exit, e_nrm_ret, e_exit_nrm, e_ret_nrm, Nat.zero_add, Nat.reduceAdd, noslR, noslP, noslB, noslA, List.all_cons, List.all_nil, bne_self_eq_false, g1, g2, intsK_length]
  rw [hlp]
  simp only [bnd_some, ctl_true, ctl_false, ctl_and, ctl_or', ctl_or2, x_toPV, x_toCs, x_toCs2, x_toEs, x_bEs, x_bCs, x_aPV, x_aCs, x_int, x_bool, x_str, x_es, x_esn, nth_0, nth_1, nth_2, nth_3, nth_4, nth_5, nth_6, nth_7, nth_8, nth_9, y_nil, y_int, y_bool, y_str, y_sl, y_nils, y_agg, y_ownp, y_own, z_nil, z_int, z_bool, z_str, z_sl, z_nils, b_nil, b_arr, b_box1, b_box2, b_box3, b_box4, List.map_cons, List.map_nil, Bool.and_self, Bool.and_true, Bool.true_and, Bool.not_true, Bool.not_false, Bool.or_false, Bool.false_or, cond_true, cond_false, okPack, okPut, okPutBlks, okPutCells, q_isP, q_isAg, q_isBox, q_isArr, q_int, q_bool, q_str, q_sl, q_nils, e_exit, e_ret, e_nrm, e_ret_exit, e_exit_ret, e_nrm_exit, e_nrm_ret, e_exit_nrm, e_ret_nrm, Nat.zero_add, Nat.reduceAdd, noslR, noslP, noslB, noslA, List.all_cons, List.all_nil]
  rw [H1]
  simp only [bnd_some, ctl_true, ctl_false, ctl_and, ctl_or', ctl_or2, x_toPV, x_toCs, x_toCs2, x_toEs, x_bEs, x_bCs, x_aPV, x_aCs, x_int, x_bool, x_str, x_es, x_esn, nth_0, nth_1, nth_2, nth_3, nth_4, nth_5, nth_6, nth_7, nth_8, nth_9, y_nil, y_int, y_bool, y_str, y_sl, y_nils, y_agg, y_ownp, y_own, z_nil, z_int, z_bool, z_str, z_sl, z_nils, b_nil, b_arr, b_box1, b_box2, b_box3, b_box4, List.map_cons, List.map_nil, Bool.and_self, Bool.and_true, Bool.true_and, Bool.not_true, Bool.not_false, Bool.or_false, Bool.false_or, cond_true, cond_false, okPack, okPut, okPutBlks, okPutCells, q_isP, q_isAg, q_isBox, q_isArr, q_int, q_bool, q_str, q_sl, q_nils, e_exit, e_ret, e_nrm, e_ret_exit, e_exit_ret, e_nrm_exit, e_nrm_ret, e_exit_nrm, e_ret_nrm, Nat.zero_add, Nat.reduceAdd, noslR, noslP, noslB, noslA, List.all_cons, List.all_nil]
  rw [H2, c_sane]
  cases hh : holdsB s ms 0 b (f1 - b) with
  | false => simp only [bnd_some, ctl_true, ctl_false, ctl_and, ctl_or', ctl_or2, x_toPV, x_toCs, x_toCs2, x_toEs, x_bEs, x_bCs, x_aPV, x_aCs, x_int, x_bool, x_str, x_es, x_esn, nth_0, nth_1, nth_2, nth_3, nth_4, nth_5, nth_6, nth_7, nth_8, nth_9, y_nil, y_int, y_bool, y_str, y_sl, y_nils, y_agg, y_ownp, y_own, z_nil, z_int, z_bool, z_str, z_sl, z_nils, b_nil, b_arr, b_box1, b_box2, b_box3, b_box4, List.map_cons, List.map_nil, Bool.and_self, Bool.and_true, Bool.true_and, Bool.not_true, Bool.not_false, Bool.or_false, Bool.false_or, cond_true, cond_false, okPack, okPut, okPutBlks, okPutCells, q_isP, q_isAg, q_isBox, q_isArr, q_int, q_bool, q_str, q_sl, q_nils, e_exit, e_ret, e_nrm, e_ret_exit, e_exit_ret, e_nrm_exit, e_nrm_ret, e_exit_nrm, e_ret_nrm, Nat.zero_add, Nat.reduceAdd, noslR, noslP, noslB, noslA, List.all_cons, List.all_nil, Bool.true_or]
  | true =>
    rw [hmono hh]
    simp only [bnd_some, ctl_true, ctl_false, ctl_and, ctl_or', ctl_or2, x_toPV, x_toCs, x_toCs2, x_toEs, x_bEs, x_bCs, x_aPV, x_aCs, x_int, x_bool, x_str, x_es, x_esn, nth_0, nth_1, nth_2, nth_3, nth_4, nth_5, nth_6, nth_7, nth_8, nth_9, y_nil, y_int, y_bool, y_str, y_sl, y_nils, y_agg, y_ownp, y_own, z_nil, z_int, z_bool, z_str, z_sl, z_nils, b_nil, b_arr, b_box1, b_box2, b_box3, b_box4, List.map_cons, List.map_nil, Bool.and_self, Bool.and_true, Bool.true_and, Bool.not_true, Bool.not_false, Bool.or_false, Bool.false_or, cond_true, cond_false, okPack, okPut, okPutBlks, okPutCells, q_isP, q_isAg, q_isBox, q_isArr, q_int, q_bool, q_str, q_sl, q_nils, e_exit, e_ret, e_nrm, e_ret_exit, e_exit_ret, e_nrm_exit, e_nrm_ret, e_exit_nrm, e_ret_nrm, Nat.zero_add, Nat.reduceAdd, noslR, noslP, noslB, noslA, List.all_cons, List.all_nil]

end Go.Proofs.Ytcnjaffogkkpnaa.Vm
