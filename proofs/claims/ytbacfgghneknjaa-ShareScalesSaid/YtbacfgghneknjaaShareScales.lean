/- The law ShareScales comes to true (variant B of ShareD and ShareS). -/
import Derived.Test.YtbacfgghneknjaaShareK
import Derived.Test.YtbacfgghneknjaaRawX
namespace Go.Proofs.Ytbacfgghneknjaa.Vm
set_option linter.unusedVariables false
set_option linter.unusedSimpArgs false

theorem setEs_c (d r : List Shr) (s : Shr) (v : Int) : setEs (shK (d ++ s :: r)) d.length 2 [PV.int .i64 v] = shK (d ++ ⟨s.lo, s.hi, v⟩ :: r) := by
  unfold setEs shK
  rw [upd_eq, nth_eq]
  simp [List.getD, shC, lay, lay.go, List.set_append]
theorem nth_shs (d r : List Shr) (s : Shr) : nth [] (shK (d ++ s :: r)) d.length = shC s := by
  rw [nth_eq]
  simp [shK, List.getD]

def cut20 (s : Shr) : Shr := ⟨s.lo, s.hi, 1 + s.c.tmod 20⟩

theorem cut_loop {L : List Int} {k : Nat} : ∀ (r d : List Shr), (d ++ r).length ≤ 8 → (∀ s ∈ r, OkS s) →
    lp E (denC E) 4 0 [] 0 { vals := [AV.int .i64 ((d ++ r).length : Int), AV.int .i64 (d.length : Int)], blks := [src L k, Blk.arr 3 (shK (d ++ r))] } =
      some (Ex.exit 0, { vals := [], blks := [src L k, Blk.arr 3 (shK (d ++ r.map cut20))] })
  | [], d, h, hs => by
    rw [r4_0, ctl_dec, if_neg (by simp)]
    simp
  | s :: r, d, h, hs => by
    have h1 := hs s (List.mem_cons_self ..)
    unfold OkS at h1
    have hm : 0 ≤ s.c.tmod 20 ∧ s.c.tmod 20 ≤ 19 := by rw [Int.tmod_eq_emod_of_nonneg (by omega)]; omega
    have ih := cut_loop (L := L) (k := k) r (d ++ [cut20 s]) (by simpa using h) (fun x hx => hs x (List.mem_cons_of_mem _ hx))
    simp only [List.length_append, List.length_cons] at h
    rw [r4_0, ctl_dec, if_pos (by simp; omega)]
    have c1 : (leB 0 (d.length : Int) && ltB (d.length : Int) ((shK (d ++ s :: r)).length : Int)) = true := by rw [shK_length]; simp; omega
    have o1 : okCs [Sh.int .i64] (List.take 1 (List.drop 2 (shC s))) = true := rfl
    simp only [c1, Int.toNat_natCast, nth_shs, o1, ctl_true]
    simp only [shC, bnd_some, ctl_true, ctl_false, ctl_and, ctl_or', ctl_or2, x_toPV, x_toCs, x_toCs2, x_toEs, x_bEs, x_bCs, x_aPV, x_aCs, x_int, x_bool, x_str, x_es, x_esn, nth_0, nth_1, nth_2, nth_3, nth_4, nth_5, nth_6, nth_7, nth_8, nth_9, y_nil, y_int, y_bool, y_str, y_sl, y_nils, y_agg, y_ownp, y_own, z_nil, z_int, z_bool, z_str, z_sl, z_nils, b_nil, b_arr, b_box1, b_box2, b_box3, b_box4, List.map_cons, List.map_nil, Bool.and_self, Bool.and_true, Bool.true_and, Bool.not_true, Bool.not_false, Bool.or_false, Bool.false_or, cond_true, cond_false, okPack, okPut, okPutBlks, okPutCells, q_isP, q_isAg, q_isBox, q_isArr, q_int, q_bool, q_str, q_sl, q_nils, e_exit, e_ret, e_nrm, e_ret_exit, e_exit_ret, e_nrm_exit, e_nrm_ret, e_exit_nrm, e_ret_nrm, Nat.zero_add, Nat.reduceAdd, noslR, noslP, noslB, noslA, List.all_cons, List.all_nil]
    rw [w64 (n := 1 + s.c.tmod 20) (by omega), w64 (n := (d.length : Int) + 1) (by omega), setEs_c]
    simp only [List.append_assoc, List.cons_append, List.nil_append, List.length_append, List.length_cons, List.length_nil] at ih
    simp only [List.length_append, List.length_cons]
    have e1 : ((d.length : Int) + 1) = ((d.length + (0 + 1) : Nat) : Int) := by omega
    have e2 : (⟨s.lo, s.hi, 1 + s.c.tmod 20⟩ : Shr) = cut20 s := rfl
    rw [e1, e2, ih]

theorem mul_loop {L : List Int} {k : Nat} {l0 : List (List PV)} {m : Int} (hm : 1 ≤ m ∧ m ≤ 4) : ∀ (r d : List Shr), (d ++ r).length ≤ 8 → (∀ s ∈ r, OkS s) →
    lp E (denC E) 4 0 [] 2 { vals := [AV.int .i64 m, AV.int .i64 ((d ++ r).length : Int), AV.int .i64 (d.length : Int)], blks := [src L k, Blk.arr 3 l0, Blk.arr 3 (shK (d ++ r))] } =
      some (Ex.exit 2, { vals := [AV.int .i64 m], blks := [src L k, Blk.arr 3 l0, Blk.arr 3 (shK (d ++ r.map (scl m)))] })
  | [], d, h, hs => by
    rw [r4_2, ctl_dec, if_neg (by simp)]
    simp
  | s :: r, d, h, hs => by
    have h1 := hs s (List.mem_cons_self ..)
    unfold OkS at h1
    have hb := mul_le (a := s.c) (b := m) (m := 100) (n := 4) (by omega) (by omega)
    have ih := mul_loop (L := L) (k := k) (l0 := l0) hm r (d ++ [scl m s]) (by simpa using h) (fun x hx => hs x (List.mem_cons_of_mem _ hx))
    simp only [List.length_append, List.length_cons] at h
    rw [r4_2, ctl_dec, if_pos (by simp; omega)]
    have c1 : (leB 0 (d.length : Int) && ltB (d.length : Int) ((shK (d ++ s :: r)).length : Int)) = true := by rw [shK_length]; simp; omega
    have o1 : okCs [Sh.int .i64] (List.take 1 (List.drop 2 (shC s))) = true := rfl
    simp only [c1, Int.toNat_natCast, nth_shs, o1, ctl_true]
    simp only [shC, bnd_some, ctl_true, ctl_false, ctl_and, ctl_or', ctl_or2, x_toPV, x_toCs, x_toCs2, x_toEs, x_bEs, x_bCs, x_aPV, x_aCs, x_int, x_bool, x_str, x_es, x_esn, nth_0, nth_1, nth_2, nth_3, nth_4, nth_5, nth_6, nth_7, nth_8, nth_9, y_nil, y_int, y_bool, y_str, y_sl, y_nils, y_agg, y_ownp, y_own, z_nil, z_int, z_bool, z_str, z_sl, z_nils, b_nil, b_arr, b_box1, b_box2, b_box3, b_box4, List.map_cons, List.map_nil, Bool.and_self, Bool.and_true, Bool.true_and, Bool.not_true, Bool.not_false, Bool.or_false, Bool.false_or, cond_true, cond_false, okPack, okPut, okPutBlks, okPutCells, q_isP, q_isAg, q_isBox, q_isArr, q_int, q_bool, q_str, q_sl, q_nils, e_exit, e_ret, e_nrm, e_ret_exit, e_exit_ret, e_nrm_exit, e_nrm_ret, e_exit_nrm, e_ret_nrm, Nat.zero_add, Nat.reduceAdd, noslR, noslP, noslB, noslA, List.all_cons, List.all_nil]
    rw [w64 (n := s.c * m) (by omega), w64 (n := (d.length : Int) + 1) (by omega), setEs_c]
    simp only [List.append_assoc, List.cons_append, List.nil_append, List.length_append, List.length_cons, List.length_nil] at ih
    simp only [List.length_append, List.length_cons]
    have e1 : ((d.length : Int) + 1) = ((d.length + (0 + 1) : Nat) : Int) := by omega
    have e2 : (⟨s.lo, s.hi, s.c * m⟩ : Shr) = scl m s := rfl
    rw [e1, e2, ih]

theorem cost_bound : ∀ {l : List Shr} {x : List Int}, (∀ s ∈ l, OkS s) → InR l x → 0 ≤ costS l x ∧ costS l x ≤ 2500000000 * (l.length : Int)
  | [], [], _, _ => by simp [costS]
  | s :: l, x :: xs, hs, h => by
    have h1 := sq_le (hs s (List.mem_cons_self ..)) h.1.1 h.1.2
    have ih := cost_bound (fun z hz => hs z (List.mem_cons_of_mem _ hz)) h.2
    simp only [costS, List.length_cons]
    omega
  | [], _ :: _, _, h => h.elim
  | _ :: _, [], _, h => h.elim

theorem inR_scl (k : Int) : ∀ {l : List Shr} {x : List Int}, InR l x → InR (l.map (scl k)) x
  | [], [], _ => trivial
  | s :: l, x :: xs, h => ⟨h.1, inR_scl k h.2⟩
  | [], _ :: _, h => h.elim
  | _ :: _, [], h => h.elim

theorem d_ShareScales (t : List Int) (_ : t.length ≤ maxLen) (_ : ∀ n ∈ t, -9223372036854775808 ≤ n ∧ n ≤ 9223372036854775807) :
    denC E 4 [AV.sl 1 (intsK .i64 t)] [] = some ([RV.p (PV.bool true)], []) := by
  rw [denC_eq, r4, c_New]
  have hL : (t.take 600).length ≤ 600 := by simp; omega
  generalize t.take 600 = L at hL
  have h0 : (0 : Nat) ≤ 600 := by omega
  simp only [bnd_some, ctl_true, ctl_false, ctl_and, ctl_or', ctl_or2, x_toPV, x_toCs, x_toCs2, x_toEs, x_bEs, x_bCs, x_aPV, x_aCs, x_int, x_bool, x_str, x_es, x_esn, nth_0, nth_1, nth_2, nth_3, nth_4, nth_5, nth_6, nth_7, nth_8, nth_9, y_nil, y_int, y_bool, y_str, y_sl, y_nils, y_agg, y_ownp, y_own, z_nil, z_int, z_bool, z_str, z_sl, z_nils, b_nil, b_arr, b_box1, b_box2, b_box3, b_box4, List.map_cons, List.map_nil, Bool.and_self, Bool.and_true, Bool.true_and, Bool.not_true, Bool.not_false, Bool.or_false, Bool.false_or, cond_true, cond_false, okPack, okPut, okPutBlks, okPutCells, q_isP, q_isAg, q_isBox, q_isArr, q_int, q_bool, q_str, q_sl, q_nils, e_exit, e_ret, e_nrm, e_ret_exit, e_exit_ret, e_nrm_exit, e_nrm_ret, e_exit_nrm, e_ret_nrm, Nat.zero_add, Nat.reduceAdd, noslR, noslP, noslB, noslA, List.all_cons, List.all_nil]
  rw [src_zero, c_Shares hL h0 (by decide)]
  obtain ⟨hok0, hsm0⟩ := shN_ok L 0 (most := 4) (by decide)
  have h84 : (shN L 0 4).length ≤ 4 := by
    have hb := vN_bounds (L := L) (k := 0) (n := 4 + 1) (by omega)
    unfold shN
    rw [sharesL_length]; omega
  have hat := shAt_le hL h0 4
  generalize shN L 0 4 = l0 at hok0 hsm0 h84
  generalize shAt L 0 4 = k at hat
  simp only [bnd_some, ctl_true, ctl_false, ctl_and, ctl_or', ctl_or2, x_toPV, x_toCs, x_toCs2, x_toEs, x_bEs, x_bCs, x_aPV, x_aCs, x_int, x_bool, x_str, x_es, x_esn, nth_0, nth_1, nth_2, nth_3, nth_4, nth_5, nth_6, nth_7, nth_8, nth_9, y_nil, y_int, y_bool, y_str, y_sl, y_nils, y_agg, y_ownp, y_own, z_nil, z_int, z_bool, z_str, z_sl, z_nils, b_nil, b_arr, b_box1, b_box2, b_box3, b_box4, List.map_cons, List.map_nil, Bool.and_self, Bool.and_true, Bool.true_and, Bool.not_true, Bool.not_false, Bool.or_false, Bool.false_or, cond_true, cond_false, okPack, okPut, okPutBlks, okPutCells, q_isP, q_isAg, q_isBox, q_isArr, q_int, q_bool, q_str, q_sl, q_nils, e_exit, e_ret, e_nrm, e_ret_exit, e_exit_ret, e_nrm_exit, e_nrm_ret, e_exit_nrm, e_ret_nrm, Nat.zero_add, Nat.reduceAdd, noslR, noslP, noslB, noslA, List.all_cons, List.all_nil]
  have e1 := cut_loop (L := L) (k := k) l0 [] (by simpa using hok0.1) hok0.2
  simp only [List.nil_append, List.length_nil] at e1
  have z0 : (((0 : Nat)) : Int) = 0 := rfl
  rw [z0] at e1
  rw [shK_length, e1]
  have hl4 : (l0.map cut20).length ≤ 4 := by simpa using h84
  have hsm : ∀ s ∈ l0.map cut20, OkS s ∧ -9 ≤ s.lo ∧ s.hi ≤ 16 ∧ s.c ≤ 20 := by
    intro s hs
    obtain ⟨u, hu, rfl⟩ := List.mem_map.1 hs
    have h1 := hsm0 u hu
    have h2 := h1.1
    unfold OkS at h2
    have hm : 0 ≤ u.c.tmod 20 ∧ u.c.tmod 20 ≤ 19 := by rw [Int.tmod_eq_emod_of_nonneg (by omega)]; omega
    unfold OkS cut20
    simp only
    omega
  have hok : OkL (l0.map cut20) := ⟨by omega, fun s hs => (hsm s hs).1⟩
  generalize l0.map cut20 = l at *
  have hlen : (leN (l.length * 24) 140737488355328) = true := by simp; omega
  have hlen1 : (leN ((l.length + 1) * 24) 140737488355328) = true := by simp; omega
  simp only [bnd_some, ctl_true, ctl_false, ctl_and, ctl_or', ctl_or2, x_toPV, x_toCs, x_toCs2, x_toEs, x_bEs, x_bCs, x_aPV, x_aCs, x_int, x_bool, x_str, x_es, x_esn, nth_0, nth_1, nth_2, nth_3, nth_4, nth_5, nth_6, nth_7, nth_8, nth_9, y_nil, y_int, y_bool, y_str, y_sl, y_nils, y_agg, y_ownp, y_own, z_nil, z_int, z_bool, z_str, z_sl, z_nils, b_nil, b_arr, b_box1, b_box2, b_box3, b_box4, List.map_cons, List.map_nil, Bool.and_self, Bool.and_true, Bool.true_and, Bool.not_true, Bool.not_false, Bool.or_false, Bool.false_or, cond_true, cond_false, okPack, okPut, okPutBlks, okPutCells, q_isP, q_isAg, q_isBox, q_isArr, q_int, q_bool, q_str, q_sl, q_nils, e_exit, e_ret, e_nrm, e_ret_exit, e_exit_ret, e_nrm_exit, e_nrm_ret, e_exit_nrm, e_ret_nrm, Nat.zero_add, Nat.reduceAdd, noslR, noslP, noslB, noslA, List.all_cons, List.all_nil, shK_length, hlen]
  rw [c_Range hL hat (lo := 1) (hi := 4) (by decide)]
  have hat1 := at'_le hL hat
  have hm := vRange_bounds (L := L) (k := k) (lo := 1) (hi := 4) (by omega)
  generalize vRange L k 1 4 = m at hm
  simp only [bnd_some, ctl_true, ctl_false, ctl_and, ctl_or', ctl_or2, x_toPV, x_toCs, x_toCs2, x_toEs, x_bEs, x_bCs, x_aPV, x_aCs, x_int, x_bool, x_str, x_es, x_esn, nth_0, nth_1, nth_2, nth_3, nth_4, nth_5, nth_6, nth_7, nth_8, nth_9, y_nil, y_int, y_bool, y_str, y_sl, y_nils, y_agg, y_ownp, y_own, z_nil, z_int, z_bool, z_str, z_sl, z_nils, b_nil, b_arr, b_box1, b_box2, b_box3, b_box4, List.map_cons, List.map_nil, Bool.and_self, Bool.and_true, Bool.true_and, Bool.not_true, Bool.not_false, Bool.or_false, Bool.false_or, cond_true, cond_false, okPack, okPut, okPutBlks, okPutCells, q_isP, q_isAg, q_isBox, q_isArr, q_int, q_bool, q_str, q_sl, q_nils, e_exit, e_ret, e_nrm, e_ret_exit, e_exit_ret, e_nrm_exit, e_nrm_ret, e_exit_nrm, e_ret_nrm, Nat.zero_add, Nat.reduceAdd, noslR, noslP, noslB, noslA, List.all_cons, List.all_nil, shK_length]
  have e2 := mul_loop (L := L) (k := at' L k) (l0 := shK l) hm l [] (by simpa using hok.1) hok.2
  simp only [List.nil_append, List.length_nil] at e2
  rw [z0] at e2
  rw [e2]
  simp only [bnd_some, ctl_true, ctl_false, ctl_and, ctl_or', ctl_or2, x_toPV, x_toCs, x_toCs2, x_toEs, x_bEs, x_bCs, x_aPV, x_aCs, x_int, x_bool, x_str, x_es, x_esn, nth_0, nth_1, nth_2, nth_3, nth_4, nth_5, nth_6, nth_7, nth_8, nth_9, y_nil, y_int, y_bool, y_str, y_sl, y_nils, y_agg, y_ownp, y_own, z_nil, z_int, z_bool, z_str, z_sl, z_nils, b_nil, b_arr, b_box1, b_box2, b_box3, b_box4, List.map_cons, List.map_nil, Bool.and_self, Bool.and_true, Bool.true_and, Bool.not_true, Bool.not_false, Bool.or_false, Bool.false_or, cond_true, cond_false, okPack, okPut, okPutBlks, okPutCells, q_isP, q_isAg, q_isBox, q_isArr, q_int, q_bool, q_str, q_sl, q_nils, e_exit, e_ret, e_nrm, e_ret_exit, e_exit_ret, e_nrm_exit, e_nrm_ret, e_exit_nrm, e_ret_nrm, Nat.zero_add, Nat.reduceAdd, noslR, noslP, noslB, noslA, List.all_cons, List.all_nil]
  rw [c_Range hL hat1 (lo := -20) (hi := 30) (by decide)]
  have hat2 := at'_le hL hat1
  have ht := vRange_bounds (L := L) (k := at' L k) (lo := -20) (hi := 30) (by omega)
  generalize vRange L (at' L k) (-20) 30 = total at ht
  simp only [bnd_some, ctl_true, ctl_false, ctl_and, ctl_or', ctl_or2, x_toPV, x_toCs, x_toCs2, x_toEs, x_bEs, x_bCs, x_aPV, x_aCs, x_int, x_bool, x_str, x_es, x_esn, nth_0, nth_1, nth_2, nth_3, nth_4, nth_5, nth_6, nth_7, nth_8, nth_9, y_nil, y_int, y_bool, y_str, y_sl, y_nils, y_agg, y_ownp, y_own, z_nil, z_int, z_bool, z_str, z_sl, z_nils, b_nil, b_arr, b_box1, b_box2, b_box3, b_box4, List.map_cons, List.map_nil, Bool.and_self, Bool.and_true, Bool.true_and, Bool.not_true, Bool.not_false, Bool.or_false, Bool.false_or, cond_true, cond_false, okPack, okPut, okPutBlks, okPutCells, q_isP, q_isAg, q_isBox, q_isArr, q_int, q_bool, q_str, q_sl, q_nils, e_exit, e_ret, e_nrm, e_ret_exit, e_exit_ret, e_nrm_exit, e_nrm_ret, e_exit_nrm, e_ret_nrm, Nat.zero_add, Nat.reduceAdd, noslR, noslP, noslB, noslA, List.all_cons, List.all_nil]
  have hok2 : OkL (l.map (scl m)) := by
    refine ⟨by simpa using hok.1, fun s hs => ?_⟩
    obtain ⟨u, hu, rfl⟩ := List.mem_map.1 hs
    have h1 := (hsm u hu)
    have h2 := h1.1
    unfold OkS at h2
    have hb := mul_le (a := u.c) (b := m) (m := 20) (n := 4) (by omega) (by omega)
    have hb2 : 1 * 1 ≤ u.c * m := Int.mul_le_mul (by omega) (by omega) (by omega) (by omega)
    unfold OkS scl
    simp only
    omega
  obtain ⟨r, hr, d1⟩ := c_Divide hok (total := total) (by omega)
  obtain ⟨r', hr', d2⟩ := c_Divide hok2 (total := total) (by omega)
  have he := ends_in hok.2
  have hT := clamp_in (x := total) he.2.1
  rw [(lows_scl m l).1, (lows_scl m l).2] at hr' d2
  rw [scl_div hm hsm hok hok2 hT hr hr'] at d2
  rw [d1]
  simp only [bnd_some, ctl_true, ctl_false, ctl_and, ctl_or', ctl_or2, x_toPV, x_toCs, x_toCs2, x_toEs, x_bEs, x_bCs, x_aPV, x_aCs, x_int, x_bool, x_str, x_es, x_esn, nth_0, nth_1, nth_2, nth_3, nth_4, nth_5, nth_6, nth_7, nth_8, nth_9, y_nil, y_int, y_bool, y_str, y_sl, y_nils, y_agg, y_ownp, y_own, z_nil, z_int, z_bool, z_str, z_sl, z_nils, b_nil, b_arr, b_box1, b_box2, b_box3, b_box4, List.map_cons, List.map_nil, Bool.and_self, Bool.and_true, Bool.true_and, Bool.not_true, Bool.not_false, Bool.or_false, Bool.false_or, cond_true, cond_false, okPack, okPut, okPutBlks, okPutCells, q_isP, q_isAg, q_isBox, q_isArr, q_int, q_bool, q_str, q_sl, q_nils, e_exit, e_ret, e_nrm, e_ret_exit, e_exit_ret, e_nrm_exit, e_nrm_ret, e_exit_nrm, e_ret_nrm, Nat.zero_add, Nat.reduceAdd, noslR, noslP, noslB, noslA, List.all_cons, List.all_nil, nos_ints]
  rw [d2]
  simp only [bnd_some, ctl_true, ctl_false, ctl_and, ctl_or', ctl_or2, x_toPV, x_toCs, x_toCs2, x_toEs, x_bEs, x_bCs, x_aPV, x_aCs, x_int, x_bool, x_str, x_es, x_esn, nth_0, nth_1, nth_2, nth_3, nth_4, nth_5, nth_6, nth_7, nth_8, nth_9, y_nil, y_int, y_bool, y_str, y_sl, y_nils, y_agg, y_ownp, y_own, z_nil, z_int, z_bool, z_str, z_sl, z_nils, b_nil, b_arr, b_box1, b_box2, b_box3, b_box4, List.map_cons, List.map_nil, Bool.and_self, Bool.and_true, Bool.true_and, Bool.not_true, Bool.not_false, Bool.or_false, Bool.false_or, cond_true, cond_false, okPack, okPut, okPutBlks, okPutCells, q_isP, q_isAg, q_isBox, q_isArr, q_int, q_bool, q_str, q_sl, q_nils, e_exit, e_ret, e_nrm, e_ret_exit, e_exit_ret, e_nrm_exit, e_nrm_ret, e_exit_nrm, e_ret_nrm, Nat.zero_add, Nat.reduceAdd, noslR, noslP, noslB, noslA, List.all_cons, List.all_nil, nos_ints]
  rw [c_Range hL hat2 (lo := -5) (hi := 5) (by decide)]
  have hc := vRange_bounds (L := L) (k := at' L (at' L k)) (lo := -5) (hi := 5) (by omega)
  generalize vRange L (at' L (at' L k)) (-5) 5 = c at hc
  have hok3 : OkL (l ++ [⟨c, c, 3⟩]) := by
    refine ⟨by simp; omega, fun s hs => ?_⟩
    rcases List.mem_append.1 hs with hs | hs
    · exact hok.2 s hs
    · simp only [List.mem_cons, List.not_mem_nil, or_false] at hs
      subst hs
      unfold OkS
      simp only
      omega
  obtain ⟨r3, hr3, d3⟩ := c_Divide hok3 (total := total + c) (by omega)
  have hcl : clamp (total + c) (lows (l ++ [⟨c, c, 3⟩])) (highs (l ++ [⟨c, c, 3⟩])) = clamp total (lows l) (highs l) + c := by
    rw [(ends_app c l).1, (ends_app c l).2, clamp_eq, clamp_eq]
    split <;> split <;> split <;> (try split) <;> omega
  rw [hcl] at hr3 d3
  rw [app_div hsm hok hok3 hT hr hr3] at d3
  have hx := (divL_up hok hT hT (Int.le_refl _) hr hr).left
  have hlx := divL_length hok (clamp total (lows l) (highs l)) r
  have hcb := cost_bound hok.2 hx
  generalize divL l (clamp total (lows l) (highs l)) r = x at *
  generalize clamp total (lows l) (highs l) = T at *
  have s3 : shK l ++ [[PV.int .i64 c, PV.int .i64 c, PV.int .i64 3]] = shK (l ++ [⟨c, c, 3⟩]) := by simp [shK, shC]
  have tc : total + c - (T + c) = total - T := by omega
  rw [tc] at d3
  have z : ((0 : Int) != 0) = false := rfl
  have z1 : ((0 : Int) == 0) = true := rfl
  simp only [bnd_some, ctl_true, ctl_false, ctl_and, ctl_or', ctl_or2, x_toPV, x_toCs, x_toCs2, x_toEs, x_bEs, x_bCs, x_aPV, x_aCs, x_int, x_bool, x_str, x_es, x_esn, nth_0, nth_1, nth_2, nth_3, nth_4, nth_5, nth_6, nth_7, nth_8, nth_9, y_nil, y_int, y_bool, y_str, y_sl, y_nils, y_agg, y_ownp, y_own, z_nil, z_int, z_bool, z_str, z_sl, z_nils, b_nil, b_arr, b_box1, b_box2, b_box3, b_box4, List.map_cons, List.map_nil, Bool.and_self, Bool.and_true, Bool.true_and, Bool.not_true, Bool.not_false, Bool.or_false, Bool.false_or, cond_true, cond_false, okPack, okPut, okPutBlks, okPutCells, q_isP, q_isAg, q_isBox, q_isArr, q_int, q_bool, q_str, q_sl, q_nils, e_exit, e_ret, e_nrm, e_ret_exit, e_exit_ret, e_nrm_exit, e_nrm_ret, e_exit_nrm, e_ret_nrm, Nat.zero_add, Nat.reduceAdd, noslR, noslP, noslB, noslA, List.all_cons, List.all_nil, shK_length, hlen, hlen1]
  rw [s3, w64 (n := total + c) (by omega), d3]
  have q1 : ((intsK .i64 (x ++ [c])).length : Int) = (l.length : Int) + 1 := by rw [intsK_length]; simp [hlx]
  have q2 : nth [] (intsK .i64 (x ++ [c])) ((l.length : Int)).toNat = [PV.int .i64 c] := by
    rw [Int.toNat_natCast, ← hlx]; exact nth_mid x c []
  have q3 : okCs [Sh.int .i64] (List.take 1 (List.drop 0 [PV.int .i64 c])) = true := rfl
  have q4 : ltB (l.length : Int) ((l.length : Int) + 1) = true := by simp; omega
  have q5 : leB (l.length : Int) ((l.length : Int) + 1) = true := by simp; omega
  have q6 : cutI (intsK .i64 (x ++ [c])) 0 (l.length : Int) = intsK .i64 x := by
    unfold cutI
    rw [Int.toNat_natCast, ← hlx]
    simp [intsK]
  have q7 : leB 0 (l.length : Int) = true := by simp
  have hlx8 : x.length ≤ 8 := by omega
  simp only [bnd_some, ctl_true, ctl_false, ctl_and, ctl_or', ctl_or2, x_toPV, x_toCs, x_toCs2, x_toEs, x_bEs, x_bCs, x_aPV, x_aCs, x_int, x_bool, x_str, x_es, x_esn, nth_0, nth_1, nth_2, nth_3, nth_4, nth_5, nth_6, nth_7, nth_8, nth_9, y_nil, y_int, y_bool, y_str, y_sl, y_nils, y_agg, y_ownp, y_own, z_nil, z_int, z_bool, z_str, z_sl, z_nils, b_nil, b_arr, b_box1, b_box2, b_box3, b_box4, List.map_cons, List.map_nil, Bool.and_self, Bool.and_true, Bool.true_and, Bool.not_true, Bool.not_false, Bool.or_false, Bool.false_or, cond_true, cond_false, okPack, okPut, okPutBlks, okPutCells, q_isP, q_isAg, q_isBox, q_isArr, q_int, q_bool, q_str, q_sl, q_nils, e_exit, e_ret, e_nrm, e_ret_exit, e_exit_ret, e_nrm_exit, e_nrm_ret, e_exit_nrm, e_ret_nrm, Nat.zero_add, Nat.reduceAdd, noslR, noslP, noslB, noslA, List.all_cons, List.all_nil, nos_ints, z, q1]
  rw [w64 (n := (l.length : Int) + 1) (by omega), c_Ints x x (by omega)]
  simp only [bnd_some, ctl_true, ctl_false, ctl_and, ctl_or', ctl_or2, x_toPV, x_toCs, x_toCs2, x_toEs, x_bEs, x_bCs, x_aPV, x_aCs, x_int, x_bool, x_str, x_es, x_esn, nth_0, nth_1, nth_2, nth_3, nth_4, nth_5, nth_6, nth_7, nth_8, nth_9, y_nil, y_int, y_bool, y_str, y_sl, y_nils, y_agg, y_ownp, y_own, z_nil, z_int, z_bool, z_str, z_sl, z_nils, b_nil, b_arr, b_box1, b_box2, b_box3, b_box4, List.map_cons, List.map_nil, Bool.and_self, Bool.and_true, Bool.true_and, Bool.not_true, Bool.not_false, Bool.or_false, Bool.false_or, cond_true, cond_false, okPack, okPut, okPutBlks, okPutCells, q_isP, q_isAg, q_isBox, q_isArr, q_int, q_bool, q_str, q_sl, q_nils, e_exit, e_ret, e_nrm, e_ret_exit, e_exit_ret, e_nrm_exit, e_nrm_ret, e_exit_nrm, e_ret_nrm, Nat.zero_add, Nat.reduceAdd, noslR, noslP, noslB, noslA, List.all_cons, List.all_nil, bne_self_eq_false, decide_true, q2, q3, q4, q5, q6, q7]
  rw [c_Ints x x (by omega)]
  simp only [bnd_some, ctl_true, ctl_false, ctl_and, ctl_or', ctl_or2, x_toPV, x_toCs, x_toCs2, x_toEs, x_bEs, x_bCs, x_aPV, x_aCs, x_int, x_bool, x_str, x_es, x_esn, nth_0, nth_1, nth_2, nth_3, nth_4, nth_5, nth_6, nth_7, nth_8, nth_9, y_nil, y_int, y_bool, y_str, y_sl, y_nils, y_agg, y_ownp, y_own, z_nil, z_int, z_bool, z_str, z_sl, z_nils, b_nil, b_arr, b_box1, b_box2, b_box3, b_box4, List.map_cons, List.map_nil, Bool.and_self, Bool.and_true, Bool.true_and, Bool.not_true, Bool.not_false, Bool.or_false, Bool.false_or, cond_true, cond_false, okPack, okPut, okPutBlks, okPutCells, q_isP, q_isAg, q_isBox, q_isArr, q_int, q_bool, q_str, q_sl, q_nils, e_exit, e_ret, e_nrm, e_ret_exit, e_exit_ret, e_nrm_exit, e_nrm_ret, e_exit_nrm, e_ret_nrm, Nat.zero_add, Nat.reduceAdd, noslR, noslP, noslB, noslA, List.all_cons, List.all_nil, decide_true]
  rw [c_Sum hok hx]
  simp only [bnd_some, ctl_true, ctl_false, ctl_and, ctl_or', ctl_or2, x_toPV, x_toCs, x_toCs2, x_toEs, x_bEs, x_bCs, x_aPV, x_aCs, x_int, x_bool, x_str, x_es, x_esn, nth_0, nth_1, nth_2, nth_3, nth_4, nth_5, nth_6, nth_7, nth_8, nth_9, y_nil, y_int, y_bool, y_str, y_sl, y_nils, y_agg, y_ownp, y_own, z_nil, z_int, z_bool, z_str, z_sl, z_nils, b_nil, b_arr, b_box1, b_box2, b_box3, b_box4, List.map_cons, List.map_nil, Bool.and_self, Bool.and_true, Bool.true_and, Bool.not_true, Bool.not_false, Bool.or_false, Bool.false_or, cond_true, cond_false, okPack, okPut, okPutBlks, okPutCells, q_isP, q_isAg, q_isBox, q_isArr, q_int, q_bool, q_str, q_sl, q_nils, e_exit, e_ret, e_nrm, e_ret_exit, e_exit_ret, e_nrm_exit, e_nrm_ret, e_exit_nrm, e_ret_nrm, Nat.zero_add, Nat.reduceAdd, noslR, noslP, noslB, noslA, List.all_cons, List.all_nil]
  rw [c_Sum hok2 (inR_scl m hx), cost_scl]
  have hb3 : 0 ≤ m * costS l x ∧ m * costS l x ≤ 4 * 20000000000 := by
    refine ⟨Int.mul_nonneg (by omega) hcb.1, Int.mul_le_mul (by omega) (by omega) hcb.1 (by omega)⟩
  simp only [bnd_some, ctl_true, ctl_false, ctl_and, ctl_or', ctl_or2, x_toPV, x_toCs, x_toCs2, x_toEs, x_bEs, x_bCs, x_aPV, x_aCs, x_int, x_bool, x_str, x_es, x_esn, nth_0, nth_1, nth_2, nth_3, nth_4, nth_5, nth_6, nth_7, nth_8, nth_9, y_nil, y_int, y_bool, y_str, y_sl, y_nils, y_agg, y_ownp, y_own, z_nil, z_int, z_bool, z_str, z_sl, z_nils, b_nil, b_arr, b_box1, b_box2, b_box3, b_box4, List.map_cons, List.map_nil, Bool.and_self, Bool.and_true, Bool.true_and, Bool.not_true, Bool.not_false, Bool.or_false, Bool.false_or, cond_true, cond_false, okPack, okPut, okPutBlks, okPutCells, q_isP, q_isAg, q_isBox, q_isArr, q_int, q_bool, q_str, q_sl, q_nils, e_exit, e_ret, e_nrm, e_ret_exit, e_exit_ret, e_nrm_exit, e_nrm_ret, e_exit_nrm, e_ret_nrm, Nat.zero_add, Nat.reduceAdd, noslR, noslP, noslB, noslA, List.all_cons, List.all_nil, z1]
  rw [w64 (n := m * costS l x) (by omega)]
  simp only [bnd_some, ctl_true, ctl_false, ctl_and, ctl_or', ctl_or2, x_toPV, x_toCs, x_toCs2, x_toEs, x_bEs, x_bCs, x_aPV, x_aCs, x_int, x_bool, x_str, x_es, x_esn, nth_0, nth_1, nth_2, nth_3, nth_4, nth_5, nth_6, nth_7, nth_8, nth_9, y_nil, y_int, y_bool, y_str, y_sl, y_nils, y_agg, y_ownp, y_own, z_nil, z_int, z_bool, z_str, z_sl, z_nils, b_nil, b_arr, b_box1, b_box2, b_box3, b_box4, List.map_cons, List.map_nil, Bool.and_self, Bool.and_true, Bool.true_and, Bool.not_true, Bool.not_false, Bool.or_false, Bool.false_or, cond_true, cond_false, okPack, okPut, okPutBlks, okPutCells, q_isP, q_isAg, q_isBox, q_isArr, q_int, q_bool, q_str, q_sl, q_nils, e_exit, e_ret, e_nrm, e_ret_exit, e_exit_ret, e_nrm_exit, e_nrm_ret, e_exit_nrm, e_ret_nrm, Nat.zero_add, Nat.reduceAdd, noslR, noslP, noslB, noslA, List.all_cons, List.all_nil, beq_self_eq_true, c_sane]

end Go.Proofs.Ytbacfgghneknjaa.Vm
