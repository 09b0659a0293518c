/- The law ShareRanges comes to true (variant B of ShareD and ShareS). -/
import Derived.Test.YtbacfgghneknjaaShareQ
import Derived.Test.YtbacfgghneknjaaRawX
namespace Go.Proofs.Ytbacfgghneknjaa.Vm
set_option linter.unusedVariables false
set_option linter.unusedSimpArgs false

theorem setEs_lo (d r : List Shr) (s : Shr) (v : Int) : setEs (shK (d ++ s :: r)) d.length 0 [PV.int .i64 v] = shK (d ++ ⟨v, s.hi, s.c⟩ :: r) := by
  unfold setEs shK
  rw [upd_eq, nth_eq]
  simp [List.getD, shC, lay, lay.go, List.set_append]
theorem setEs_hi (d r : List Shr) (s : Shr) (v : Int) : setEs (shK (d ++ s :: r)) d.length 1 [PV.int .i64 v] = shK (d ++ ⟨s.lo, v, s.c⟩ :: r) := by
  unfold setEs shK
  rw [upd_eq, nth_eq]
  simp [List.getD, shC, lay, lay.go, List.set_append]
theorem nth_shs (d r : List Shr) (s : Shr) : nth [] (shK (d ++ s :: r)) d.length = shC s := by
  rw [nth_eq]
  simp [shK, List.getD]

/-- The second is as wide, or wider. -/
def W (s w : Shr) : Prop := w.lo ≤ s.lo ∧ s.hi ≤ w.hi ∧ w.c = s.c ∧ s.lo - 4 ≤ w.lo ∧ w.hi ≤ s.hi + 4
def Ws : List Shr → List Shr → Prop
  | [], [] => True
  | s :: l, w :: m => W s w ∧ Ws l m
  | _, _ => False

theorem wide_loop {L : List Int} (hL : L.length ≤ 600) {l0 : List (List PV)} {total : Int} : ∀ (r d : List Shr) (k : Nat), k ≤ 600 → (d ++ r).length ≤ 8 → (∀ s ∈ r, OkS s ∧ -9 ≤ s.lo ∧ s.hi ≤ 16) →
    ∃ w, Ws r w ∧ lp E (denC E) 5 0 [] 0 { vals := [AV.sl 3 l0, AV.int .i64 total, AV.int .i64 ((d ++ r).length : Int), AV.int .i64 (d.length : Int)], blks := [src L k, Blk.arr 3 (shK (d ++ r))] } =
      some (Ex.exit 0, { vals := [AV.sl 3 l0, AV.int .i64 total], blks := [Blk.arr 3 (shK (d ++ w))] })
  | [], d, k, hk, h, hs => by
    refine ⟨[], trivial, ?_⟩
    rw [r5_0, ctl_dec, if_neg (by simp)]
  | s :: r, d, k, hk, h, hs => by
    have hk1 := at'_le hL hk
    have h1 := hs s (List.mem_cons_self ..)
    have h1' := h1
    unfold OkS at h1'
    have b1 := vN_bounds (L := L) (k := k) (n := 4) (by omega)
    have b2 := vN_bounds (L := L) (k := at' L k) (n := 4) (by omega)
    obtain ⟨w, hw, ih⟩ := wide_loop hL (l0 := l0) (total := total) r (d ++ [⟨s.lo - vN L k 4, s.hi + vN L (at' L k) 4, s.c⟩]) (at' L (at' L k)) (at'_le hL hk1) (by simpa using h) (fun x hx => hs x (List.mem_cons_of_mem _ hx))
    refine ⟨⟨s.lo - vN L k 4, s.hi + vN L (at' L k) 4, s.c⟩ :: w, ⟨⟨by simp only; omega, by simp only; omega, rfl, by simp only; omega, by simp only; omega⟩, hw⟩, ?_⟩
    simp only [List.length_append, List.length_cons] at h
    rw [r5_0, ctl_dec, if_pos (by simp; omega)]
    have c1 : (leB 0 (d.length : Int) && ltB (d.length : Int) ((shK (d ++ s :: r)).length : Int)) = true := by rw [shK_length]; simp; omega
    have c2 : ∀ v : Int, (leB 0 (d.length : Int) && ltB (d.length : Int) ((shK (d ++ ⟨v, s.hi, s.c⟩ :: r)).length : Int)) = true := by intro v; rw [shK_length]; simp; omega
    have o1 : okCs [Sh.int .i64] (List.take 1 (List.drop 0 (shC s))) = true := rfl
    have o2 : okCs [Sh.int .i64] (List.take 1 (List.drop 1 (shC s))) = true := rfl
    simp only [c1, Int.toNat_natCast, nth_shs, o1, o2, ctl_true]
    rw [c_N hL hk 4 (by decide)]
    simp only [bnd_some, ctl_true, ctl_false, ctl_and, ctl_or', ctl_or2, x_toPV, x_toCs, x_toCs2, x_toEs, x_bEs, x_bCs, x_aPV, x_aCs, x_int, x_bool, x_str, x_es, x_esn, nth_0, nth_1, nth_2, nth_3, nth_4, nth_5, nth_6, nth_7, nth_8, nth_9, y_nil, y_int, y_bool, y_str, y_sl, y_nils, y_agg, y_ownp, y_own, z_nil, z_int, z_bool, z_str, z_sl, z_nils, b_nil, b_arr, b_box1, b_box2, b_box3, b_box4, List.map_cons, List.map_nil, Bool.and_self, Bool.and_true, Bool.true_and, Bool.not_true, Bool.not_false, Bool.or_false, Bool.false_or, cond_true, cond_false, okPack, okPut, okPutBlks, okPutCells, q_isP, q_isAg, q_isBox, q_isArr, q_int, q_bool, q_str, q_sl, q_nils, e_exit, e_ret, e_nrm, e_ret_exit, e_exit_ret, e_nrm_exit, e_nrm_ret, e_exit_nrm, e_ret_nrm, Nat.zero_add, Nat.reduceAdd, noslR, noslP, noslB, noslA, List.all_cons, List.all_nil]
    rw [c_N hL hk1 4 (by decide)]
    simp only [shC, bnd_some, ctl_true, ctl_false, ctl_and, ctl_or', ctl_or2, x_toPV, x_toCs, x_toCs2, x_toEs, x_bEs, x_bCs, x_aPV, x_aCs, x_int, x_bool, x_str, x_es, x_esn, nth_0, nth_1, nth_2, nth_3, nth_4, nth_5, nth_6, nth_7, nth_8, nth_9, y_nil, y_int, y_bool, y_str, y_sl, y_nils, y_agg, y_ownp, y_own, z_nil, z_int, z_bool, z_str, z_sl, z_nils, b_nil, b_arr, b_box1, b_box2, b_box3, b_box4, List.map_cons, List.map_nil, Bool.and_self, Bool.and_true, Bool.true_and, Bool.not_true, Bool.not_false, Bool.or_false, Bool.false_or, cond_true, cond_false, okPack, okPut, okPutBlks, okPutCells, q_isP, q_isAg, q_isBox, q_isArr, q_int, q_bool, q_str, q_sl, q_nils, e_exit, e_ret, e_nrm, e_ret_exit, e_exit_ret, e_nrm_exit, e_nrm_ret, e_exit_nrm, e_ret_nrm, Nat.zero_add, Nat.reduceAdd, noslR, noslP, noslB, noslA, List.all_cons, List.all_nil]
    rw [w64 (n := s.lo - vN L k 4) (by omega), w64 (n := s.hi + vN L (at' L k) 4) (by omega), w64 (n := (d.length : Int) + 1) (by omega)]
    simp only [setEs_lo, c2, ctl_true, setEs_hi]
    simp only [List.append_assoc, List.cons_append, List.nil_append, List.length_append, List.length_cons, List.length_nil] at ih
    simp only [List.length_append, List.length_cons]
    have e1 : ((d.length : Int) + 1) = ((d.length + (0 + 1) : Nat) : Int) := by omega
    rw [e1, ih]

theorem Ws.facts : ∀ {l w : List Shr}, Ws l w → (∀ s ∈ l, OkS s ∧ -9 ≤ s.lo ∧ s.hi ≤ 16) → w.length = l.length ∧ (∀ s ∈ w, OkS s) ∧ lows w ≤ lows l ∧ highs l ≤ highs w
  | [], [], _, _ => ⟨rfl, (fun s hs => by cases hs), Int.le_refl _, Int.le_refl _⟩
  | s :: l, w :: m, h, hs => by
    obtain ⟨f1, f2, f3, f4⟩ := h.2.facts (fun x hx => hs x (List.mem_cons_of_mem _ hx))
    have h1 := hs s (List.mem_cons_self ..)
    have h2 := h.1
    unfold OkS at h1
    unfold W at h2
    refine ⟨by simp [f1], fun x hx => ?_, by simp only [lows]; omega, by simp only [highs]; omega⟩
    rcases List.mem_cons.1 hx with rfl | hx
    · unfold OkS; omega
    · exact f2 x hx
  | [], _ :: _, h, _ => h.elim
  | _ :: _, [], h, _ => h.elim

theorem Ws.inR : ∀ {l w : List Shr} {x : List Int}, Ws l w → InR l x → InR w x ∧ costS w x = costS l x
  | [], [], [], _, _ => ⟨trivial, rfl⟩
  | s :: l, w :: m, x :: xs, h, hx => by
    obtain ⟨f1, f2⟩ := h.2.inR hx.2
    have h1 := hx.1
    have h2 := h.1
    unfold W at h2
    refine ⟨⟨by omega, f1⟩, ?_⟩
    simp only [costS, f2, h2.2.2.1]
  | [], _ :: _, _, h, _ => h.elim
  | _ :: _, [], _, h, _ => h.elim
  | [], [], _ :: _, _, h => h.elim
  | _ :: _, _ :: _, [], _, h => h.elim

theorem clamp_id {x lo hi : Int} (h : lo ≤ x ∧ x ≤ hi) : clamp x lo hi = x := by
  rw [clamp_eq]; split <;> split <;> omega

theorem c_RClamp {x lo hi : Int} (h : lo ≤ hi) : denC E 19 [AV.int .i64 x, AV.int .i64 lo, AV.int .i64 hi] [] = some ([RV.p (PV.int .i64 (clamp x lo hi))], []) := by
  rw [denC_eq, r19]
  have k : ltB hi lo = false := by simp; omega
  simp only [bnd_some, ctl_true, ctl_false, ctl_and, ctl_or', ctl_or2, x_toPV, x_toCs, x_toCs2, x_toEs, x_bEs, x_bCs, x_aPV, x_aCs, x_int, x_bool, x_str, x_es, x_esn, nth_0, nth_1, nth_2, nth_3, nth_4, nth_5, nth_6, nth_7, nth_8, nth_9, y_nil, y_int, y_bool, y_str, y_sl, y_nils, y_agg, y_ownp, y_own, z_nil, z_int, z_bool, z_str, z_sl, z_nils, b_nil, b_arr, b_box1, b_box2, b_box3, b_box4, List.map_cons, List.map_nil, Bool.and_self, Bool.and_true, Bool.true_and, Bool.not_true, Bool.not_false, Bool.or_false, Bool.false_or, cond_true, cond_false, okPack, okPut, okPutBlks, okPutCells, q_isP, q_isAg, q_isBox, q_isArr, q_int, q_bool, q_str, q_sl, q_nils, e_exit, e_ret, e_nrm, e_ret_exit, e_exit_ret, e_nrm_exit, e_nrm_ret, e_exit_nrm, e_ret_nrm, Nat.zero_add, Nat.reduceAdd, noslR, noslP, noslB, noslA, List.all_cons, List.all_nil, k]
  rw [ctl_dec, ctl_dec]
  by_cases h1 : x < lo
  · have e : clamp x lo hi = lo := by rw [clamp_eq]; split <;> split <;> omega
    rw [if_pos h1, e]
  · rw [if_neg h1]
    by_cases h2 : hi < x
    · have e : clamp x lo hi = hi := by rw [clamp_eq]; split <;> split <;> omega
      rw [if_pos h2, e]
    · rw [if_neg h2, clamp_id (by omega)]

theorem d_ShareRanges (t : List Int) (_ : t.length ≤ maxLen) (_ : ∀ n ∈ t, -9223372036854775808 ≤ n ∧ n ≤ 9223372036854775807) :
    denC E 5 [AV.sl 1 (intsK .i64 t)] [] = some ([RV.p (PV.bool true)], []) := by
  rw [denC_eq, r5, c_New]
  have hL : (t.take 600).length ≤ 600 := by simp; omega
  generalize t.take 600 = L at hL
  have h0 : (0 : Nat) ≤ 600 := by omega
  simp only [bnd_some, ctl_true, ctl_false, ctl_and, ctl_or', ctl_or2, x_toPV, x_toCs, x_toCs2, x_toEs, x_bEs, x_bCs, x_aPV, x_aCs, x_int, x_bool, x_str, x_es, x_esn, nth_0, nth_1, nth_2, nth_3, nth_4, nth_5, nth_6, nth_7, nth_8, nth_9, y_nil, y_int, y_bool, y_str, y_sl, y_nils, y_agg, y_ownp, y_own, z_nil, z_int, z_bool, z_str, z_sl, z_nils, b_nil, b_arr, b_box1, b_box2, b_box3, b_box4, List.map_cons, List.map_nil, Bool.and_self, Bool.and_true, Bool.true_and, Bool.not_true, Bool.not_false, Bool.or_false, Bool.false_or, cond_true, cond_false, okPack, okPut, okPutBlks, okPutCells, q_isP, q_isAg, q_isBox, q_isArr, q_int, q_bool, q_str, q_sl, q_nils, e_exit, e_ret, e_nrm, e_ret_exit, e_exit_ret, e_nrm_exit, e_nrm_ret, e_exit_nrm, e_ret_nrm, Nat.zero_add, Nat.reduceAdd, noslR, noslP, noslB, noslA, List.all_cons, List.all_nil]
  rw [src_zero, c_Shares hL h0 (by decide)]
  obtain ⟨hok, hsm⟩ := shN_ok L 0 (most := 4) (by decide)
  have hat := shAt_le hL h0 4
  generalize shN L 0 4 = l at hok hsm
  generalize shAt L 0 4 = k at hat
  have he := ends_in hok.2
  have h8 := hok.1
  simp only [bnd_some, ctl_true, ctl_false, ctl_and, ctl_or', ctl_or2, x_toPV, x_toCs, x_toCs2, x_toEs, x_bEs, x_bCs, x_aPV, x_aCs, x_int, x_bool, x_str, x_es, x_esn, nth_0, nth_1, nth_2, nth_3, nth_4, nth_5, nth_6, nth_7, nth_8, nth_9, y_nil, y_int, y_bool, y_str, y_sl, y_nils, y_agg, y_ownp, y_own, z_nil, z_int, z_bool, z_str, z_sl, z_nils, b_nil, b_arr, b_box1, b_box2, b_box3, b_box4, List.map_cons, List.map_nil, Bool.and_self, Bool.and_true, Bool.true_and, Bool.not_true, Bool.not_false, Bool.or_false, Bool.false_or, cond_true, cond_false, okPack, okPut, okPutBlks, okPutCells, q_isP, q_isAg, q_isBox, q_isArr, q_int, q_bool, q_str, q_sl, q_nils, e_exit, e_ret, e_nrm, e_ret_exit, e_exit_ret, e_nrm_exit, e_nrm_ret, e_exit_nrm, e_ret_nrm, Nat.zero_add, Nat.reduceAdd, noslR, noslP, noslB, noslA, List.all_cons, List.all_nil]
  rw [c_RReach hok]
  simp only [bnd_some, ctl_true, ctl_false, ctl_and, ctl_or', ctl_or2, x_toPV, x_toCs, x_toCs2, x_toEs, x_bEs, x_bCs, x_aPV, x_aCs, x_int, x_bool, x_str, x_es, x_esn, nth_0, nth_1, nth_2, nth_3, nth_4, nth_5, nth_6, nth_7, nth_8, nth_9, y_nil, y_int, y_bool, y_str, y_sl, y_nils, y_agg, y_ownp, y_own, z_nil, z_int, z_bool, z_str, z_sl, z_nils, b_nil, b_arr, b_box1, b_box2, b_box3, b_box4, List.map_cons, List.map_nil, Bool.and_self, Bool.and_true, Bool.true_and, Bool.not_true, Bool.not_false, Bool.or_false, Bool.false_or, cond_true, cond_false, okPack, okPut, okPutBlks, okPutCells, q_isP, q_isAg, q_isBox, q_isArr, q_int, q_bool, q_str, q_sl, q_nils, e_exit, e_ret, e_nrm, e_ret_exit, e_exit_ret, e_nrm_exit, e_nrm_ret, e_exit_nrm, e_ret_nrm, Nat.zero_add, Nat.reduceAdd, noslR, noslP, noslB, noslA, List.all_cons, List.all_nil]
  rw [c_Range hL hat (by omega)]
  have hb := vRange_bounds (L := L) (k := k) (lo := lows l) (hi := highs l) (by omega)
  generalize vRange L k (lows l) (highs l) = total at hb
  have hat1 := at'_le hL hat
  generalize at' L k = k1 at *
  have hroom : (leN (l.length * 24) 140737488355328) = true := by simp; omega
  simp only [bnd_some, ctl_true, ctl_false, ctl_and, ctl_or', ctl_or2, x_toPV, x_toCs, x_toCs2, x_toEs, x_bEs, x_bCs, x_aPV, x_aCs, x_int, x_bool, x_str, x_es, x_esn, nth_0, nth_1, nth_2, nth_3, nth_4, nth_5, nth_6, nth_7, nth_8, nth_9, y_nil, y_int, y_bool, y_str, y_sl, y_nils, y_agg, y_ownp, y_own, z_nil, z_int, z_bool, z_str, z_sl, z_nils, b_nil, b_arr, b_box1, b_box2, b_box3, b_box4, List.map_cons, List.map_nil, Bool.and_self, Bool.and_true, Bool.true_and, Bool.not_true, Bool.not_false, Bool.or_false, Bool.false_or, cond_true, cond_false, okPack, okPut, okPutBlks, okPutCells, q_isP, q_isAg, q_isBox, q_isArr, q_int, q_bool, q_str, q_sl, q_nils, e_exit, e_ret, e_nrm, e_ret_exit, e_exit_ret, e_nrm_exit, e_nrm_ret, e_exit_nrm, e_ret_nrm, Nat.zero_add, Nat.reduceAdd, noslR, noslP, noslB, noslA, List.all_cons, List.all_nil, hroom, shK_length]
  obtain ⟨w, hw, e0⟩ := wide_loop hL (l0 := shK l) (total := total) l [] k1 hat1 (by simpa using h8) hsm
  simp only [List.nil_append, List.length_nil] at e0
  have z0 : (((0 : Nat)) : Int) = 0 := rfl
  rw [z0] at e0
  rw [e0]
  obtain ⟨f1, f2, f3, f4⟩ := hw.facts hsm
  have hokw : OkL w := ⟨by omega, f2⟩
  obtain ⟨r, hr, e1⟩ := c_Divide hok (total := total) (by omega)
  obtain ⟨r', hr', e2⟩ := c_Divide hokw (total := total) (by omega)
  have ok1 : OkL [⟨-3, 9, 2⟩] := ⟨by decide, fun s hs => by simp only [List.mem_cons, List.not_mem_nil, or_false] at hs; subst hs; unfold OkS; decide⟩
  obtain ⟨r2, hr2, e3⟩ := c_Divide ok1 (total := total) (by omega)
  have l1 : lows [⟨-3, 9, 2⟩] = -3 := rfl
  have l2 : highs [⟨-3, 9, 2⟩] = 9 := rfl
  rw [l1, l2] at e3 hr2
  rw [clamp_id (by omega)] at hr e1
  rw [clamp_id (by omega)] at hr' e2
  have hT := clamp_in (x := total) (lo := -3) (hi := 9) (by omega)
  have hx := (divL_up hok hb hb (Int.le_refl _) hr hr).left
  have hsx := divL_sum hok hb hr
  have hby : lows w ≤ total ∧ total ≤ highs w := by omega
  have hy := (divL_up hokw hby hby (Int.le_refl _) hr' hr').left
  have hsy := divL_sum hokw hby hr'
  have hpy : Pr r' w (divL w total r') := by rw [divL_eq hokw]; exact fillK_pr r' hokw.2
  have hsz := divL_sum ok1 hT hr2
  have hlz := divL_length ok1 (clamp total (-3) 9) r2
  generalize divL l total r = x at *
  generalize divL w total r' = y at *
  generalize divL [⟨-3, 9, 2⟩] (clamp total (-3) 9) r2 = q at *
  obtain ⟨q0, rfl⟩ : ∃ q0, q = [q0] := by
    cases q with
    | nil => simp at hlz
    | cons a q => cases q with
      | nil => exact ⟨a, rfl⟩
      | cons b q => simp at hlz
  have hq : q0 = clamp total (-3) 9 := by simpa [sumI] using hsz
  subst hq
  obtain ⟨hxw, hcw⟩ := hw.inR hx
  have hc := cert_least hokw hy hxw hpy (by omega)
  rw [hcw] at hc
  have z1 : ((0 : Int) == 0) = true := rfl
  have z2 : (total - total == 0) = true := by simp
  have z3 : leB (costS w y) (costS l x) = true := by simp; omega
  have f3' : denC E 13 [AV.sl 3 [[PV.int .i64 (-3), PV.int .i64 9, PV.int .i64 2]], AV.int .i64 total] [] = _ := e3
  simp only [bnd_some, ctl_true, ctl_false, ctl_and, ctl_or', ctl_or2, x_toPV, x_toCs, x_toCs2, x_toEs, x_bEs, x_bCs, x_aPV, x_aCs, x_int, x_bool, x_str, x_es, x_esn, nth_0, nth_1, nth_2, nth_3, nth_4, nth_5, nth_6, nth_7, nth_8, nth_9, y_nil, y_int, y_bool, y_str, y_sl, y_nils, y_agg, y_ownp, y_own, z_nil, z_int, z_bool, z_str, z_sl, z_nils, b_nil, b_arr, b_box1, b_box2, b_box3, b_box4, List.map_cons, List.map_nil, Bool.and_self, Bool.and_true, Bool.true_and, Bool.not_true, Bool.not_false, Bool.or_false, Bool.false_or, cond_true, cond_false, okPack, okPut, okPutBlks, okPutCells, q_isP, q_isAg, q_isBox, q_isArr, q_int, q_bool, q_str, q_sl, q_nils, e_exit, e_ret, e_nrm, e_ret_exit, e_exit_ret, e_nrm_exit, e_nrm_ret, e_exit_nrm, e_ret_nrm, Nat.zero_add, Nat.reduceAdd, noslR, noslP, noslB, noslA, List.all_cons, List.all_nil]
  rw [e1]
  simp only [bnd_some, ctl_true, ctl_false, ctl_and, ctl_or', ctl_or2, x_toPV, x_toCs, x_toCs2, x_toEs, x_bEs, x_bCs, x_aPV, x_aCs, x_int, x_bool, x_str, x_es, x_esn, nth_0, nth_1, nth_2, nth_3, nth_4, nth_5, nth_6, nth_7, nth_8, nth_9, y_nil, y_int, y_bool, y_str, y_sl, y_nils, y_agg, y_ownp, y_own, z_nil, z_int, z_bool, z_str, z_sl, z_nils, b_nil, b_arr, b_box1, b_box2, b_box3, b_box4, List.map_cons, List.map_nil, Bool.and_self, Bool.and_true, Bool.true_and, Bool.not_true, Bool.not_false, Bool.or_false, Bool.false_or, cond_true, cond_false, okPack, okPut, okPutBlks, okPutCells, q_isP, q_isAg, q_isBox, q_isArr, q_int, q_bool, q_str, q_sl, q_nils, e_exit, e_ret, e_nrm, e_ret_exit, e_exit_ret, e_nrm_exit, e_nrm_ret, e_exit_nrm, e_ret_nrm, Nat.zero_add, Nat.reduceAdd, noslR, noslP, noslB, noslA, List.all_cons, List.all_nil]
  rw [e2]
  simp only [bnd_some, ctl_true, ctl_false, ctl_and, ctl_or', ctl_or2, x_toPV, x_toCs, x_toCs2, x_toEs, x_bEs, x_bCs, x_aPV, x_aCs, x_int, x_bool, x_str, x_es, x_esn, nth_0, nth_1, nth_2, nth_3, nth_4, nth_5, nth_6, nth_7, nth_8, nth_9, y_nil, y_int, y_bool, y_str, y_sl, y_nils, y_agg, y_ownp, y_own, z_nil, z_int, z_bool, z_str, z_sl, z_nils, b_nil, b_arr, b_box1, b_box2, b_box3, b_box4, List.map_cons, List.map_nil, Bool.and_self, Bool.and_true, Bool.true_and, Bool.not_true, Bool.not_false, Bool.or_false, Bool.false_or, cond_true, cond_false, okPack, okPut, okPutBlks, okPutCells, q_isP, q_isAg, q_isBox, q_isArr, q_int, q_bool, q_str, q_sl, q_nils, e_exit, e_ret, e_nrm, e_ret_exit, e_exit_ret, e_nrm_exit, e_nrm_ret, e_exit_nrm, e_ret_nrm, Nat.zero_add, Nat.reduceAdd, noslR, noslP, noslB, noslA, List.all_cons, List.all_nil, nos_ints]
  rw [c_Sum hok hx]
  simp only [bnd_some, ctl_true, ctl_false, ctl_and, ctl_or', ctl_or2, x_toPV, x_toCs, x_toCs2, x_toEs, x_bEs, x_bCs, x_aPV, x_aCs, x_int, x_bool, x_str, x_es, x_esn, nth_0, nth_1, nth_2, nth_3, nth_4, nth_5, nth_6, nth_7, nth_8, nth_9, y_nil, y_int, y_bool, y_str, y_sl, y_nils, y_agg, y_ownp, y_own, z_nil, z_int, z_bool, z_str, z_sl, z_nils, b_nil, b_arr, b_box1, b_box2, b_box3, b_box4, List.map_cons, List.map_nil, Bool.and_self, Bool.and_true, Bool.true_and, Bool.not_true, Bool.not_false, Bool.or_false, Bool.false_or, cond_true, cond_false, okPack, okPut, okPutBlks, okPutCells, q_isP, q_isAg, q_isBox, q_isArr, q_int, q_bool, q_str, q_sl, q_nils, e_exit, e_ret, e_nrm, e_ret_exit, e_exit_ret, e_nrm_exit, e_nrm_ret, e_exit_nrm, e_ret_nrm, Nat.zero_add, Nat.reduceAdd, noslR, noslP, noslB, noslA, List.all_cons, List.all_nil]
  rw [c_Sum hokw hy]
  simp only [bnd_some, ctl_true, ctl_false, ctl_and, ctl_or', ctl_or2, x_toPV, x_toCs, x_toCs2, x_toEs, x_bEs, x_bCs, x_aPV, x_aCs, x_int, x_bool, x_str, x_es, x_esn, nth_0, nth_1, nth_2, nth_3, nth_4, nth_5, nth_6, nth_7, nth_8, nth_9, y_nil, y_int, y_bool, y_str, y_sl, y_nils, y_agg, y_ownp, y_own, z_nil, z_int, z_bool, z_str, z_sl, z_nils, b_nil, b_arr, b_box1, b_box2, b_box3, b_box4, List.map_cons, List.map_nil, Bool.and_self, Bool.and_true, Bool.true_and, Bool.not_true, Bool.not_false, Bool.or_false, Bool.false_or, cond_true, cond_false, okPack, okPut, okPutBlks, okPutCells, q_isP, q_isAg, q_isBox, q_isArr, q_int, q_bool, q_str, q_sl, q_nils, e_exit, e_ret, e_nrm, e_ret_exit, e_exit_ret, e_nrm_exit, e_nrm_ret, e_exit_nrm, e_ret_nrm, Nat.zero_add, Nat.reduceAdd, noslR, noslP, noslB, noslA, List.all_cons, List.all_nil]
  rw [f3']
  have n1 : nth [] (intsK .i64 [clamp total (-3) 9]) 0 = [PV.int .i64 (clamp total (-3) 9)] := rfl
  have n2 : (intsK .i64 [clamp total (-3) 9]).length = 1 := rfl
  have n3 : okCs [Sh.int .i64] (List.take 1 (List.drop 0 [PV.int .i64 (clamp total (-3) 9)])) = true := rfl
  have n4 : (((1 : Nat) : Int) == 1) = true := rfl
  have n5 : ltB 0 ((1 : Nat) : Int) = true := rfl
  simp only [bnd_some, ctl_true, ctl_false, ctl_and, ctl_or', ctl_or2, x_toPV, x_toCs, x_toCs2, x_toEs, x_bEs, x_bCs, x_aPV, x_aCs, x_int, x_bool, x_str, x_es, x_esn, nth_0, nth_1, nth_2, nth_3, nth_4, nth_5, nth_6, nth_7, nth_8, nth_9, y_nil, y_int, y_bool, y_str, y_sl, y_nils, y_agg, y_ownp, y_own, z_nil, z_int, z_bool, z_str, z_sl, z_nils, b_nil, b_arr, b_box1, b_box2, b_box3, b_box4, List.map_cons, List.map_nil, Bool.and_self, Bool.and_true, Bool.true_and, Bool.not_true, Bool.not_false, Bool.or_false, Bool.false_or, cond_true, cond_false, okPack, okPut, okPutBlks, okPutCells, q_isP, q_isAg, q_isBox, q_isArr, q_int, q_bool, q_str, q_sl, q_nils, e_exit, e_ret, e_nrm, e_ret_exit, e_exit_ret, e_nrm_exit, e_nrm_ret, e_exit_nrm, e_ret_nrm, Nat.zero_add, Nat.reduceAdd, noslR, noslP, noslB, noslA, List.all_cons, List.all_nil, nos_ints, z1, z2, z3, n1, n2, n3, n4, n5]
  rw [c_RClamp (x := total) (lo := -3) (hi := 9) (by decide)]
  rw [w64 (n := total - clamp total (-3) 9) (by omega)]
  simp only [bnd_some, ctl_true, ctl_false, ctl_and, ctl_or', ctl_or2, x_toPV, x_toCs, x_toCs2, x_toEs, x_bEs, x_bCs, x_aPV, x_aCs, x_int, x_bool, x_str, x_es, x_esn, nth_0, nth_1, nth_2, nth_3, nth_4, nth_5, nth_6, nth_7, nth_8, nth_9, y_nil, y_int, y_bool, y_str, y_sl, y_nils, y_agg, y_ownp, y_own, z_nil, z_int, z_bool, z_str, z_sl, z_nils, b_nil, b_arr, b_box1, b_box2, b_box3, b_box4, List.map_cons, List.map_nil, Bool.and_self, Bool.and_true, Bool.true_and, Bool.not_true, Bool.not_false, Bool.or_false, Bool.false_or, cond_true, cond_false, okPack, okPut, okPutBlks, okPutCells, q_isP, q_isAg, q_isBox, q_isArr, q_int, q_bool, q_str, q_sl, q_nils, e_exit, e_ret, e_nrm, e_ret_exit, e_exit_ret, e_nrm_exit, e_nrm_ret, e_exit_nrm, e_ret_nrm, Nat.zero_add, Nat.reduceAdd, noslR, noslP, noslB, noslA, List.all_cons, List.all_nil, beq_self_eq_true, c_sane]

end Go.Proofs.Ytbacfgghneknjaa.Vm
