/- The law StatusReaches comes to true. -/
import Derived.Test.YtiagcaefhjibjaaStatusL
namespace Go.Proofs.Ytiagcaefhjibjaa.Vm
set_option linter.unusedVariables false
set_option linter.unusedSimpArgs false

/-- The tick from which on the level is green. -/
def gre (D : Int) : Int := if D = 0 then 1 else 2 * D
/-- The level at a tick. -/
def lev (D i : Int) : Int := if i < D then 1 else if i < gre D then 2 else 3
def stA (D t : Int) : Int := if t = 0 then 1 else lev D (t - 1)
def stB (D t : Int) : Int := if t = 0 then -1 else if t ≤ D then 0 else if t ≤ gre D then D else -1

def levs (D : Int) : Int → Nat → List Int
  | _, 0 => []
  | t, m + 1 => lev D t :: levs D (t + 1) m

theorem levs_length (D : Int) : ∀ (m : Nat) (t : Int), (levs D t m).length = m
  | 0, _ => rfl
  | m + 1, t => by simp [levs, levs_length D m]

theorem levs_get (D : Int) : ∀ (m : Nat) (t : Int) (i : Nat), i < m → (levs D t m).getD i 0 = lev D (t + i)
  | 0, _, i, h => by omega
  | m + 1, t, 0, h => by simp [levs]
  | m + 1, t, i + 1, h => by
    have := levs_get D m (t + 1) i (by omega)
    simp only [levs, List.getD_cons_succ, this]
    congr 1
    omega

theorem st_next {D t : Int} (hD : 0 ≤ D ∧ D ≤ 60) (ht : 0 ≤ t ∧ t ≤ 500) : VC (stA D t) (stB D t) t = true ∧ nextF (stA D t) (stB D t) t 3 D = (lev D t, stB D (t + 1), 0) := by
  have hv : VC (stA D t) (stB D t) t = true := by
    refine VC_iff.2 ?_
    unfold stA stB lev gre
    by_cases h0 : t = 0
    · simp only [if_pos h0]; omega
    · simp only [if_neg h0]
      by_cases h1 : t ≤ D
      · have : t - 1 < D := by omega
        simp only [if_pos h1, if_pos this]; omega
      · have h1' : ¬ t - 1 < D := by omega
        simp only [if_neg h1, if_neg h1']
        by_cases hz : D = 0
        · simp only [if_pos hz]
          by_cases h2 : t ≤ 1
          · have : t - 1 < 1 := by omega
            simp only [if_pos h2, if_pos this]; omega
          · have : ¬ t - 1 < 1 := by omega
            simp only [if_neg h2, if_neg this]
            exact ⟨by omega, by omega, by omega, by omega, by simp⟩
        · simp only [if_neg hz]
          by_cases h2 : t ≤ 2 * D
          · have : t - 1 < 2 * D := by omega
            simp only [if_pos h2, if_pos this]; omega
          · have : ¬ t - 1 < 2 * D := by omega
            simp only [if_neg h2, if_neg this]
            exact ⟨by omega, by omega, by omega, by omega, by simp⟩
  refine ⟨hv, ?_⟩
  have hs : stA D (t + 1) = lev D t := by unfold stA; rw [if_neg (by omega), Int.add_sub_cancel]
  obtain ⟨_, _, h⟩ := nextF_ok (judged := 3) (delay := D) hv (by omega) (by omega) (by omega)
  revert h
  unfold stA stB lev gre
  by_cases h0 : t = 0
  · subst h0
    simp only [if_true]
    rintro (⟨a, e⟩ | ⟨a, b, e⟩ | ⟨a, b, e⟩) <;> rw [e]
    · omega
    · have h1 : (0 : Int) < D := by omega
      have h2 : ¬ ((0 : Int) + 1 = 0) := by omega
      have h3 : (0 : Int) + 1 ≤ D := by omega
      simp only [if_pos h1, if_neg h2, if_pos h3]
    · have hz : D = 0 := by omega
      subst hz
      decide
  · simp only [if_neg h0, if_neg (show ¬ t + 1 = 0 by omega)]
    by_cases h1 : t ≤ D
    · have h1' : t - 1 < D := by omega
      have hz : ¬ D = 0 := by omega
      have h00 : ¬ ((0 : Int) = -1) := by omega
      simp only [if_pos h1, if_pos h1', if_neg hz, if_neg h00]
      rintro (⟨a, e⟩ | ⟨a, b, e⟩ | ⟨a, b, e⟩) <;> rw [e]
      · omega
      · have h2 : t < D := by omega
        have h3 : t + 1 ≤ D := by omega
        simp only [if_pos h2, if_pos h3]
      · have h2 : ¬ t < D := by omega
        have h3 : ¬ t + 1 ≤ D := by omega
        have h4 : t < 2 * D := by omega
        have h5 : t + 1 ≤ 2 * D := by omega
        simp only [if_neg h2, if_neg h3, if_pos h4, if_pos h5]
        have h6 : t = D := by omega
        have h7 : (1 : Int) + 1 < 3 := by omega
        rw [if_pos h7, h6]
        rfl
    · have h1' : ¬ t - 1 < D := by omega
      have h2 : ¬ t < D := by omega
      have h3 : ¬ t + 1 ≤ D := by omega
      simp only [if_neg h1, if_neg h1', if_neg h2, if_neg h3]
      have key : ∀ g : Int, (D = 0 → g = 1) → (D ≠ 0 → g = 2 * D) →
          ((3 ≤ (if t - 1 < g then (2 : Int) else 3) ∧ nextF (if t - 1 < g then 2 else 3) (if t ≤ g then D else -1) t 3 D = (3, -1, 0)) ∨
           ((if t - 1 < g then (2 : Int) else 3) < 3 ∧ t - (if (if t ≤ g then D else -1) = -1 then t else if t ≤ g then D else -1) < D ∧ nextF (if t - 1 < g then 2 else 3) (if t ≤ g then D else -1) t 3 D = ((if t - 1 < g then 2 else 3), (if (if t ≤ g then D else -1) = -1 then t else if t ≤ g then D else -1), 0)) ∨
           ((if t - 1 < g then (2 : Int) else 3) < 3 ∧ D ≤ t - (if (if t ≤ g then D else -1) = -1 then t else if t ≤ g then D else -1) ∧ nextF (if t - 1 < g then 2 else 3) (if t ≤ g then D else -1) t 3 D = ((if t - 1 < g then 2 else 3) + 1, (if (if t - 1 < g then (2 : Int) else 3) + 1 < 3 then t else -1), 0))) →
          nextF (if t - 1 < g then 2 else 3) (if t ≤ g then D else -1) t 3 D = ((if t < g then 2 else 3), (if t + 1 ≤ g then D else -1), 0) := by
        intro g g1 g2
        by_cases h4 : t ≤ g
        · have h4' : t - 1 < g := by omega
          have hD1 : ¬ D = -1 := by omega
          simp only [if_pos h4, if_pos h4', if_neg hD1]
          rintro (⟨a, e⟩ | ⟨a, b, e⟩ | ⟨a, b, e⟩) <;> rw [e]
          · omega
          · have h5 : t < g := by
              rcases Classical.em (D = 0) with hz | hz
              · have := g1 hz; omega
              · have := g2 hz; omega
            have h6 : t + 1 ≤ g := by omega
            simp only [if_pos h5, if_pos h6]
          · have h5 : ¬ t < g := by
              rcases Classical.em (D = 0) with hz | hz
              · have := g1 hz; omega
              · have := g2 hz; omega
            have h6 : ¬ t + 1 ≤ g := by omega
            simp only [if_neg h5, if_neg h6]
            rfl
        · have h4' : ¬ t - 1 < g := by omega
          have h5 : ¬ t < g := by omega
          have h6 : ¬ t + 1 ≤ g := by omega
          simp only [if_neg h4, if_neg h4', if_neg h5, if_neg h6]
          rintro (⟨a, e⟩ | ⟨a, b, e⟩ | ⟨a, b, e⟩)
          · exact e
          · omega
          · omega
      exact key (if D = 0 then 1 else 2 * D) (fun h => if_pos h) (fun h => if_neg h)

theorem runL_all {D : Int} (hD : 0 ≤ D ∧ D ≤ 60) : ∀ (m : Nat) (t : Int), 0 ≤ t → t + m ≤ 500 → runL D (List.replicate m 3) t (stA D t) (stB D t) = (levs D t m, 0)
  | 0, t, _, _ => rfl
  | m + 1, t, ht, hm => by
    obtain ⟨_, h⟩ := st_next (D := D) (t := t) hD (by omega)
    have ih := runL_all hD m (t + 1) (by omega) (by omega)
    have hs : stA D (t + 1) = lev D t := by unfold stA; rw [if_neg (by omega), Int.add_sub_cancel]
    rw [hs] at ih
    simp only [List.replicate_succ, runL, h, ih, levs, if_true]

theorem setEs_ints {k : IntKind} {L : List Int} {i : Nat} {v : Int} (hi : i < L.length) : setEs (intsK k L) i 0 [PV.int k v] = intsK k (L.set i v) := by
  unfold setEs intsK
  rw [upd_eq, List.map_set]
  congr 1
  rw [nth_eq]
  simp [List.getD, hi, lay, lay.go]

theorem fill_loop {D : Int} : ∀ (m i : Nat), i + m ≤ 500 →
    lp E (denC E) 6 0 [] 0 { vals := [AV.int .i64 D, AV.int .i64 ((i + m : Nat) : Int), AV.int .i64 (i : Int)], blks := [Blk.arr 1 (intsK .i64 (List.replicate i 3 ++ List.replicate m 0))] } =
      some (Ex.exit 0, { vals := [AV.int .i64 D], blks := [Blk.arr 1 (intsK .i64 (List.replicate (i + m) 3))] })
  | 0, i, h => by
    rw [r6_0, ctl_dec, if_neg (by omega)]
    simp
  | m + 1, i, h => by
    rw [r6_0, ctl_dec, if_pos (by omega)]
    have h1 : (leB 0 (i : Int) && ltB (i : Int) ((intsK .i64 (List.replicate i 3 ++ List.replicate (m + 1) 0)).length : Int)) = true := by
      rw [intsK_length]; simp; omega
    rw [h1, ctl_true, w64 (by omega), Int.toNat_natCast, setEs_ints (by simp)]
    have e : (List.replicate i (3 : Int) ++ List.replicate (m + 1) 0).set i 3 = List.replicate (i + 1) 3 ++ List.replicate m 0 := by
      rw [List.replicate_succ, List.set_append_right _ _ (by simp)]
      simp [List.replicate_succ', List.append_assoc]
    rw [e]
    have ih := fill_loop (D := D) m (i + 1) (by omega)
    have e1 : ((i : Int) + 1) = ((i + 1 : Nat) : Int) := by omega
    have e2 : i + 1 + m = i + (m + 1) := by omega
    rw [e2] at ih
    rw [e1, ih]

theorem look_loop {D : Int} (hD : 0 ≤ D ∧ D ≤ 60) {x : List Int} (hx : ∀ i : Nat, i < x.length → x.getD i 0 = lev D i) (hl : x.length ≤ 500) : ∀ (m i : Nat), i + m = x.length →
    lp E (denC E) 6 0 [] 2 { vals := [AV.int .i64 D, AV.sl 1 (intsK .i64 x), AV.int .i64 (x.length : Int), AV.int .i64 (i : Int)], blks := [] } =
      some (Ex.exit 2, { vals := [], blks := [] })
  | 0, i, h => by
    rw [r6_2, ctl_dec, if_neg (by omega)]
  | m + 1, i, h => by
    rw [r6_2, ctl_dec, if_pos (by omega)]
    have hg := hx i (by omega)
    simp only [getE_ints (show 0 ≤ (i : Int) ∧ (i : Int) < (x.length : Nat) by omega), Int.toNat_natCast, hg]
    rw [w64 (n := 2 * D) (by omega), w64 (n := (i : Int) + 1) (by omega)]
    have ih := look_loop hD hx hl m (i + 1) (by omega)
    have e1 : ((i : Int) + 1) = ((i + 1 : Nat) : Int) := by omega
    rw [e1, ih]
    simp only [bnd_some, ctl_true, ctl_false, ctl_and, ctl_or', ctl_or2, x_toPV, x_toCs, x_toCs2, x_toEs, x_bEs, x_bCs, x_aPV, x_aCs, x_int, x_bool, x_str, x_es, x_esn, nth_0, nth_1, nth_2, nth_3, nth_4, nth_5, nth_6, nth_7, nth_8, nth_9, y_nil, y_int, y_bool, y_str, y_sl, y_nils, y_agg, y_ownp, y_own, z_nil, z_int, z_bool, z_str, z_sl, z_nils, b_nil, b_arr, b_box1, b_box2, b_box3, b_box4, List.map_cons, List.map_nil, Bool.and_self, Bool.and_true, Bool.true_and, Bool.not_true, Bool.not_false, Bool.or_false, Bool.false_or, cond_true, cond_false, okPack, okPut, okPutBlks, okPutCells, q_isP, q_isAg, q_isBox, q_isArr, q_int, q_bool, q_str, q_sl, q_nils, e_exit, e_ret, e_nrm, e_ret_exit, e_exit_ret, e_nrm_exit, e_nrm_ret, e_exit_nrm, e_ret_nrm, Nat.zero_add, Nat.reduceAdd, noslR, noslP, noslB, noslA, List.all_cons, List.all_nil]
    have hgr : ((ltB 0 D && leB (2 * D) (i : Int)) || (D == 0 && leB 1 (i : Int))) = decide (gre D ≤ i) := by
      rw [Bool.eq_iff_iff]
      unfold gre
      simp only [Bool.or_eq_true, Bool.and_eq_true, decide_eq_true_eq, beq_iff_eq]
      split <;> omega
    rw [hgr]
    by_cases h1 : (i : Int) < D
    · have k1 : leB D (i : Int) = false := by simp; omega
      have k2 : decide (gre D ≤ (i : Int)) = false := by unfold gre; simp; split <;> omega
      have k3 : lev D i = 1 := by unfold lev; rw [if_pos h1]
      rw [k1, k2, k3]; rfl
    · have k1 : leB D (i : Int) = true := by simp; omega
      by_cases h2 : (i : Int) < gre D
      · have k2 : decide (gre D ≤ (i : Int)) = false := by simp; omega
        have k3 : lev D i = 2 := by unfold lev; rw [if_neg h1, if_pos h2]
        rw [k1, k2, k3]; rfl
      · have k2 : decide (gre D ≤ (i : Int)) = true := by simp; omega
        have k3 : lev D i = 3 := by unfold lev; rw [if_neg h1, if_neg h2]
        rw [k1, k2, k3]; rfl

theorem d_StatusReaches (n : Int) (hn : 0 ≤ n ∧ n ≤ 255) (d : Int) (hd : 0 ≤ d ∧ d ≤ 255) :
    denC E 6 [AV.int .u8 n, AV.int .u8 d] [] = some ([RV.p (PV.bool true)], []) := by
  rw [denC_eq, r6, w64 (n := d) (by omega), w64 (n := n) (by omega)]
  have hD : 0 ≤ d.tmod 60 ∧ d.tmod 60 ≤ 59 := by rw [Int.tmod_eq_emod_of_nonneg hd.1]; omega
  have hN : 0 ≤ n.tmod 20 ∧ n.tmod 20 ≤ 19 := by rw [Int.tmod_eq_emod_of_nonneg hn.1]; omega
  generalize d.tmod 60 = D at *
  generalize n.tmod 20 = a at *
  rw [w64 (n := 2 * D) (by omega), w64 (n := 2 * D + 1) (by omega), w64 (n := 2 * D + 1 + a) (by omega)]
  have k0 : (leB 0 (2 * D + 1 + a) && (leB (2 * D + 1 + a) (2 * D + 1 + a) && (leB (2 * D + 1 + a) 9223372036854775807 && leB ((2 * D + 1 + a) * 8) 140737488355328))) = true := by
    simp only [Bool.and_eq_true, decide_eq_true_eq]; omega
  rw [k0, ctl_true]
  obtain ⟨m, hm⟩ : ∃ m : Nat, (2 * D + 1 + a).toNat = m := ⟨_, rfl⟩
  rw [hm]
  have hr : reps [PV.int .i64 0] m = intsK .i64 (List.replicate m 0) := by rw [reps_eq]; simp [intsK]
  rw [hr, intsK_length, List.length_replicate]
  have hf := fill_loop (D := D) m 0 (by omega)
  simp only [List.replicate_zero, List.nil_append, Nat.zero_add] at hf
  have e0 : (((0 : Nat)) : Int) = 0 := rfl
  rw [e0] at hf
  rw [hf]
  simp only [bnd_some, ctl_true, ctl_false, ctl_and, ctl_or', ctl_or2, x_toPV, x_toCs, x_toCs2, x_toEs, x_bEs, x_bCs, x_aPV, x_aCs, x_int, x_bool, x_str, x_es, x_esn, nth_0, nth_1, nth_2, nth_3, nth_4, nth_5, nth_6, nth_7, nth_8, nth_9, y_nil, y_int, y_bool, y_str, y_sl, y_nils, y_agg, y_ownp, y_own, z_nil, z_int, z_bool, z_str, z_sl, z_nils, b_nil, b_arr, b_box1, b_box2, b_box3, b_box4, List.map_cons, List.map_nil, Bool.and_self, Bool.and_true, Bool.true_and, Bool.not_true, Bool.not_false, Bool.or_false, Bool.false_or, cond_true, cond_false, okPack, okPut, okPutBlks, okPutCells, q_isP, q_isAg, q_isBox, q_isArr, q_int, q_bool, q_str, q_sl, q_nils, e_exit, e_ret, e_nrm, e_ret_exit, e_exit_ret, e_nrm_exit, e_nrm_ret, e_exit_nrm, e_ret_nrm, Nat.zero_add, Nat.reduceAdd, noslR, noslP, noslB, noslA, List.all_cons, List.all_nil]
  rw [c_Run _ (by simp; omega)]
  have hrun : runR (List.replicate m 3) D = (levs D 0 m, 0) := runL_all (D := D) (by omega) m 0 (by omega) (by omega)
  rw [hrun]
  simp only [if_true, bnd_some, ctl_true, ctl_false, ctl_and, ctl_or', ctl_or2, x_toPV, x_toCs, x_toCs2, x_toEs, x_bEs, x_bCs, x_aPV, x_aCs, x_int, x_bool, x_str, x_es, x_esn, nth_0, nth_1, nth_2, nth_3, nth_4, nth_5, nth_6, nth_7, nth_8, nth_9, y_nil, y_int, y_bool, y_str, y_sl, y_nils, y_agg, y_ownp, y_own, z_nil, z_int, z_bool, z_str, z_sl, z_nils, b_nil, b_arr, b_box1, b_box2, b_box3, b_box4, List.map_cons, List.map_nil, Bool.and_self, Bool.and_true, Bool.true_and, Bool.not_true, Bool.not_false, Bool.or_false, Bool.false_or, cond_true, cond_false, okPack, okPut, okPutBlks, okPutCells, q_isP, q_isAg, q_isBox, q_isArr, q_int, q_bool, q_str, q_sl, q_nils, e_exit, e_ret, e_nrm, e_ret_exit, e_exit_ret, e_nrm_exit, e_nrm_ret, e_exit_nrm, e_ret_nrm, Nat.zero_add, Nat.reduceAdd, noslR, noslP, noslB, noslA, List.all_cons, List.all_nil]
  rw [intsK_length, levs_length]
  have hl := look_loop (D := D) (by omega) (x := levs D 0 m) (fun i hi => by
    rw [levs_length] at hi
    have := levs_get D m 0 i hi
    rw [this]; congr 1; omega) (by rw [levs_length]; omega) m 0 (by rw [levs_length]; omega)
  rw [levs_length, e0] at hl
  have k1 : ((0 : Int) != 0) = false := rfl
  rw [k1, ctl_false, hl]
  simp only [bnd_some, ctl_true, ctl_false, ctl_and, ctl_or', ctl_or2, x_toPV, x_toCs, x_toCs2, x_toEs, x_bEs, x_bCs, x_aPV, x_aCs, x_int, x_bool, x_str, x_es, x_esn, nth_0, nth_1, nth_2, nth_3, nth_4, nth_5, nth_6, nth_7, nth_8, nth_9, y_nil, y_int, y_bool, y_str, y_sl, y_nils, y_agg, y_ownp, y_own, z_nil, z_int, z_bool, z_str, z_sl, z_nils, b_nil, b_arr, b_box1, b_box2, b_box3, b_box4, List.map_cons, List.map_nil, Bool.and_self, Bool.and_true, Bool.true_and, Bool.not_true, Bool.not_false, Bool.or_false, Bool.false_or, cond_true, cond_false, okPack, okPut, okPutBlks, okPutCells, q_isP, q_isAg, q_isBox, q_isArr, q_int, q_bool, q_str, q_sl, q_nils, e_exit, e_ret, e_nrm, e_ret_exit, e_exit_ret, e_nrm_exit, e_nrm_ret, e_exit_nrm, e_ret_nrm, Nat.zero_add, Nat.reduceAdd, noslR, noslP, noslB, noslA, List.all_cons, List.all_nil, c_sane]

end Go.Proofs.Ytiagcaefhjibjaa.Vm
