/- Levels that are judged, and what becomes of them. -/
import Derived.Test.YtiagcaefhjibjaaStatusS
namespace Go.Proofs.Ytiagcaefhjibjaa.Vm
set_option linter.unusedVariables false
set_option linter.unusedSimpArgs false

def levelsL (L : List Int) : Nat → Nat → List Int × Nat
  | k, 0 => ([], k)
  | k, j + 1 => (vPick L k [3, 3, 2, 1, 3] :: (levelsL L (at' L k) j).1, (levelsL L (at' L k) j).2)

theorem levels_loop {L : List Int} (hL : L.length ≤ 600) : ∀ (j k : Nat) (acc : List (List PV)), k ≤ 600 → acc.length + j ≤ 1000 →
    lp E (denC E) 19 1 [] 0 { vals := [AV.int .i64 (j : Int)], blks := [src L k, Blk.arr 1 acc] } =
      some (Ex.exit 0, { vals := [], blks := [src L (levelsL L k j).2, Blk.arr 1 (acc ++ intsK .i64 (levelsL L k j).1)] })
  | 0, k, acc, hk, ha => by
    rw [r19_0, ctl_dec, if_neg (by simp)]
    simp [levelsL, intsK]
  | j + 1, k, acc, hk, ha => by
    rw [r19_0, ctl_dec, if_pos (by omega)]
    have e1 : denC E 31 [AV.t (.ptr 0 0), AV.sl 1 [[PV.int .i64 3], [PV.int .i64 3], [PV.int .i64 2], [PV.int .i64 1], [PV.int .i64 3]]] [src L k] = _ := c_Pick hL hk (l := [3, 3, 2, 1, 3]) (by decide)
    rw [e1]
    simp only [bnd_some, ctl_true, ctl_false, ctl_and, ctl_or', ctl_or2, x_toPV, x_toCs, x_toCs2, x_toEs, x_bEs, x_bCs, x_aPV, x_aCs, x_int, x_bool, x_str, x_es, x_esn, nth_0, nth_1, nth_2, nth_3, nth_4, nth_5, nth_6, nth_7, nth_8, nth_9, y_nil, y_int, y_bool, y_str, y_sl, y_nils, y_agg, y_ownp, y_own, z_nil, z_int, z_bool, z_str, z_sl, z_nils, b_nil, b_arr, b_box1, b_box2, b_box3, b_box4, List.map_cons, List.map_nil, Bool.and_self, Bool.and_true, Bool.true_and, Bool.not_true, Bool.not_false, Bool.or_false, Bool.false_or, cond_true, cond_false, okPack, okPut, okPutBlks, okPutCells, q_isP, q_isAg, q_isBox, q_isArr, q_int, q_bool, q_str, q_sl, q_nils, e_exit, e_ret, e_nrm, e_ret_exit, e_exit_ret, e_nrm_exit, e_nrm_ret, e_exit_nrm, e_ret_nrm, Nat.zero_add, Nat.reduceAdd, noslR, noslP, noslB, noslA, List.all_cons, List.all_nil]
    have hroom : (leN ((acc.length + 1) * 8) 140737488355328) = true := by simp; omega
    rw [hroom, ctl_true, w64 (by omega)]
    have ih := levels_loop hL j (at' L k) (acc ++ [[PV.int .i64 (vPick L k [3, 3, 2, 1, 3])]]) (at'_le hL hk) (by simp; omega)
    have e2 : (((j + 1 : Nat) : Int) - 1) = (j : Int) := by omega
    rw [e2, ih]
    simp [levelsL, intsK]

def lvN (L : List Int) (k : Nat) (most : Int) : List Int := (levelsL L (at' L k) (vN L k (most + 1)).toNat).1
def lvAt (L : List Int) (k : Nat) (most : Int) : Nat := (levelsL L (at' L k) (vN L k (most + 1)).toNat).2

theorem c_levels {L : List Int} {k : Nat} (hL : L.length ≤ 600) (hk : k ≤ 600) (most : Int) (hm : 0 ≤ most ∧ most ≤ 100) :
    denC E 19 [AV.t (.ptr 0 0), AV.int .i64 most] [src L k] = some ([RV.p (PV.sl 1 (intsK .i64 (lvN L k most)))], [src L (lvAt L k most)]) := by
  rw [denC_eq, r19, w64 (n := most + 1) (by omega), c_N hL hk _ (by omega)]
  have hb := vN_bounds (L := L) (k := k) (n := most + 1) (by omega)
  simp only [bnd_some, ctl_true, ctl_false, ctl_and, ctl_or', ctl_or2, x_toPV, x_toCs, x_toCs2, x_toEs, x_bEs, x_bCs, x_aPV, x_aCs, x_int, x_bool, x_str, x_es, x_esn, nth_0, nth_1, nth_2, nth_3, nth_4, nth_5, nth_6, nth_7, nth_8, nth_9, y_nil, y_int, y_bool, y_str, y_sl, y_nils, y_agg, y_ownp, y_own, z_nil, z_int, z_bool, z_str, z_sl, z_nils, b_nil, b_arr, b_box1, b_box2, b_box3, b_box4, List.map_cons, List.map_nil, Bool.and_self, Bool.and_true, Bool.true_and, Bool.not_true, Bool.not_false, Bool.or_false, Bool.false_or, cond_true, cond_false, okPack, okPut, okPutBlks, okPutCells, q_isP, q_isAg, q_isBox, q_isArr, q_int, q_bool, q_str, q_sl, q_nils, e_exit, e_ret, e_nrm, e_ret_exit, e_exit_ret, e_nrm_exit, e_nrm_ret, e_exit_nrm, e_ret_nrm, Nat.zero_add, Nat.reduceAdd, noslR, noslP, noslB, noslA, List.all_cons, List.all_nil]
  have ih := levels_loop hL (vN L k (most + 1)).toNat (at' L k) [] (at'_le hL hk) (by simp; omega)
  rw [Int.toNat_of_nonneg hb.1] at ih
  rw [ih]
  simp only [bnd_some, ctl_true, ctl_false, ctl_and, ctl_or', ctl_or2, x_toPV, x_toCs, x_toCs2, x_toEs, x_bEs, x_bCs, x_aPV, x_aCs, x_int, x_bool, x_str, x_es, x_esn, nth_0, nth_1, nth_2, nth_3, nth_4, nth_5, nth_6, nth_7, nth_8, nth_9, y_nil, y_int, y_bool, y_str, y_sl, y_nils, y_agg, y_ownp, y_own, z_nil, z_int, z_bool, z_str, z_sl, z_nils, b_nil, b_arr, b_box1, b_box2, b_box3, b_box4, List.map_cons, List.map_nil, Bool.and_self, Bool.and_true, Bool.true_and, Bool.not_true, Bool.not_false, Bool.or_false, Bool.false_or, cond_true, cond_false, okPack, okPut, okPutBlks, okPutCells, q_isP, q_isAg, q_isBox, q_isArr, q_int, q_bool, q_str, q_sl, q_nils, e_exit, e_ret, e_nrm, e_ret_exit, e_exit_ret, e_nrm_exit, e_nrm_ret, e_exit_nrm, e_ret_nrm, Nat.zero_add, Nat.reduceAdd, noslR, noslP, noslB, noslA, List.all_cons, List.all_nil, lvN, lvAt, List.nil_append]

theorem levelsL_spec (L : List Int) : ∀ (j k : Nat), (levelsL L k j).1.length = j ∧ ∀ x ∈ (levelsL L k j).1, 1 ≤ x ∧ x ≤ 3
  | 0, k => ⟨rfl, fun x hx => by cases hx⟩
  | j + 1, k => by
    obtain ⟨h1, h2⟩ := levelsL_spec L j (at' L k)
    refine ⟨by simp [levelsL, h1], fun x hx => ?_⟩
    simp only [levelsL, List.mem_cons] at hx
    rcases hx with rfl | hx
    · have := vPick_mem L k (l := [3, 3, 2, 1, 3]) (by decide)
      simp only [List.mem_cons, List.not_mem_nil, or_false] at this
      omega
    · exact h2 x hx

theorem lvN_spec {L : List Int} {k : Nat} {most : Int} (hm : 0 ≤ most ∧ most ≤ 100) : (lvN L k most).length ≤ 100 ∧ ∀ x ∈ lvN L k most, 1 ≤ x ∧ x ≤ 3 := by
  obtain ⟨h1, h2⟩ := levelsL_spec L (vN L k (most + 1)).toNat (at' L k)
  have hb := vN_bounds (L := L) (k := k) (n := most + 1) (by omega)
  refine ⟨?_, h2⟩
  unfold lvN
  omega

/-- What one step does to a valid class. -/
theorem nextF_ok {c0 c1 time judged delay : Int} (hv : VC c0 c1 time = true) (hj : 1 ≤ judged ∧ judged ≤ 3) (ht : 0 ≤ time ∧ time ≤ 1000) (hd : 0 ≤ delay ∧ delay ≤ 600) :
    (nextF c0 c1 time judged delay).2.2 = 0 ∧ VC (nextF c0 c1 time judged delay).1 (nextF c0 c1 time judged delay).2.1 (time + 1) = true ∧
    ((judged ≤ c0 ∧ nextF c0 c1 time judged delay = (judged, -1, 0)) ∨
     (c0 < judged ∧ time - (if c1 = -1 then time else c1) < delay ∧ nextF c0 c1 time judged delay = (c0, (if c1 = -1 then time else c1), 0)) ∨
     (c0 < judged ∧ delay ≤ time - (if c1 = -1 then time else c1) ∧ nextF c0 c1 time judged delay = (c0 + 1, (if c0 + 1 < judged then time else -1), 0))) := by
  have h1 : (!VC c0 c1 time || !Lev judged) = false := by
    have a2 : Lev judged = true := Lev_iff.2 (by omega)
    rw [hv, a2]; rfl
  have h2 : (ltB time 0 || ltB 2147483648 time || ltB delay 0 || ltB 600 delay) = false := by
    simp only [Bool.or_eq_false_iff, decide_eq_false_iff_not]; omega
  have hv := VC_iff.1 hv
  have e : nextF c0 c1 time judged delay = if c0 < judged then
    (if time - (if c1 = -1 then time else c1) < delay then (c0, (if c1 = -1 then time else c1), 0)
     else if c0 + 1 < judged then (c0 + 1, time, 0) else (c0 + 1, -1, 0))
  else (judged, -1, 0) := by
    unfold nextF
    rw [h1, h2]
    simp only [Bool.false_eq_true, if_false]
  by_cases h3 : c0 < judged
  · rw [if_pos h3] at e
    by_cases h4 : time - (if c1 = -1 then time else c1) < delay
    · rw [if_pos h4] at e
      rw [e]
      refine ⟨rfl, VC_iff.2 ?_, .inr (.inl ⟨h3, h4, rfl⟩)⟩
      simp only
      split <;> omega
    · rw [if_neg h4] at e
      by_cases h5 : c0 + 1 < judged
      · rw [if_pos h5] at e
        rw [e, if_pos h5]
        refine ⟨rfl, VC_iff.2 ?_, .inr (.inr ⟨h3, Int.not_lt.1 h4, rfl⟩)⟩
        show 1 ≤ c0 + 1 ∧ c0 + 1 ≤ 3 ∧ -1 ≤ time ∧ time ≤ time + 1 ∧ (c0 + 1 < 3 ∨ time = -1)
        omega
      · rw [if_neg h5] at e
        rw [e, if_neg h5]
        refine ⟨rfl, VC_iff.2 ?_, .inr (.inr ⟨h3, Int.not_lt.1 h4, rfl⟩)⟩
        show 1 ≤ c0 + 1 ∧ c0 + 1 ≤ 3 ∧ -1 ≤ (-1 : Int) ∧ (-1 : Int) ≤ time + 1 ∧ (c0 + 1 < 3 ∨ (-1 : Int) = -1)
        omega
  · rw [if_neg h3] at e
    rw [e]
    refine ⟨rfl, VC_iff.2 ?_, .inl ⟨by omega, rfl⟩⟩
    show 1 ≤ judged ∧ judged ≤ 3 ∧ -1 ≤ (-1 : Int) ∧ (-1 : Int) ≤ time + 1 ∧ (judged < 3 ∨ (-1 : Int) = -1)
    omega

theorem runL_ok {delay : Int} (hd : 0 ≤ delay ∧ delay ≤ 600) : ∀ (l : List Int) (t c0 c1 : Int), (∀ x ∈ l, 1 ≤ x ∧ x ≤ 3) → VC c0 c1 t = true → 0 ≤ t → t + l.length ≤ 1000 →
    (runL delay l t c0 c1).2 = 0 ∧ (runL delay l t c0 c1).1.length = l.length
  | [], t, c0, c1, _, _, _, _ => ⟨rfl, rfl⟩
  | x :: l, t, c0, c1, hx, hv, ht, hl => by
    simp only [List.length_cons] at hl
    obtain ⟨h1, h2, _⟩ := nextF_ok (judged := x) (delay := delay) hv (hx x (by simp)) (by omega) hd
    obtain ⟨h3, h4⟩ := runL_ok hd l (t + 1) _ _ (fun y hy => hx y (by simp [hy])) h2 (by omega) (by omega)
    simp only [runL, if_pos h1]
    exact ⟨h3, by simp [h4]⟩

theorem vc_start : VC 1 (-1) 0 = true := by decide

/-- Steps: at most one up, at once down. -/
def stepsP : Int → List Int → List Int → Prop
  | b, x :: xs, l :: ls => x ≤ b + 1 ∧ (l < b → x = l) ∧ (b ≤ l → b ≤ x) ∧ (1 ≤ x ∧ x ≤ 3) ∧ stepsP x xs ls
  | _, [], [] => True
  | _, _, _ => False

theorem runL_steps {delay : Int} (hd : 0 ≤ delay ∧ delay ≤ 600) : ∀ (l : List Int) (t c0 c1 : Int), (∀ x ∈ l, 1 ≤ x ∧ x ≤ 3) → VC c0 c1 t = true → 0 ≤ t → t + l.length ≤ 1000 → stepsP c0 (runL delay l t c0 c1).1 l
  | [], t, c0, c1, _, _, _, _ => trivial
  | x :: l, t, c0, c1, hx, hv, ht, hl => by
    simp only [List.length_cons] at hl
    have hx1 := hx x (by simp)
    obtain ⟨h1, h2, h3⟩ := nextF_ok (judged := x) (delay := delay) hv hx1 (by omega) hd
    have ih := runL_steps hd l (t + 1) _ _ (fun y hy => hx y (by simp [hy])) h2 (by omega) (by omega)
    have hv := VC_iff.1 hv
    simp only [runL, if_pos h1]
    refine ⟨?_, ?_, ?_, ?_, ih⟩
    all_goals
      rcases h3 with ⟨a, e⟩ | ⟨a, b, e⟩ | ⟨a, b, e⟩ <;> rw [e] <;> simp only <;> first | omega | (intro _; omega) | (intro _; trivial)

end Go.Proofs.Ytiagcaefhjibjaa.Vm
