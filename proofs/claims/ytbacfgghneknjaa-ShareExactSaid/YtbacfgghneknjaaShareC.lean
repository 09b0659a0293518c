/- Contracts of the functions that divide. -/
import Derived.Test.YtbacfgghneknjaaMkC
namespace Go.Proofs.Ytbacfgghneknjaa.Vm
set_option linter.unusedVariables false
set_option linter.unusedSimpArgs false

theorem mul_le {a b m n : Int} (ha : -m ≤ a ∧ a ≤ m) (hb : -n ≤ b ∧ b ≤ n) : -(m * n) ≤ a * b ∧ a * b ≤ m * n := by
  have hm : 0 ≤ m := by omega
  have hn : 0 ≤ n := by omega
  have h1 : (a * b).natAbs ≤ (m * n).natAbs := by
    rw [Int.natAbs_mul, Int.natAbs_mul]
    exact Nat.mul_le_mul (by omega) (by omega)
  have h2 : 0 ≤ m * n := Int.mul_nonneg hm hn
  omega

structure Shr where
  lo : Int
  hi : Int
  c : Int

def shC (s : Shr) : List PV := [PV.int .i64 s.lo, PV.int .i64 s.hi, PV.int .i64 s.c]
def shK (l : List Shr) : List (List PV) := l.map shC
theorem shK_length (l : List Shr) : (shK l).length = l.length := by simp [shK]
theorem shK_append (a b : List Shr) : shK (a ++ b) = shK a ++ shK b := by simp [shK]

theorem getE_mid {α : Type} (p : List Shr) (s : Shr) (l : List Shr) (K : List PV → Option α) : getE (shK (p ++ s :: l)) (p.length : Int) K = K (shC s) := by
  unfold getE
  rw [shK_length]
  have h1 : leB 0 (p.length : Int) = true := by simp
  have h2 : ltB (p.length : Int) ((p ++ s :: l).length : Int) = true := by simp; omega
  rw [h1, h2]
  simp only [Bool.and_self, ctl_true, Int.toNat_natCast]
  rw [nth_eq]
  simp [shK, List.getD]

theorem nos_ints (L : List Int) : ((intsK .i64 L).all fun e => e.all noslP) = true := by
  unfold intsK
  rw [List.all_map, List.all_eq_true]
  intro x _
  rfl
theorem nos_shs (l : List Shr) : ((shK l).all fun e => e.all noslP) = true := by
  unfold shK
  rw [List.all_map, List.all_eq_true]
  intro x _
  rfl

/-- What Valid asks of a share. -/
def OkS (s : Shr) : Prop := -5000 ≤ s.lo ∧ s.lo ≤ s.hi ∧ s.hi ≤ 5000 ∧ 1 ≤ s.c ∧ s.c ≤ 100
def OkL (l : List Shr) : Prop := l.length ≤ 8 ∧ ∀ s ∈ l, OkS s

theorem c_floor {n d : Int} (hd : 0 < d) (hn : -9000000000000000000 ≤ n ∧ n ≤ 9000000000000000000) : denC E 40 [AV.int .i64 n, AV.int .i64 d] [] = some ([RV.p (PV.int .i64 (n / d))], []) := by
  rw [denC_eq, r40]
  have hb : -9000000000000000001 ≤ n / d ∧ n / d ≤ 9000000000000000000 := by
    have h1 := Int.mul_ediv_add_emod n d
    have h3 := Int.emod_nonneg n (Int.ne_of_gt hd)
    have h4 := Int.emod_lt_of_pos n hd
    constructor
    · rcases Int.lt_or_le (n / d) (-9000000000000000000) with h | h
      · have h5 : d * (n / d) ≤ d * (-9000000000000000001) := Int.mul_le_mul_of_nonneg_left (by omega) (by omega)
        omega
      · omega
    · rcases Int.lt_or_le 9000000000000000000 (n / d) with h | h
      · have h5 : d * 9000000000000000001 ≤ d * (n / d) := Int.mul_le_mul_of_nonneg_left (by omega) (by omega)
        omega
      · exact h
  have hf := floor_div (n := n) hd
  have hq : n.tdiv d = n / d ∨ n.tdiv d = n / d + 1 := by
    split at hf <;> omega
  have hne : neB d 0 = true := by simp; omega
  simp only [hne, Bool.and_self, ctl_true]
  rw [ctl_dec, w64 (n := n.tdiv d) (by omega), w64 (by omega), ← hf]
  split <;> rfl

theorem c_Floor {n d : Int} (hd : 1 ≤ d ∧ d ≤ 1000000000) (hn : -1000000000000000000 ≤ n ∧ n ≤ 1000000000000000000) :
    denC E 31 [AV.int .i64 n, AV.int .i64 d] [] = some ([RV.p (PV.int .i64 (n / d)), RV.p (PV.int .i64 0)], []) := by
  have hdiv : denC E 39 [AV.int .i64 n, AV.int .i64 d, AV.fn 40 []] [] = some ([RV.p (PV.int .i64 (n / d)), RV.p (PV.int .i64 0)], []) := by
    rw [denC_eq, r39a, c_floor (by omega) (by omega)]
    have h1 : ltB n (-1000000000000000000) = false := by simp; omega
    have h2 : ltB 1000000000000000000 n = false := by simp; omega
    have h3 : ltB d 1 = false := by simp; omega
    have h4 : ltB 1000000000 d = false := by simp; omega
    simp only [h1, h2, h3, h4, bnd_some, ctl_true, ctl_false, ctl_and, ctl_or', ctl_or2, x_toPV, x_toCs, x_toCs2, x_toEs, x_bEs, x_bCs, x_aPV, x_aCs, x_int, x_bool, x_str, x_es, x_esn, nth_0, nth_1, nth_2, nth_3, nth_4, nth_5, nth_6, nth_7, nth_8, nth_9, y_nil, y_int, y_bool, y_str, y_sl, y_nils, y_agg, y_ownp, y_own, z_nil, z_int, z_bool, z_str, z_sl, z_nils, b_nil, b_arr, b_box1, b_box2, b_box3, b_box4, List.map_cons, List.map_nil, Bool.and_self, Bool.and_true, Bool.true_and, Bool.not_true, Bool.not_false, Bool.or_false, Bool.false_or, cond_true, cond_false, okPack, okPut, okPutBlks, okPutCells, q_isP, q_isAg, q_isBox, q_isArr, q_int, q_bool, q_str, q_sl, q_nils, e_exit, e_ret, e_nrm, e_ret_exit, e_exit_ret, e_nrm_exit, e_nrm_ret, e_exit_nrm, e_ret_nrm, Nat.zero_add, Nat.reduceAdd, noslR, noslP, noslB, noslA, List.all_cons, List.all_nil]
  rw [denC_eq, r31, hdiv]
  simp only [bnd_some, ctl_true, ctl_false, ctl_and, ctl_or', ctl_or2, x_toPV, x_toCs, x_toCs2, x_toEs, x_bEs, x_bCs, x_aPV, x_aCs, x_int, x_bool, x_str, x_es, x_esn, nth_0, nth_1, nth_2, nth_3, nth_4, nth_5, nth_6, nth_7, nth_8, nth_9, y_nil, y_int, y_bool, y_str, y_sl, y_nils, y_agg, y_ownp, y_own, z_nil, z_int, z_bool, z_str, z_sl, z_nils, b_nil, b_arr, b_box1, b_box2, b_box3, b_box4, List.map_cons, List.map_nil, Bool.and_self, Bool.and_true, Bool.true_and, Bool.not_true, Bool.not_false, Bool.or_false, Bool.false_or, cond_true, cond_false, okPack, okPut, okPutBlks, okPutCells, q_isP, q_isAg, q_isBox, q_isArr, q_int, q_bool, q_str, q_sl, q_nils, e_exit, e_ret, e_nrm, e_ret_exit, e_exit_ret, e_nrm_exit, e_nrm_ret, e_exit_nrm, e_ret_nrm, Nat.zero_add, Nat.reduceAdd, noslR, noslP, noslB, noslA, List.all_cons, List.all_nil]

def clamp (x lo hi : Int) : Int := maxI (minI hi x) lo
theorem c_Clamp (x lo hi : Int) : denC E 30 [AV.int .i64 x, AV.int .i64 lo, AV.int .i64 hi] [] = some ([RV.p (PV.int .i64 (clamp x lo hi))], []) := by
  rw [denC_eq, r30]
  rfl
theorem clamp_eq (x lo hi : Int) : clamp x lo hi = if (if hi ≤ x then hi else x) ≤ lo then lo else (if hi ≤ x then hi else x) := by
  unfold clamp maxI minI
  split <;> split <;> (try split) <;> omega
theorem clamp_in {x lo hi : Int} (h : lo ≤ hi) : lo ≤ clamp x lo hi ∧ clamp x lo hi ≤ hi := by
  rw [clamp_eq]; split <;> split <;> omega

/-- The check of Valid. -/
def okSB (s : Shr) : Bool := !(ltB s.lo (-5000) || ltB s.hi s.lo || ltB 5000 s.hi || ltB s.c 1 || ltB 100 s.c)
theorem okSB_iff {s : Shr} : okSB s = true ↔ OkS s := by
  unfold okSB OkS
  simp only [Bool.not_eq_true', Bool.or_eq_false_iff, decide_eq_false_iff_not]; omega

theorem valid_loop : ∀ (l p : List Shr), (p ++ l).length ≤ 8 →
    lp E (denC E) 22 0 [] 0 { vals := [AV.sl 3 (shK (p ++ l)), AV.int .i64 ((p ++ l).length : Int), AV.int .i64 (p.length : Int)], blks := [] } =
      ctl (l.all okSB) (some (Ex.exit 0, { vals := [], blks := [] })) (some (Ex.ret, { vals := [AV.int .i64 1], blks := [] }))
  | [], p, h => by
    rw [r22_0, ctl_dec, if_neg (by simp)]
    rfl
  | s :: l, p, h => by
    simp only [List.length_append, List.length_cons] at h
    rw [r22_0, ctl_dec, if_pos (by simp; omega), getE_mid]
    have ih := valid_loop l (p ++ [s]) (by simp; omega)
    simp only [List.append_assoc, List.cons_append, List.nil_append, List.length_append, List.length_cons, List.length_nil] at ih
    simp only [List.length_append, List.length_cons, shC, bnd_some, ctl_true, ctl_false, ctl_and, ctl_or', ctl_or2, x_toPV, x_toCs, x_toCs2, x_toEs, x_bEs, x_bCs, x_aPV, x_aCs, x_int, x_bool, x_str, x_es, x_esn, nth_0, nth_1, nth_2, nth_3, nth_4, nth_5, nth_6, nth_7, nth_8, nth_9, y_nil, y_int, y_bool, y_str, y_sl, y_nils, y_agg, y_ownp, y_own, z_nil, z_int, z_bool, z_str, z_sl, z_nils, b_nil, b_arr, b_box1, b_box2, b_box3, b_box4, List.map_cons, List.map_nil, Bool.and_self, Bool.and_true, Bool.true_and, Bool.not_true, Bool.not_false, Bool.or_false, Bool.false_or, cond_true, cond_false, okPack, okPut, okPutBlks, okPutCells, q_isP, q_isAg, q_isBox, q_isArr, q_int, q_bool, q_str, q_sl, q_nils, e_exit, e_ret, e_nrm, e_ret_exit, e_exit_ret, e_nrm_exit, e_nrm_ret, e_exit_nrm, e_ret_nrm, Nat.zero_add, Nat.reduceAdd, noslR, noslP, noslB, noslA, List.all_cons, List.all_nil]
    rw [w64 (n := (p.length : Int) + 1) (by omega)]
    have e1 : ((p.length : Int) + 1) = ((p.length + (0 + 1) : Nat) : Int) := by omega
    rw [e1, ih]
    have e2 : (ltB s.lo (-5000) || ltB s.hi s.lo || ltB 5000 s.hi || ltB s.c 1 || ltB 100 s.c) = !okSB s := by unfold okSB; simp
    rw [e2]
    cases okSB s <;> rfl

/-- What Valid answers. -/
def validN (l : List Shr) : Int := if 8 < l.length then 2 else if l.all okSB = true then 0 else 1
theorem c_Valid (l : List Shr) : denC E 22 [AV.sl 3 (shK l)] [] = some ([RV.p (PV.int .i64 (validN l))], []) := by
  rw [denC_eq, r22, shK_length, ctl_dec]
  unfold validN
  by_cases h : 8 < l.length
  · rw [if_pos (by omega), if_pos h]
  · rw [if_neg (by omega), if_neg h]
    have hl := valid_loop l [] (by simp; omega)
    simp only [List.nil_append, List.length_nil] at hl
    have e0 : (((0 : Nat)) : Int) = 0 := rfl
    rw [e0] at hl
    rw [hl]
    by_cases h2 : l.all okSB = true
    · rw [if_pos h2, h2]
      simp only [bnd_some, ctl_true, ctl_false, ctl_and, ctl_or', ctl_or2, x_toPV, x_toCs, x_toCs2, x_toEs, x_bEs, x_bCs, x_aPV, x_aCs, x_int, x_bool, x_str, x_es, x_esn, nth_0, nth_1, nth_2, nth_3, nth_4, nth_5, nth_6, nth_7, nth_8, nth_9, y_nil, y_int, y_bool, y_str, y_sl, y_nils, y_agg, y_ownp, y_own, z_nil, z_int, z_bool, z_str, z_sl, z_nils, b_nil, b_arr, b_box1, b_box2, b_box3, b_box4, List.map_cons, List.map_nil, Bool.and_self, Bool.and_true, Bool.true_and, Bool.not_true, Bool.not_false, Bool.or_false, Bool.false_or, cond_true, cond_false, okPack, okPut, okPutBlks, okPutCells, q_isP, q_isAg, q_isBox, q_isArr, q_int, q_bool, q_str, q_sl, q_nils, e_exit, e_ret, e_nrm, e_ret_exit, e_exit_ret, e_nrm_exit, e_nrm_ret, e_exit_nrm, e_ret_nrm, Nat.zero_add, Nat.reduceAdd, noslR, noslP, noslB, noslA, List.all_cons, List.all_nil]
    · have h3 : l.all okSB = false := by simpa using h2
      rw [if_neg h2, h3]
      simp only [bnd_some, ctl_true, ctl_false, ctl_and, ctl_or', ctl_or2, x_toPV, x_toCs, x_toCs2, x_toEs, x_bEs, x_bCs, x_aPV, x_aCs, x_int, x_bool, x_str, x_es, x_esn, nth_0, nth_1, nth_2, nth_3, nth_4, nth_5, nth_6, nth_7, nth_8, nth_9, y_nil, y_int, y_bool, y_str, y_sl, y_nils, y_agg, y_ownp, y_own, z_nil, z_int, z_bool, z_str, z_sl, z_nils, b_nil, b_arr, b_box1, b_box2, b_box3, b_box4, List.map_cons, List.map_nil, Bool.and_self, Bool.and_true, Bool.true_and, Bool.not_true, Bool.not_false, Bool.or_false, Bool.false_or, cond_true, cond_false, okPack, okPut, okPutBlks, okPutCells, q_isP, q_isAg, q_isBox, q_isArr, q_int, q_bool, q_str, q_sl, q_nils, e_exit, e_ret, e_nrm, e_ret_exit, e_exit_ret, e_nrm_exit, e_nrm_ret, e_exit_nrm, e_ret_nrm, Nat.zero_add, Nat.reduceAdd, noslR, noslP, noslB, noslA, List.all_cons, List.all_nil]

theorem validN_ok {l : List Shr} : validN l = 0 ↔ OkL l := by
  unfold validN OkL
  by_cases h : 8 < l.length
  · rw [if_pos h]; omega
  · rw [if_neg h]
    by_cases h2 : l.all okSB = true
    · rw [if_pos h2]
      simp only [List.all_eq_true] at h2
      exact ⟨fun _ => ⟨by omega, fun s hs => okSB_iff.1 (h2 s hs)⟩, fun _ => rfl⟩
    · rw [if_neg h2]
      simp only [List.all_eq_true] at h2
      refine ⟨fun h => absurd h (by omega), fun ⟨_, h3⟩ => absurd (fun s hs => okSB_iff.2 (h3 s hs)) h2⟩

/-! ### Reach -/
def lows : List Shr → Int
  | [] => 0
  | s :: l => s.lo + lows l
def highs : List Shr → Int
  | [] => 0
  | s :: l => s.hi + highs l

theorem ends_in : ∀ {l : List Shr}, (∀ s ∈ l, OkS s) → -5000 * (l.length : Int) ≤ lows l ∧ lows l ≤ highs l ∧ highs l ≤ 5000 * (l.length : Int)
  | [], _ => by simp [lows, highs]
  | s :: l, h => by
    have h1 := ends_in (l := l) fun x hx => h x (List.mem_cons_of_mem _ hx)
    obtain ⟨a, b, c, _⟩ := h s (List.mem_cons_self ..)
    simp only [lows, highs, List.length_cons]
    omega

theorem reach_loop : ∀ (l p : List Shr) (a b : Int), (p ++ l).length ≤ 8 → (∀ s ∈ l, OkS s) → -5000 * (p.length : Int) ≤ a ∧ a ≤ 5000 * (p.length : Int) → -5000 * (p.length : Int) ≤ b ∧ b ≤ 5000 * (p.length : Int) →
    lp E (denC E) 11 0 [] 0 { vals := [AV.int .i64 a, AV.int .i64 b, AV.sl 3 (shK (p ++ l)), AV.int .i64 ((p ++ l).length : Int), AV.int .i64 (p.length : Int)], blks := [] } =
      some (Ex.exit 0, { vals := [AV.int .i64 (a + lows l), AV.int .i64 (b + highs l)], blks := [] })
  | [], p, a, b, h, _, _, _ => by
    rw [r11_0, ctl_dec, if_neg (by simp)]
    simp [lows, highs]
  | s :: l, p, a, b, h, hs, ha, hb => by
    obtain ⟨h1, h2, h3, _⟩ := hs s (List.mem_cons_self ..)
    simp only [List.length_append, List.length_cons] at h
    have ih := reach_loop l (p ++ [s]) (a + s.lo) (b + s.hi) (by simp; omega) (fun x hx => hs x (List.mem_cons_of_mem _ hx)) (by simp; omega) (by simp; omega)
    rw [r11_0, ctl_dec, if_pos (by simp; omega), getE_mid]
    simp only [List.append_assoc, List.cons_append, List.nil_append, List.length_append, List.length_cons, List.length_nil] at ih
    simp only [List.length_append, List.length_cons, shC, bnd_some, ctl_true, ctl_false, ctl_and, ctl_or', ctl_or2, x_toPV, x_toCs, x_toCs2, x_toEs, x_bEs, x_bCs, x_aPV, x_aCs, x_int, x_bool, x_str, x_es, x_esn, nth_0, nth_1, nth_2, nth_3, nth_4, nth_5, nth_6, nth_7, nth_8, nth_9, y_nil, y_int, y_bool, y_str, y_sl, y_nils, y_agg, y_ownp, y_own, z_nil, z_int, z_bool, z_str, z_sl, z_nils, b_nil, b_arr, b_box1, b_box2, b_box3, b_box4, List.map_cons, List.map_nil, Bool.and_self, Bool.and_true, Bool.true_and, Bool.not_true, Bool.not_false, Bool.or_false, Bool.false_or, cond_true, cond_false, okPack, okPut, okPutBlks, okPutCells, q_isP, q_isAg, q_isBox, q_isArr, q_int, q_bool, q_str, q_sl, q_nils, e_exit, e_ret, e_nrm, e_ret_exit, e_exit_ret, e_nrm_exit, e_nrm_ret, e_exit_nrm, e_ret_nrm, Nat.zero_add, Nat.reduceAdd, noslR, noslP, noslB, noslA, List.all_cons, List.all_nil]
    rw [w64 (n := (p.length : Int) + 1) (by omega), w64 (n := a + s.lo) (by omega), w64 (n := b + s.hi) (by omega)]
    have e1 : ((p.length : Int) + 1) = ((p.length + (0 + 1) : Nat) : Int) := by omega
    rw [e1, ih]
    simp only [lows, highs, Int.add_assoc]

theorem c_Reach {l : List Shr} (h : OkL l) : denC E 11 [AV.sl 3 (shK l)] [] = some ([RV.p (PV.int .i64 (lows l)), RV.p (PV.int .i64 (highs l)), RV.p (PV.int .i64 0)], []) := by
  rw [denC_eq, r11, c_Valid, validN_ok.2 h, shK_length]
  have hl := reach_loop l [] 0 0 (by simpa using h.1) h.2 (by simp) (by simp)
  simp only [List.nil_append, List.length_nil, Int.zero_add] at hl
  have e0 : (((0 : Nat)) : Int) = 0 := rfl
  rw [e0] at hl
  have k : ((0 : Int) != 0) = false := rfl
  simp only [bnd_some, ctl_true, ctl_false, ctl_and, ctl_or', ctl_or2, x_toPV, x_toCs, x_toCs2, x_toEs, x_bEs, x_bCs, x_aPV, x_aCs, x_int, x_bool, x_str, x_es, x_esn, nth_0, nth_1, nth_2, nth_3, nth_4, nth_5, nth_6, nth_7, nth_8, nth_9, y_nil, y_int, y_bool, y_str, y_sl, y_nils, y_agg, y_ownp, y_own, z_nil, z_int, z_bool, z_str, z_sl, z_nils, b_nil, b_arr, b_box1, b_box2, b_box3, b_box4, List.map_cons, List.map_nil, Bool.and_self, Bool.and_true, Bool.true_and, Bool.not_true, Bool.not_false, Bool.or_false, Bool.false_or, cond_true, cond_false, okPack, okPut, okPutBlks, okPutCells, q_isP, q_isAg, q_isBox, q_isArr, q_int, q_bool, q_str, q_sl, q_nils, e_exit, e_ret, e_nrm, e_ret_exit, e_exit_ret, e_nrm_exit, e_nrm_ret, e_exit_nrm, e_ret_nrm, Nat.zero_add, Nat.reduceAdd, noslR, noslP, noslB, noslA, List.all_cons, List.all_nil, k]
  rw [hl]
  simp only [bnd_some, ctl_true, ctl_false, ctl_and, ctl_or', ctl_or2, x_toPV, x_toCs, x_toCs2, x_toEs, x_bEs, x_bCs, x_aPV, x_aCs, x_int, x_bool, x_str, x_es, x_esn, nth_0, nth_1, nth_2, nth_3, nth_4, nth_5, nth_6, nth_7, nth_8, nth_9, y_nil, y_int, y_bool, y_str, y_sl, y_nils, y_agg, y_ownp, y_own, z_nil, z_int, z_bool, z_str, z_sl, z_nils, b_nil, b_arr, b_box1, b_box2, b_box3, b_box4, List.map_cons, List.map_nil, Bool.and_self, Bool.and_true, Bool.true_and, Bool.not_true, Bool.not_false, Bool.or_false, Bool.false_or, cond_true, cond_false, okPack, okPut, okPutBlks, okPutCells, q_isP, q_isAg, q_isBox, q_isArr, q_int, q_bool, q_str, q_sl, q_nils, e_exit, e_ret, e_nrm, e_ret_exit, e_exit_ret, e_nrm_exit, e_nrm_ret, e_exit_nrm, e_ret_nrm, Nat.zero_add, Nat.reduceAdd, noslR, noslP, noslB, noslA, List.all_cons, List.all_nil]

theorem c_ReachBad {l : List Shr} (h : ¬ OkL l) : denC E 11 [AV.sl 3 (shK l)] [] = some ([RV.p (PV.int .i64 0), RV.p (PV.int .i64 0), RV.p (PV.int .i64 (validN l))], []) := by
  rw [denC_eq, r11, c_Valid]
  have k : (validN l != 0) = true := by simpa using fun hh => h (validN_ok.1 hh)
  simp only [bnd_some, ctl_true, ctl_false, ctl_and, ctl_or', ctl_or2, x_toPV, x_toCs, x_toCs2, x_toEs, x_bEs, x_bCs, x_aPV, x_aCs, x_int, x_bool, x_str, x_es, x_esn, nth_0, nth_1, nth_2, nth_3, nth_4, nth_5, nth_6, nth_7, nth_8, nth_9, y_nil, y_int, y_bool, y_str, y_sl, y_nils, y_agg, y_ownp, y_own, z_nil, z_int, z_bool, z_str, z_sl, z_nils, b_nil, b_arr, b_box1, b_box2, b_box3, b_box4, List.map_cons, List.map_nil, Bool.and_self, Bool.and_true, Bool.true_and, Bool.not_true, Bool.not_false, Bool.or_false, Bool.false_or, cond_true, cond_false, okPack, okPut, okPutBlks, okPutCells, q_isP, q_isAg, q_isBox, q_isArr, q_int, q_bool, q_str, q_sl, q_nils, e_exit, e_ret, e_nrm, e_ret_exit, e_exit_ret, e_nrm_exit, e_nrm_ret, e_exit_nrm, e_ret_nrm, Nat.zero_add, Nat.reduceAdd, noslR, noslP, noslB, noslA, List.all_cons, List.all_nil, k]

end Go.Proofs.Ytbacfgghneknjaa.Vm
