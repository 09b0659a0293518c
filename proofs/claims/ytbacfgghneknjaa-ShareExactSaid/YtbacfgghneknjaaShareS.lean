/- The source of shares and the examples of the chapter. -/
import Derived.Test.YtbacfgghneknjaaShareM
namespace Go.Proofs.Ytbacfgghneknjaa.Vm
set_option linter.unusedVariables false
set_option linter.unusedSimpArgs false

theorem ints_loop : ∀ (a b p q : List Int), p.length = q.length → a.length = b.length → (p ++ a).length ≤ 1000000000000 →
    lp E (denC E) 15 0 [] 0 { vals := [AV.sl 1 (intsK .i64 (p ++ a)), AV.sl 1 (intsK .i64 (q ++ b)), AV.int .i64 ((p ++ a).length : Int), AV.int .i64 (p.length : Int)], blks := [] } =
      if a = b then some (Ex.exit 0, { vals := [], blks := [] }) else some (Ex.ret, { vals := [AV.bool false], blks := [] })
  | [], [], p, q, hpq, _, hl => by
    rw [r15_0, ctl_dec, if_neg (by simp)]
    rfl
  | x :: a, y :: b, p, q, hpq, hab, hl => by
    simp only [List.length_append, List.length_cons] at hl
    simp only [List.length_cons] at hab
    rw [r15_0, ctl_dec, if_pos (by simp; omega), getE_ints (by simp; omega), getE_ints (by simp; omega)]
    have hx : (p ++ x :: a).getD ((p.length : Int)).toNat 0 = x := by simp [List.getD]
    have hy : (q ++ y :: b).getD ((p.length : Int)).toNat 0 = y := by simp [List.getD, hpq]
    rw [hx, hy]
    simp only [bnd_some, ctl_true, ctl_false, ctl_and, ctl_or', ctl_or2, x_toPV, x_toCs, x_toCs2, x_toEs, x_bEs, x_bCs, x_aPV, x_aCs, x_int, x_bool, x_str, x_es, x_esn, nth_0, nth_1, nth_2, nth_3, nth_4, nth_5, nth_6, nth_7, nth_8, nth_9, y_nil, y_int, y_bool, y_str, y_sl, y_nils, y_agg, y_ownp, y_own, z_nil, z_int, z_bool, z_str, z_sl, z_nils, b_nil, b_arr, b_box1, b_box2, b_box3, b_box4, List.map_cons, List.map_nil, Bool.and_self, Bool.and_true, Bool.true_and, Bool.not_true, Bool.not_false, Bool.or_false, Bool.false_or, cond_true, cond_false, okPack, okPut, okPutBlks, okPutCells, q_isP, q_isAg, q_isBox, q_isArr, q_int, q_bool, q_str, q_sl, q_nils, e_exit, e_ret, e_nrm, e_ret_exit, e_exit_ret, e_nrm_exit, e_nrm_ret, e_exit_nrm, e_ret_nrm, Nat.zero_add, Nat.reduceAdd, noslR, noslP, noslB, noslA, List.all_cons, List.all_nil]
    by_cases h : x = y
    · have hz : (x != y) = false := by simp [h]
      rw [hz, ctl_false, w64 (by omega)]
      have ih := ints_loop a b (p ++ [x]) (q ++ [y]) (by simp [hpq]) (by omega) (by simp; omega)
      simp only [List.append_assoc, List.cons_append, List.nil_append, List.length_append, List.length_cons, List.length_nil] at ih
      simp only [List.length_append, List.length_cons]
      have e1 : ((p.length : Int) + 1) = ((p.length + (0 + 1) : Nat) : Int) := by omega
      rw [e1, ih]
      simp [h]
    · have hz : (x != y) = true := by simp [h]
      rw [hz, ctl_true]
      simp [h]
  | [], _ :: _, _, _, _, h, _ => by simp at h
  | _ :: _, [], _, _, _, h, _ => by simp at h

theorem c_Ints (a b : List Int) (ha : a.length ≤ 1000000000000) : denC E 15 [AV.sl 1 (intsK .i64 a), AV.sl 1 (intsK .i64 b)] [] = some ([RV.p (PV.bool (decide (a = b)))], []) := by
  rw [denC_eq, r15, intsK_length, intsK_length]
  by_cases h : a.length = b.length
  · have hz : ((a.length : Int) != (b.length : Int)) = false := by simp [h]
    rw [hz, ctl_false]
    have hl := ints_loop a b [] [] rfl h (by simpa using ha)
    simp only [List.nil_append, List.length_nil] at hl
    have e0 : (((0 : Nat)) : Int) = 0 := rfl
    rw [e0] at hl
    rw [hl]
    by_cases hab : a = b
    · rw [if_pos hab]
      simp only [bnd_some, ctl_true, ctl_false, ctl_and, ctl_or', ctl_or2, x_toPV, x_toCs, x_toCs2, x_toEs, x_bEs, x_bCs, x_aPV, x_aCs, x_int, x_bool, x_str, x_es, x_esn, nth_0, nth_1, nth_2, nth_3, nth_4, nth_5, nth_6, nth_7, nth_8, nth_9, y_nil, y_int, y_bool, y_str, y_sl, y_nils, y_agg, y_ownp, y_own, z_nil, z_int, z_bool, z_str, z_sl, z_nils, b_nil, b_arr, b_box1, b_box2, b_box3, b_box4, List.map_cons, List.map_nil, Bool.and_self, Bool.and_true, Bool.true_and, Bool.not_true, Bool.not_false, Bool.or_false, Bool.false_or, cond_true, cond_false, okPack, okPut, okPutBlks, okPutCells, q_isP, q_isAg, q_isBox, q_isArr, q_int, q_bool, q_str, q_sl, q_nils, e_exit, e_ret, e_nrm, e_ret_exit, e_exit_ret, e_nrm_exit, e_nrm_ret, e_exit_nrm, e_ret_nrm, Nat.zero_add, Nat.reduceAdd, noslR, noslP, noslB, noslA, List.all_cons, List.all_nil]
      simp [hab]
    · rw [if_neg hab]
      simp only [bnd_some, ctl_true, ctl_false, ctl_and, ctl_or', ctl_or2, x_toPV, x_toCs, x_toCs2, x_toEs, x_bEs, x_bCs, x_aPV, x_aCs, x_int, x_bool, x_str, x_es, x_esn, nth_0, nth_1, nth_2, nth_3, nth_4, nth_5, nth_6, nth_7, nth_8, nth_9, y_nil, y_int, y_bool, y_str, y_sl, y_nils, y_agg, y_ownp, y_own, z_nil, z_int, z_bool, z_str, z_sl, z_nils, b_nil, b_arr, b_box1, b_box2, b_box3, b_box4, List.map_cons, List.map_nil, Bool.and_self, Bool.and_true, Bool.true_and, Bool.not_true, Bool.not_false, Bool.or_false, Bool.false_or, cond_true, cond_false, okPack, okPut, okPutBlks, okPutCells, q_isP, q_isAg, q_isBox, q_isArr, q_int, q_bool, q_str, q_sl, q_nils, e_exit, e_ret, e_nrm, e_ret_exit, e_exit_ret, e_nrm_exit, e_nrm_ret, e_exit_nrm, e_ret_nrm, Nat.zero_add, Nat.reduceAdd, noslR, noslP, noslB, noslA, List.all_cons, List.all_nil]
      simp [hab]
  · have hz : ((a.length : Int) != (b.length : Int)) = true := by simp; omega
    rw [hz, ctl_true]
    have : a ≠ b := fun e => h (by rw [e])
    simp [this]


def costL : List Int := [1, 1, 2, 3, 7, 100]
/-- One share of the source. -/
def shr1 (L : List Int) (k : Nat) : Shr := ⟨vRange L k (-9) 5, vRange L k (-9) 5 + vN L (at' L k) 12, vPick L (at' L (at' L k)) costL⟩
def sharesL (L : List Int) : Nat → Nat → List Shr × Nat
  | k, 0 => ([], k)
  | k, j + 1 => (shr1 L k :: (sharesL L (at' L (at' L (at' L k))) j).1, (sharesL L (at' L (at' L (at' L k))) j).2)

theorem shr1_ok (L : List Int) (k : Nat) : OkS (shr1 L k) ∧ -9 ≤ (shr1 L k).lo ∧ (shr1 L k).hi ≤ 16 := by
  have h1 := vRange_bounds (L := L) (k := k) (lo := -9) (hi := 5) (by omega)
  have h2 := vN_bounds (L := L) (k := at' L k) (n := 12) (by omega)
  have h3 := vPick_mem L (at' L (at' L k)) (l := costL) (by decide)
  unfold costL at h3
  simp only [List.mem_cons, List.not_mem_nil, or_false] at h3
  unfold OkS shr1 costL
  simp only
  omega

theorem shares_loop {L : List Int} (hL : L.length ≤ 600) : ∀ (j k : Nat) (acc : List (List PV)), k ≤ 600 → acc.length + j ≤ 1000 →
    lp E (denC E) 10 1 [] 0 { vals := [AV.int .i64 (j : Int)], blks := [src L k, Blk.arr 3 acc] } =
      some (Ex.exit 0, { vals := [], blks := [src L (sharesL L k j).2, Blk.arr 3 (acc ++ shK (sharesL L k j).1)] })
  | 0, k, acc, hk, ha => by
    rw [r10_0, ctl_dec, if_neg (by simp)]
    simp [sharesL, shK]
  | j + 1, k, acc, hk, ha => by
    have h1 := at'_le hL hk
    have h2 := at'_le hL h1
    have h3 := at'_le hL h2
    have b1 := vRange_bounds (L := L) (k := k) (lo := -9) (hi := 5) (by omega)
    have b2 := vN_bounds (L := L) (k := at' L k) (n := 12) (by omega)
    rw [r10_0, ctl_dec, if_pos (by omega)]
    rw [c_Range hL hk (lo := -9) (hi := 5) (by decide)]
    simp only [bnd_some, ctl_true, ctl_false, ctl_and, ctl_or', ctl_or2, x_toPV, x_toCs, x_toCs2, x_toEs, x_bEs, x_bCs, x_aPV, x_aCs, x_int, x_bool, x_str, x_es, x_esn, nth_0, nth_1, nth_2, nth_3, nth_4, nth_5, nth_6, nth_7, nth_8, nth_9, y_nil, y_int, y_bool, y_str, y_sl, y_nils, y_agg, y_ownp, y_own, z_nil, z_int, z_bool, z_str, z_sl, z_nils, b_nil, b_arr, b_box1, b_box2, b_box3, b_box4, List.map_cons, List.map_nil, Bool.and_self, Bool.and_true, Bool.true_and, Bool.not_true, Bool.not_false, Bool.or_false, Bool.false_or, cond_true, cond_false, okPack, okPut, okPutBlks, okPutCells, q_isP, q_isAg, q_isBox, q_isArr, q_int, q_bool, q_str, q_sl, q_nils, e_exit, e_ret, e_nrm, e_ret_exit, e_exit_ret, e_nrm_exit, e_nrm_ret, e_exit_nrm, e_ret_nrm, Nat.zero_add, Nat.reduceAdd, noslR, noslP, noslB, noslA, List.all_cons, List.all_nil]
    rw [c_N hL h1 12 (by decide)]
    simp only [bnd_some, ctl_true, ctl_false, ctl_and, ctl_or', ctl_or2, x_toPV, x_toCs, x_toCs2, x_toEs, x_bEs, x_bCs, x_aPV, x_aCs, x_int, x_bool, x_str, x_es, x_esn, nth_0, nth_1, nth_2, nth_3, nth_4, nth_5, nth_6, nth_7, nth_8, nth_9, y_nil, y_int, y_bool, y_str, y_sl, y_nils, y_agg, y_ownp, y_own, z_nil, z_int, z_bool, z_str, z_sl, z_nils, b_nil, b_arr, b_box1, b_box2, b_box3, b_box4, List.map_cons, List.map_nil, Bool.and_self, Bool.and_true, Bool.true_and, Bool.not_true, Bool.not_false, Bool.or_false, Bool.false_or, cond_true, cond_false, okPack, okPut, okPutBlks, okPutCells, q_isP, q_isAg, q_isBox, q_isArr, q_int, q_bool, q_str, q_sl, q_nils, e_exit, e_ret, e_nrm, e_ret_exit, e_exit_ret, e_nrm_exit, e_nrm_ret, e_exit_nrm, e_ret_nrm, Nat.zero_add, Nat.reduceAdd, noslR, noslP, noslB, noslA, List.all_cons, List.all_nil]
    have e1 : denC E 21 [AV.t (.ptr 0 0), AV.sl 1 [[PV.int .i64 1], [PV.int .i64 1], [PV.int .i64 2], [PV.int .i64 3], [PV.int .i64 7], [PV.int .i64 100]]] [src L (at' L (at' L k))] = _ := c_Pick hL h2 (l := costL) (by decide)
    rw [e1]
    simp only [bnd_some, ctl_true, ctl_false, ctl_and, ctl_or', ctl_or2, x_toPV, x_toCs, x_toCs2, x_toEs, x_bEs, x_bCs, x_aPV, x_aCs, x_int, x_bool, x_str, x_es, x_esn, nth_0, nth_1, nth_2, nth_3, nth_4, nth_5, nth_6, nth_7, nth_8, nth_9, y_nil, y_int, y_bool, y_str, y_sl, y_nils, y_agg, y_ownp, y_own, z_nil, z_int, z_bool, z_str, z_sl, z_nils, b_nil, b_arr, b_box1, b_box2, b_box3, b_box4, List.map_cons, List.map_nil, Bool.and_self, Bool.and_true, Bool.true_and, Bool.not_true, Bool.not_false, Bool.or_false, Bool.false_or, cond_true, cond_false, okPack, okPut, okPutBlks, okPutCells, q_isP, q_isAg, q_isBox, q_isArr, q_int, q_bool, q_str, q_sl, q_nils, e_exit, e_ret, e_nrm, e_ret_exit, e_exit_ret, e_nrm_exit, e_nrm_ret, e_exit_nrm, e_ret_nrm, Nat.zero_add, Nat.reduceAdd, noslR, noslP, noslB, noslA, List.all_cons, List.all_nil]
    have hroom : (leN ((acc.length + 1) * 24) 140737488355328) = true := by simp; omega
    rw [hroom, ctl_true, w64 (n := ((j + 1 : Nat) : Int) - 1) (by omega), w64 (n := vRange L k (-9) 5 + vN L (at' L k) 12) (by omega)]
    have ih := shares_loop hL j (at' L (at' L (at' L k))) (acc ++ [shC (shr1 L k)]) h3 (by simp; omega)
    have e2 : (((j + 1 : Nat) : Int) - 1) = (j : Int) := by omega
    unfold shC shr1 at ih
    rw [e2, ih]
    simp [sharesL, shK, shC, shr1]

def shN (L : List Int) (k : Nat) (most : Int) : List Shr := (sharesL L (at' L k) (vN L k (most + 1)).toNat).1
def shAt (L : List Int) (k : Nat) (most : Int) : Nat := (sharesL L (at' L k) (vN L k (most + 1)).toNat).2

theorem sharesL_le {L : List Int} (hL : L.length ≤ 600) : ∀ (j : Nat) {k : Nat}, k ≤ 600 → (sharesL L k j).2 ≤ 600
  | 0, _, h => h
  | j + 1, _, h => sharesL_le hL j (at'_le hL (at'_le hL (at'_le hL h)))
theorem shAt_le {L : List Int} (hL : L.length ≤ 600) {k : Nat} (hk : k ≤ 600) (most : Int) : shAt L k most ≤ 600 := sharesL_le hL _ (at'_le hL hk)
theorem sharesL_length (L : List Int) : ∀ (j k : Nat), (sharesL L k j).1.length = j
  | 0, _ => rfl
  | j + 1, k => by simp [sharesL, sharesL_length L j]
theorem sharesL_ok (L : List Int) : ∀ (j k : Nat), ∀ s ∈ (sharesL L k j).1, OkS s ∧ -9 ≤ s.lo ∧ s.hi ≤ 16
  | 0, _, _, h => by cases h
  | j + 1, k, s, h => by
    simp only [sharesL, List.mem_cons] at h
    rcases h with rfl | h
    · exact shr1_ok L k
    · exact sharesL_ok L j _ s h
theorem shN_ok (L : List Int) (k : Nat) {most : Int} (hm : 0 ≤ most ∧ most ≤ 8) : OkL (shN L k most) ∧ ∀ s ∈ shN L k most, OkS s ∧ -9 ≤ s.lo ∧ s.hi ≤ 16 := by
  have hb := vN_bounds (L := L) (k := k) (n := most + 1) (by omega)
  refine ⟨⟨?_, fun s hs => (sharesL_ok L _ _ s hs).1⟩, sharesL_ok L _ _⟩
  unfold shN
  rw [sharesL_length]; omega

theorem c_Shares {L : List Int} {k : Nat} (hL : L.length ≤ 600) (hk : k ≤ 600) {most : Int} (hm : 0 ≤ most ∧ most ≤ 8) :
    denC E 10 [AV.t (.ptr 0 0), AV.int .i64 most] [src L k] = some ([RV.own 3 (shK (shN L k most))], [src L (shAt L k most)]) := by
  rw [denC_eq, r10, w64 (n := most + 1) (by omega), c_N hL hk _ (by omega)]
  have hb := vN_bounds (L := L) (k := k) (n := most + 1) (by omega)
  simp only [bnd_some, ctl_true, ctl_false, ctl_and, ctl_or', ctl_or2, x_toPV, x_toCs, x_toCs2, x_toEs, x_bEs, x_bCs, x_aPV, x_aCs, x_int, x_bool, x_str, x_es, x_esn, nth_0, nth_1, nth_2, nth_3, nth_4, nth_5, nth_6, nth_7, nth_8, nth_9, y_nil, y_int, y_bool, y_str, y_sl, y_nils, y_agg, y_ownp, y_own, z_nil, z_int, z_bool, z_str, z_sl, z_nils, b_nil, b_arr, b_box1, b_box2, b_box3, b_box4, List.map_cons, List.map_nil, Bool.and_self, Bool.and_true, Bool.true_and, Bool.not_true, Bool.not_false, Bool.or_false, Bool.false_or, cond_true, cond_false, okPack, okPut, okPutBlks, okPutCells, q_isP, q_isAg, q_isBox, q_isArr, q_int, q_bool, q_str, q_sl, q_nils, e_exit, e_ret, e_nrm, e_ret_exit, e_exit_ret, e_nrm_exit, e_nrm_ret, e_exit_nrm, e_ret_nrm, Nat.zero_add, Nat.reduceAdd, noslR, noslP, noslB, noslA, List.all_cons, List.all_nil]
  have ih := shares_loop hL (vN L k (most + 1)).toNat (at' L k) [] (at'_le hL hk) (by simp; omega)
  rw [Int.toNat_of_nonneg hb.1] at ih
  rw [ih]
  simp only [bnd_some, ctl_true, ctl_false, ctl_and, ctl_or', ctl_or2, x_toPV, x_toCs, x_toCs2, x_toEs, x_bEs, x_bCs, x_aPV, x_aCs, x_int, x_bool, x_str, x_es, x_esn, nth_0, nth_1, nth_2, nth_3, nth_4, nth_5, nth_6, nth_7, nth_8, nth_9, y_nil, y_int, y_bool, y_str, y_sl, y_nils, y_agg, y_ownp, y_own, z_nil, z_int, z_bool, z_str, z_sl, z_nils, b_nil, b_arr, b_box1, b_box2, b_box3, b_box4, List.map_cons, List.map_nil, Bool.and_self, Bool.and_true, Bool.true_and, Bool.not_true, Bool.not_false, Bool.or_false, Bool.false_or, cond_true, cond_false, okPack, okPut, okPutBlks, okPutCells, q_isP, q_isAg, q_isBox, q_isArr, q_int, q_bool, q_str, q_sl, q_nils, e_exit, e_ret, e_nrm, e_ret_exit, e_exit_ret, e_nrm_exit, e_nrm_ret, e_exit_nrm, e_ret_nrm, Nat.zero_add, Nat.reduceAdd, noslR, noslP, noslB, noslA, List.all_cons, List.all_nil, shN, shAt, List.nil_append]

/-- The price is the only one. -/
theorem IsP.uniq {l : List Shr} {T r p : Int} (hl : OkL l) (h : IsP l T r) (hp : -1000200 < p ∧ p < 1000200) (h1 : SP l (p - 1) < T) (h2 : T ≤ SP l p) : r = p := by
  rcases Int.lt_trichotomy r p with c | c | c
  · have d := SP_mono (show r ≤ p - 1 by omega) hl.2
    rcases h.enough with e | e <;> omega
  · exact c
  · have d := SP_mono (show p ≤ r - 1 by omega) hl.2
    rcases h.less with e | e <;> omega

theorem c_DivideAt {l : List Shr} (h : OkL l) {total p : Int} (ht : -500000 ≤ total ∧ total ≤ 500000) (hp : -1000200 < p ∧ p < 1000200)
    (h1 : SP l (p - 1) < clamp total (lows l) (highs l)) (h2 : clamp total (lows l) (highs l) ≤ SP l p) :
    denC E 13 [AV.sl 3 (shK l), AV.int .i64 total] [] =
      some ([RV.own 1 (intsK .i64 (divL l (clamp total (lows l) (highs l)) p)), RV.p (PV.int .i64 (total - clamp total (lows l) (highs l))), RV.p (PV.int .i64 0)], []) := by
  obtain ⟨r, hr, e⟩ := c_Divide h ht
  rw [hr.uniq h hp h1 h2] at e
  exact e

theorem c_sane : denC E 14 [] [] = some ([RV.p (PV.bool true)], []) := by
  rw [denC_eq, r14]
  have ok1 : OkL [⟨0, 10, 1⟩, ⟨0, 10, 2⟩] := ⟨by decide, fun s hs => by simp only [List.mem_cons, List.not_mem_nil, or_false] at hs; rcases hs with rfl | rfl <;> (unfold OkS; decide)⟩
  have ok2 : OkL [⟨0, 10, 1⟩, ⟨0, 10, 1⟩] := ⟨by decide, fun s hs => by simp only [List.mem_cons, List.not_mem_nil, or_false] at hs; rcases hs with rfl | rfl <;> (unfold OkS; decide)⟩
  have e1 := c_DivideAt ok1 (total := 9) (p := 11) (by decide) (by decide) (by decide +kernel) (by decide +kernel)
  have e2 := c_DivideAt ok2 (total := 5) (p := 5) (by decide) (by decide) (by decide +kernel) (by decide +kernel)
  have v1 : clamp 9 (lows [⟨0, 10, 1⟩, ⟨0, 10, 2⟩]) (highs [⟨0, 10, 1⟩, ⟨0, 10, 2⟩]) = 9 := by decide +kernel
  have v2 : clamp 5 (lows [⟨0, 10, 1⟩, ⟨0, 10, 1⟩]) (highs [⟨0, 10, 1⟩, ⟨0, 10, 1⟩]) = 5 := by decide +kernel
  have d1 : divL [⟨0, 10, 1⟩, ⟨0, 10, 2⟩] 9 11 = [6, 3] := by decide +kernel
  have d2 : divL [⟨0, 10, 1⟩, ⟨0, 10, 1⟩] 5 5 = [3, 2] := by decide +kernel
  rw [v1, d1] at e1
  rw [v2, d2] at e2
  have f1 : denC E 13 [AV.sl 3 [[PV.int .i64 0, PV.int .i64 10, PV.int .i64 1], [PV.int .i64 0, PV.int .i64 10, PV.int .i64 2]], AV.int .i64 9] [] = _ := e1
  have f2 : denC E 13 [AV.sl 3 [[PV.int .i64 0, PV.int .i64 10, PV.int .i64 1], [PV.int .i64 0, PV.int .i64 10, PV.int .i64 1]], AV.int .i64 5] [] = _ := e2
  have g1 : denC E 15 [AV.sl 1 (intsK .i64 [6, 3]), AV.sl 1 [[PV.int .i64 6], [PV.int .i64 3]]] [] = _ := c_Ints [6, 3] [6, 3] (by decide)
  have g2 : denC E 15 [AV.sl 1 (intsK .i64 [3, 2]), AV.sl 1 [[PV.int .i64 3], [PV.int .i64 2]]] [] = _ := c_Ints [3, 2] [3, 2] (by decide)
  have z1 : ((9 : Int) - 9 == 0) = true := rfl
  have z2 : ((5 : Int) - 5 == 0) = true := rfl
  have z3 : ((0 : Int) == 0) = true := rfl
  rw [f1]
  simp only [bnd_some, ctl_true, ctl_false, ctl_and, ctl_or', ctl_or2, x_toPV, x_toCs, x_toCs2, x_toEs, x_bEs, x_bCs, x_aPV, x_aCs, x_int, x_bool, x_str, x_es, x_esn, nth_0, nth_1, nth_2, nth_3, nth_4, nth_5, nth_6, nth_7, nth_8, nth_9, y_nil, y_int, y_bool, y_str, y_sl, y_nils, y_agg, y_ownp, y_own, z_nil, z_int, z_bool, z_str, z_sl, z_nils, b_nil, b_arr, b_box1, b_box2, b_box3, b_box4, List.map_cons, List.map_nil, Bool.and_self, Bool.and_true, Bool.true_and, Bool.not_true, Bool.not_false, Bool.or_false, Bool.false_or, cond_true, cond_false, okPack, okPut, okPutBlks, okPutCells, q_isP, q_isAg, q_isBox, q_isArr, q_int, q_bool, q_str, q_sl, q_nils, e_exit, e_ret, e_nrm, e_ret_exit, e_exit_ret, e_nrm_exit, e_nrm_ret, e_exit_nrm, e_ret_nrm, Nat.zero_add, Nat.reduceAdd, noslR, noslP, noslB, noslA, List.all_cons, List.all_nil]
  rw [f2]
  simp only [bnd_some, ctl_true, ctl_false, ctl_and, ctl_or', ctl_or2, x_toPV, x_toCs, x_toCs2, x_toEs, x_bEs, x_bCs, x_aPV, x_aCs, x_int, x_bool, x_str, x_es, x_esn, nth_0, nth_1, nth_2, nth_3, nth_4, nth_5, nth_6, nth_7, nth_8, nth_9, y_nil, y_int, y_bool, y_str, y_sl, y_nils, y_agg, y_ownp, y_own, z_nil, z_int, z_bool, z_str, z_sl, z_nils, b_nil, b_arr, b_box1, b_box2, b_box3, b_box4, List.map_cons, List.map_nil, Bool.and_self, Bool.and_true, Bool.true_and, Bool.not_true, Bool.not_false, Bool.or_false, Bool.false_or, cond_true, cond_false, okPack, okPut, okPutBlks, okPutCells, q_isP, q_isAg, q_isBox, q_isArr, q_int, q_bool, q_str, q_sl, q_nils, e_exit, e_ret, e_nrm, e_ret_exit, e_exit_ret, e_nrm_exit, e_nrm_ret, e_exit_nrm, e_ret_nrm, Nat.zero_add, Nat.reduceAdd, noslR, noslP, noslB, noslA, List.all_cons, List.all_nil, z1, z2, z3]
  rw [g1]
  simp only [bnd_some, ctl_true, ctl_false, ctl_and, ctl_or', ctl_or2, x_toPV, x_toCs, x_toCs2, x_toEs, x_bEs, x_bCs, x_aPV, x_aCs, x_int, x_bool, x_str, x_es, x_esn, nth_0, nth_1, nth_2, nth_3, nth_4, nth_5, nth_6, nth_7, nth_8, nth_9, y_nil, y_int, y_bool, y_str, y_sl, y_nils, y_agg, y_ownp, y_own, z_nil, z_int, z_bool, z_str, z_sl, z_nils, b_nil, b_arr, b_box1, b_box2, b_box3, b_box4, List.map_cons, List.map_nil, Bool.and_self, Bool.and_true, Bool.true_and, Bool.not_true, Bool.not_false, Bool.or_false, Bool.false_or, cond_true, cond_false, okPack, okPut, okPutBlks, okPutCells, q_isP, q_isAg, q_isBox, q_isArr, q_int, q_bool, q_str, q_sl, q_nils, e_exit, e_ret, e_nrm, e_ret_exit, e_exit_ret, e_nrm_exit, e_nrm_ret, e_exit_nrm, e_ret_nrm, Nat.zero_add, Nat.reduceAdd, noslR, noslP, noslB, noslA, List.all_cons, List.all_nil, decide_true]
  rw [g2]
  simp only [bnd_some, ctl_true, ctl_false, ctl_and, ctl_or', ctl_or2, x_toPV, x_toCs, x_toCs2, x_toEs, x_bEs, x_bCs, x_aPV, x_aCs, x_int, x_bool, x_str, x_es, x_esn, nth_0, nth_1, nth_2, nth_3, nth_4, nth_5, nth_6, nth_7, nth_8, nth_9, y_nil, y_int, y_bool, y_str, y_sl, y_nils, y_agg, y_ownp, y_own, z_nil, z_int, z_bool, z_str, z_sl, z_nils, b_nil, b_arr, b_box1, b_box2, b_box3, b_box4, List.map_cons, List.map_nil, Bool.and_self, Bool.and_true, Bool.true_and, Bool.not_true, Bool.not_false, Bool.or_false, Bool.false_or, cond_true, cond_false, okPack, okPut, okPutBlks, okPutCells, q_isP, q_isAg, q_isBox, q_isArr, q_int, q_bool, q_str, q_sl, q_nils, e_exit, e_ret, e_nrm, e_ret_exit, e_exit_ret, e_nrm_exit, e_nrm_ret, e_exit_nrm, e_ret_nrm, Nat.zero_add, Nat.reduceAdd, noslR, noslP, noslB, noslA, List.all_cons, List.all_nil, decide_true, nos_ints]

end Go.Proofs.Ytbacfgghneknjaa.Vm
