/- Price, and the document's Valid and Reach. -/
import Derived.Test.YtbacfgghneknjaaShareS
namespace Go.Proofs.Ytbacfgghneknjaa.Vm
set_option linter.unusedVariables false
set_option linter.unusedSimpArgs false

theorem rvalid_loop : ∀ (l p : List Shr), (p ++ l).length ≤ 8 →
    lp E (denC E) 23 0 [] 0 { vals := [AV.sl 3 (shK (p ++ l)), AV.int .i64 ((p ++ l).length : Int), AV.int .i64 (p.length : Int)], blks := [] } =
      ctl (l.all okSB) (some (Ex.exit 0, { vals := [], blks := [] })) (some (Ex.ret, { vals := [AV.int .i64 1], blks := [] }))
  | [], p, h => by
    rw [r23_0, ctl_dec, if_neg (by simp)]
    rfl
  | s :: l, p, h => by
    simp only [List.length_append, List.length_cons] at h
    rw [r23_0, ctl_dec, if_pos (by simp; omega), getE_mid]
    have ih := rvalid_loop l (p ++ [s]) (by simp; omega)
    simp only [List.append_assoc, List.cons_append, List.nil_append, List.length_append, List.length_cons, List.length_nil] at ih
    simp only [List.length_append, List.length_cons, shC, bnd_some, ctl_true, ctl_false, ctl_and, ctl_or', ctl_or2, x_toPV, x_toCs, x_toCs2, x_toEs, x_bEs, x_bCs, x_aPV, x_aCs, x_int, x_bool, x_str, x_es, x_esn, nth_0, nth_1, nth_2, nth_3, nth_4, nth_5, nth_6, nth_7, nth_8, nth_9, y_nil, y_int, y_bool, y_str, y_sl, y_nils, y_agg, y_ownp, y_own, z_nil, z_int, z_bool, z_str, z_sl, z_nils, b_nil, b_arr, b_box1, b_box2, b_box3, b_box4, List.map_cons, List.map_nil, Bool.and_self, Bool.and_true, Bool.true_and, Bool.not_true, Bool.not_false, Bool.or_false, Bool.false_or, cond_true, cond_false, okPack, okPut, okPutBlks, okPutCells, q_isP, q_isAg, q_isBox, q_isArr, q_int, q_bool, q_str, q_sl, q_nils, e_exit, e_ret, e_nrm, e_ret_exit, e_exit_ret, e_nrm_exit, e_nrm_ret, e_exit_nrm, e_ret_nrm, Nat.zero_add, Nat.reduceAdd, noslR, noslP, noslB, noslA, List.all_cons, List.all_nil]
    rw [w64 (n := (p.length : Int) + 1) (by omega)]
    have e1 : ((p.length : Int) + 1) = ((p.length + (0 + 1) : Nat) : Int) := by omega
    rw [e1, ih]
    have e2 : (ltB s.lo (-5000) || ltB s.hi s.lo || ltB 5000 s.hi || ltB s.c 1 || ltB 100 s.c) = !okSB s := by unfold okSB; simp
    rw [e2]
    cases okSB s <;> rfl

theorem c_RValid (l : List Shr) : denC E 23 [AV.sl 3 (shK l)] [] = some ([RV.p (PV.int .i64 (validN l))], []) := by
  rw [denC_eq, r23, shK_length, ctl_dec]
  unfold validN
  by_cases h : 8 < l.length
  · rw [if_pos (by omega), if_pos h]
  · rw [if_neg (by omega), if_neg h]
    have hl := rvalid_loop l [] (by simp; omega)
    simp only [List.nil_append, List.length_nil] at hl
    have e0 : (((0 : Nat)) : Int) = 0 := rfl
    rw [e0] at hl
    rw [hl]
    by_cases h2 : l.all okSB = true
    · rw [if_pos h2, h2]
      simp only [bnd_some, ctl_true, ctl_false, ctl_and, ctl_or', ctl_or2, x_toPV, x_toCs, x_toCs2, x_toEs, x_bEs, x_bCs, x_aPV, x_aCs, x_int, x_bool, x_str, x_es, x_esn, nth_0, nth_1, nth_2, nth_3, nth_4, nth_5, nth_6, nth_7, nth_8, nth_9, y_nil, y_int, y_bool, y_str, y_sl, y_nils, y_agg, y_ownp, y_own, z_nil, z_int, z_bool, z_str, z_sl, z_nils, b_nil, b_arr, b_box1, b_box2, b_box3, b_box4, List.map_cons, List.map_nil, Bool.and_self, Bool.and_true, Bool.true_and, Bool.not_true, Bool.not_false, Bool.or_false, Bool.false_or, cond_true, cond_false, okPack, okPut, okPutBlks, okPutCells, q_isP, q_isAg, q_isBox, q_isArr, q_int, q_bool, q_str, q_sl, q_nils, e_exit, e_ret, e_nrm, e_ret_exit, e_exit_ret, e_nrm_exit, e_nrm_ret, e_exit_nrm, e_ret_nrm, Nat.zero_add, Nat.reduceAdd, noslR, noslP, noslB, noslA, List.all_cons, List.all_nil]
    · have h3 : l.all okSB = false := by simpa using h2
      rw [if_neg h2, h3]
      simp only [bnd_some, ctl_true, ctl_false, ctl_and, ctl_or', ctl_or2, x_toPV, x_toCs, x_toCs2, x_toEs, x_bEs, x_bCs, x_aPV, x_aCs, x_int, x_bool, x_str, x_es, x_esn, nth_0, nth_1, nth_2, nth_3, nth_4, nth_5, nth_6, nth_7, nth_8, nth_9, y_nil, y_int, y_bool, y_str, y_sl, y_nils, y_agg, y_ownp, y_own, z_nil, z_int, z_bool, z_str, z_sl, z_nils, b_nil, b_arr, b_box1, b_box2, b_box3, b_box4, List.map_cons, List.map_nil, Bool.and_self, Bool.and_true, Bool.true_and, Bool.not_true, Bool.not_false, Bool.or_false, Bool.false_or, cond_true, cond_false, okPack, okPut, okPutBlks, okPutCells, q_isP, q_isAg, q_isBox, q_isArr, q_int, q_bool, q_str, q_sl, q_nils, e_exit, e_ret, e_nrm, e_ret_exit, e_exit_ret, e_nrm_exit, e_nrm_ret, e_exit_nrm, e_ret_nrm, Nat.zero_add, Nat.reduceAdd, noslR, noslP, noslB, noslA, List.all_cons, List.all_nil]

theorem rreach_loop : ∀ (l p : List Shr) (a b : Int), (p ++ l).length ≤ 8 → (∀ s ∈ l, OkS s) → -5000 * (p.length : Int) ≤ a ∧ a ≤ 5000 * (p.length : Int) → -5000 * (p.length : Int) ≤ b ∧ b ≤ 5000 * (p.length : Int) →
    lp E (denC E) 17 0 [] 0 { vals := [AV.int .i64 a, AV.int .i64 b, AV.sl 3 (shK (p ++ l)), AV.int .i64 ((p ++ l).length : Int), AV.int .i64 (p.length : Int)], blks := [] } =
      some (Ex.exit 0, { vals := [AV.int .i64 (a + lows l), AV.int .i64 (b + highs l)], blks := [] })
  | [], p, a, b, h, _, _, _ => by
    rw [r17_0, ctl_dec, if_neg (by simp)]
    simp [lows, highs]
  | s :: l, p, a, b, h, hs, ha, hb => by
    obtain ⟨h1, h2, h3, _⟩ := hs s (List.mem_cons_self ..)
    simp only [List.length_append, List.length_cons] at h
    have ih := rreach_loop l (p ++ [s]) (a + s.lo) (b + s.hi) (by simp; omega) (fun x hx => hs x (List.mem_cons_of_mem _ hx)) (by simp; omega) (by simp; omega)
    rw [r17_0, ctl_dec, if_pos (by simp; omega), getE_mid]
    simp only [List.append_assoc, List.cons_append, List.nil_append, List.length_append, List.length_cons, List.length_nil] at ih
    simp only [List.length_append, List.length_cons, shC, bnd_some, ctl_true, ctl_false, ctl_and, ctl_or', ctl_or2, x_toPV, x_toCs, x_toCs2, x_toEs, x_bEs, x_bCs, x_aPV, x_aCs, x_int, x_bool, x_str, x_es, x_esn, nth_0, nth_1, nth_2, nth_3, nth_4, nth_5, nth_6, nth_7, nth_8, nth_9, y_nil, y_int, y_bool, y_str, y_sl, y_nils, y_agg, y_ownp, y_own, z_nil, z_int, z_bool, z_str, z_sl, z_nils, b_nil, b_arr, b_box1, b_box2, b_box3, b_box4, List.map_cons, List.map_nil, Bool.and_self, Bool.and_true, Bool.true_and, Bool.not_true, Bool.not_false, Bool.or_false, Bool.false_or, cond_true, cond_false, okPack, okPut, okPutBlks, okPutCells, q_isP, q_isAg, q_isBox, q_isArr, q_int, q_bool, q_str, q_sl, q_nils, e_exit, e_ret, e_nrm, e_ret_exit, e_exit_ret, e_nrm_exit, e_nrm_ret, e_exit_nrm, e_ret_nrm, Nat.zero_add, Nat.reduceAdd, noslR, noslP, noslB, noslA, List.all_cons, List.all_nil]
    rw [w64 (n := (p.length : Int) + 1) (by omega), w64 (n := a + s.lo) (by omega), w64 (n := b + s.hi) (by omega)]
    have e1 : ((p.length : Int) + 1) = ((p.length + (0 + 1) : Nat) : Int) := by omega
    rw [e1, ih]
    simp only [lows, highs, Int.add_assoc]

theorem c_RReach {l : List Shr} (h : OkL l) : denC E 17 [AV.sl 3 (shK l)] [] = some ([RV.p (PV.int .i64 (lows l)), RV.p (PV.int .i64 (highs l)), RV.p (PV.int .i64 0)], []) := by
  rw [denC_eq, r17, c_RValid, validN_ok.2 h, shK_length]
  have hl := rreach_loop l [] 0 0 (by simpa using h.1) h.2 (by simp) (by simp)
  simp only [List.nil_append, List.length_nil, Int.zero_add] at hl
  have e0 : (((0 : Nat)) : Int) = 0 := rfl
  rw [e0] at hl
  have k : ((0 : Int) != 0) = false := rfl
  simp only [bnd_some, ctl_true, ctl_false, ctl_and, ctl_or', ctl_or2, x_toPV, x_toCs, x_toCs2, x_toEs, x_bEs, x_bCs, x_aPV, x_aCs, x_int, x_bool, x_str, x_es, x_esn, nth_0, nth_1, nth_2, nth_3, nth_4, nth_5, nth_6, nth_7, nth_8, nth_9, y_nil, y_int, y_bool, y_str, y_sl, y_nils, y_agg, y_ownp, y_own, z_nil, z_int, z_bool, z_str, z_sl, z_nils, b_nil, b_arr, b_box1, b_box2, b_box3, b_box4, List.map_cons, List.map_nil, Bool.and_self, Bool.and_true, Bool.true_and, Bool.not_true, Bool.not_false, Bool.or_false, Bool.false_or, cond_true, cond_false, okPack, okPut, okPutBlks, okPutCells, q_isP, q_isAg, q_isBox, q_isArr, q_int, q_bool, q_str, q_sl, q_nils, e_exit, e_ret, e_nrm, e_ret_exit, e_exit_ret, e_nrm_exit, e_nrm_ret, e_exit_nrm, e_ret_nrm, Nat.zero_add, Nat.reduceAdd, noslR, noslP, noslB, noslA, List.all_cons, List.all_nil, k]
  rw [hl]
  simp only [bnd_some, ctl_true, ctl_false, ctl_and, ctl_or', ctl_or2, x_toPV, x_toCs, x_toCs2, x_toEs, x_bEs, x_bCs, x_aPV, x_aCs, x_int, x_bool, x_str, x_es, x_esn, nth_0, nth_1, nth_2, nth_3, nth_4, nth_5, nth_6, nth_7, nth_8, nth_9, y_nil, y_int, y_bool, y_str, y_sl, y_nils, y_agg, y_ownp, y_own, z_nil, z_int, z_bool, z_str, z_sl, z_nils, b_nil, b_arr, b_box1, b_box2, b_box3, b_box4, List.map_cons, List.map_nil, Bool.and_self, Bool.and_true, Bool.true_and, Bool.not_true, Bool.not_false, Bool.or_false, Bool.false_or, cond_true, cond_false, okPack, okPut, okPutBlks, okPutCells, q_isP, q_isAg, q_isBox, q_isArr, q_int, q_bool, q_str, q_sl, q_nils, e_exit, e_ret, e_nrm, e_ret_exit, e_exit_ret, e_nrm_exit, e_nrm_ret, e_exit_nrm, e_ret_nrm, Nat.zero_add, Nat.reduceAdd, noslR, noslP, noslB, noslA, List.all_cons, List.all_nil]


theorem getE_imid {α : Type} (d : List Int) (x : Int) (xs : List Int) {n : Nat} (h : d.length = n) (K : List PV → Option α) : getE (intsK .i64 (d ++ x :: xs)) (n : Int) K = K [PV.int .i64 x] := by
  subst h
  rw [getE_ints (by simp; omega)]
  simp [List.getD]

/-- Numbers in the ranges. -/
def InR : List Shr → List Int → Prop
  | [], [] => True
  | s :: l, x :: xs => (s.lo ≤ x ∧ x ≤ s.hi) ∧ InR l xs
  | _, _ => False

theorem InR.length : ∀ {l : List Shr} {x : List Int}, InR l x → x.length = l.length
  | [], [], _ => rfl
  | s :: l, x :: xs, h => by simp [InR.length h.2]
  | [], _ :: _, h => h.elim
  | _ :: _, [], h => h.elim

theorem Up.left : ∀ {l : List Shr} {x y : List Int}, Up l x y → InR l x
  | [], [], [], _ => trivial
  | s :: l, x :: xs, y :: ys, h => ⟨by have := h.1; omega, Up.left h.2⟩
  | [], _ :: _, _, h => h.elim
  | [], [], _ :: _, h => h.elim
  | _ :: _, [], _, h => h.elim
  | _ :: _, _ :: _, [], h => h.elim
theorem Up.right : ∀ {l : List Shr} {x y : List Int}, Up l x y → InR l y
  | [], [], [], _ => trivial
  | s :: l, x :: xs, y :: ys, h => ⟨by have := h.1; omega, Up.right h.2⟩
  | [], _ :: _, _, h => h.elim
  | [], [], _ :: _, h => h.elim
  | _ :: _, [], _, h => h.elim
  | _ :: _, _ :: _, [], h => h.elim

theorem ranged_loop : ∀ (l : List Shr) (x : List Int) (p : List Shr) (px : List Int), px.length = p.length → (p ++ l).length ≤ 8 → InR l x →
    lp E (denC E) 34 0 [] 0 { vals := [AV.sl 1 (intsK .i64 (px ++ x)), AV.sl 3 (shK (p ++ l)), AV.int .i64 ((p ++ l).length : Int), AV.int .i64 (p.length : Int)], blks := [] } =
      some (Ex.exit 0, { vals := [], blks := [] })
  | [], [], p, px, hx, hl, h => by
    rw [r34_0, ctl_dec, if_neg (by simp)]
  | s :: l, x :: xs, p, px, hx, hl, h => by
    obtain ⟨⟨a1, a2⟩, hn⟩ := h
    simp only [List.length_append, List.length_cons] at hl
    rw [r34_0, ctl_dec, if_pos (by simp; omega)]
    simp only [getE_mid, getE_imid px x xs hx]
    have ih := ranged_loop l xs (p ++ [s]) (px ++ [x]) (by simp [hx]) (by simp; omega) hn
    simp only [List.append_assoc, List.cons_append, List.nil_append, List.length_append, List.length_cons, List.length_nil] at ih
    simp only [List.length_append, List.length_cons, shC, bnd_some, ctl_true, ctl_false, ctl_and, ctl_or', ctl_or2, x_toPV, x_toCs, x_toCs2, x_toEs, x_bEs, x_bCs, x_aPV, x_aCs, x_int, x_bool, x_str, x_es, x_esn, nth_0, nth_1, nth_2, nth_3, nth_4, nth_5, nth_6, nth_7, nth_8, nth_9, y_nil, y_int, y_bool, y_str, y_sl, y_nils, y_agg, y_ownp, y_own, z_nil, z_int, z_bool, z_str, z_sl, z_nils, b_nil, b_arr, b_box1, b_box2, b_box3, b_box4, List.map_cons, List.map_nil, Bool.and_self, Bool.and_true, Bool.true_and, Bool.not_true, Bool.not_false, Bool.or_false, Bool.false_or, cond_true, cond_false, okPack, okPut, okPutBlks, okPutCells, q_isP, q_isAg, q_isBox, q_isArr, q_int, q_bool, q_str, q_sl, q_nils, e_exit, e_ret, e_nrm, e_ret_exit, e_exit_ret, e_nrm_exit, e_nrm_ret, e_exit_nrm, e_ret_nrm, Nat.zero_add, Nat.reduceAdd, noslR, noslP, noslB, noslA, List.all_cons, List.all_nil]
    have k1 : ltB x s.lo = false := by simp; omega
    have k2 : ltB s.hi x = false := by simp; omega
    rw [w64 (n := (p.length : Int) + 1) (by omega)]
    have e1 : ((p.length : Int) + 1) = ((p.length + (0 + 1) : Nat) : Int) := by omega
    simp only [k1, k2, bnd_some, ctl_true, ctl_false, ctl_and, ctl_or', ctl_or2, x_toPV, x_toCs, x_toCs2, x_toEs, x_bEs, x_bCs, x_aPV, x_aCs, x_int, x_bool, x_str, x_es, x_esn, nth_0, nth_1, nth_2, nth_3, nth_4, nth_5, nth_6, nth_7, nth_8, nth_9, y_nil, y_int, y_bool, y_str, y_sl, y_nils, y_agg, y_ownp, y_own, z_nil, z_int, z_bool, z_str, z_sl, z_nils, b_nil, b_arr, b_box1, b_box2, b_box3, b_box4, List.map_cons, List.map_nil, Bool.and_self, Bool.and_true, Bool.true_and, Bool.not_true, Bool.not_false, Bool.or_false, Bool.false_or, cond_true, cond_false, okPack, okPut, okPutBlks, okPutCells, q_isP, q_isAg, q_isBox, q_isArr, q_int, q_bool, q_str, q_sl, q_nils, e_exit, e_ret, e_nrm, e_ret_exit, e_exit_ret, e_nrm_exit, e_nrm_ret, e_exit_nrm, e_ret_nrm, Nat.zero_add, Nat.reduceAdd, noslR, noslP, noslB, noslA, List.all_cons, List.all_nil]
    rw [e1, ih]
  | [], _ :: _, _, _, _, _, h => h.elim
  | _ :: _, [], _, _, _, _, h => h.elim

theorem c_ranged {l : List Shr} {x : List Int} (h : OkL l) (hx : InR l x) : denC E 34 [AV.sl 3 (shK l), AV.sl 1 (intsK .i64 x)] [] = some ([RV.p (PV.bool true)], []) := by
  rw [denC_eq, r34, c_Valid, validN_ok.2 h, shK_length, intsK_length, hx.length]
  have hl := ranged_loop l x [] [] rfl (by simpa using h.1) hx
  simp only [List.nil_append, List.length_nil] at hl
  have e0 : (((0 : Nat)) : Int) = 0 := rfl
  rw [e0] at hl
  have z : ((0 : Int) != 0) = false := rfl
  simp only [bnd_some, ctl_true, ctl_false, ctl_and, ctl_or', ctl_or2, x_toPV, x_toCs, x_toCs2, x_toEs, x_bEs, x_bCs, x_aPV, x_aCs, x_int, x_bool, x_str, x_es, x_esn, nth_0, nth_1, nth_2, nth_3, nth_4, nth_5, nth_6, nth_7, nth_8, nth_9, y_nil, y_int, y_bool, y_str, y_sl, y_nils, y_agg, y_ownp, y_own, z_nil, z_int, z_bool, z_str, z_sl, z_nils, b_nil, b_arr, b_box1, b_box2, b_box3, b_box4, List.map_cons, List.map_nil, Bool.and_self, Bool.and_true, Bool.true_and, Bool.not_true, Bool.not_false, Bool.or_false, Bool.false_or, cond_true, cond_false, okPack, okPut, okPutBlks, okPutCells, q_isP, q_isAg, q_isBox, q_isArr, q_int, q_bool, q_str, q_sl, q_nils, e_exit, e_ret, e_nrm, e_ret_exit, e_exit_ret, e_nrm_exit, e_nrm_ret, e_exit_nrm, e_ret_nrm, Nat.zero_add, Nat.reduceAdd, noslR, noslP, noslB, noslA, List.all_cons, List.all_nil, z, bne_self_eq_false]
  rw [hl]
  simp only [bnd_some, ctl_true, ctl_false, ctl_and, ctl_or', ctl_or2, x_toPV, x_toCs, x_toCs2, x_toEs, x_bEs, x_bCs, x_aPV, x_aCs, x_int, x_bool, x_str, x_es, x_esn, nth_0, nth_1, nth_2, nth_3, nth_4, nth_5, nth_6, nth_7, nth_8, nth_9, y_nil, y_int, y_bool, y_str, y_sl, y_nils, y_agg, y_ownp, y_own, z_nil, z_int, z_bool, z_str, z_sl, z_nils, b_nil, b_arr, b_box1, b_box2, b_box3, b_box4, List.map_cons, List.map_nil, Bool.and_self, Bool.and_true, Bool.true_and, Bool.not_true, Bool.not_false, Bool.or_false, Bool.false_or, cond_true, cond_false, okPack, okPut, okPutBlks, okPutCells, q_isP, q_isAg, q_isBox, q_isArr, q_int, q_bool, q_str, q_sl, q_nils, e_exit, e_ret, e_nrm, e_ret_exit, e_exit_ret, e_nrm_exit, e_nrm_ret, e_exit_nrm, e_ret_nrm, Nat.zero_add, Nat.reduceAdd, noslR, noslP, noslB, noslA, List.all_cons, List.all_nil]

def lst (s : Shr) (x : Int) : Int := s.c * (2 * x - 1)
theorem c_last {s : Shr} {x : Int} (h : OkS s) (hx : -5001 ≤ x ∧ x ≤ 5001) : denC E 36 [AV.agg [PV.int .i64 s.lo, PV.int .i64 s.hi, PV.int .i64 s.c], AV.int .i64 x] [] = some ([RV.p (PV.int .i64 (lst s x))], []) := by
  obtain ⟨_, _, _, h4, h5⟩ := h
  rw [denC_eq, r36, w64 (n := 2 * x) (by omega), w64 (n := 2 * x - 1) (by omega)]
  have h1 := mul_le (a := s.c) (b := 2 * x - 1) (m := 100) (n := 20000) (by omega) (by omega)
  rw [w64 (by omega)]
  rfl

/-- What the loop of Price finds. -/
def prS (low high : Int) (less more : Bool) : List Shr → List Int → Int × Int × Bool × Bool
  | s :: l, x :: xs => prS (bif (ltB s.lo x && (!less || ltB low (lst s x))) then lst s x else low) (bif (ltB x s.hi && (!more || ltB (nxt s x) high)) then nxt s x else high)
      ((ltB s.lo x && (!less || ltB low (lst s x))) || less) ((ltB x s.hi && (!more || ltB (nxt s x) high)) || more) l xs
  | _, _ => (low, high, less, more)

theorem price_loop : ∀ (l : List Shr) (x : List Int) (p : List Shr) (px : List Int) (low high : Int) (less more : Bool), px.length = p.length → (p ++ l).length ≤ 8 → (∀ s ∈ l, OkS s) → InR l x →
    lp E (denC E) 20 0 [] 0 { vals := [AV.sl 1 (intsK .i64 (px ++ x)), AV.int .i64 low, AV.int .i64 high, AV.bool less, AV.bool more, AV.sl 3 (shK (p ++ l)), AV.int .i64 ((p ++ l).length : Int), AV.int .i64 (p.length : Int)], blks := [] } =
      some (Ex.exit 0, { vals := [AV.int .i64 (prS low high less more l x).1, AV.int .i64 (prS low high less more l x).2.1, AV.bool (prS low high less more l x).2.2.1, AV.bool (prS low high less more l x).2.2.2], blks := [] })
  | [], [], p, px, low, high, less, more, hx, hl, _, h => by
    rw [r20_0, ctl_dec, if_neg (by simp)]
    rfl
  | s :: l, x :: xs, p, px, low, high, less, more, hx, hl, hs, h => by
    obtain ⟨⟨a1, a2⟩, hn⟩ := h
    have hk := hs s (List.mem_cons_self ..)
    have hk' := hk
    obtain ⟨b1, b2, b3, _⟩ := hk'
    simp only [List.length_append, List.length_cons] at hl
    have ih := fun a b c d => price_loop l xs (p ++ [s]) (px ++ [x]) a b c d (by simp [hx]) (by simp; omega) (fun y hy => hs y (List.mem_cons_of_mem _ hy)) hn
    rw [r20_0, ctl_dec, if_pos (by simp; omega)]
    simp only [getE_mid, getE_imid px x xs hx]
    simp only [List.append_assoc, List.cons_append, List.nil_append, List.length_append, List.length_cons, List.length_nil] at ih
    simp only [List.length_append, List.length_cons, shC, bnd_some, ctl_true, ctl_false, ctl_and, ctl_or', ctl_or2, x_toPV, x_toCs, x_toCs2, x_toEs, x_bEs, x_bCs, x_aPV, x_aCs, x_int, x_bool, x_str, x_es, x_esn, nth_0, nth_1, nth_2, nth_3, nth_4, nth_5, nth_6, nth_7, nth_8, nth_9, y_nil, y_int, y_bool, y_str, y_sl, y_nils, y_agg, y_ownp, y_own, z_nil, z_int, z_bool, z_str, z_sl, z_nils, b_nil, b_arr, b_box1, b_box2, b_box3, b_box4, List.map_cons, List.map_nil, Bool.and_self, Bool.and_true, Bool.true_and, Bool.not_true, Bool.not_false, Bool.or_false, Bool.false_or, cond_true, cond_false, okPack, okPut, okPutBlks, okPutCells, q_isP, q_isAg, q_isBox, q_isArr, q_int, q_bool, q_str, q_sl, q_nils, e_exit, e_ret, e_nrm, e_ret_exit, e_exit_ret, e_nrm_exit, e_nrm_ret, e_exit_nrm, e_ret_nrm, Nat.zero_add, Nat.reduceAdd, noslR, noslP, noslB, noslA, List.all_cons, List.all_nil, c_last hk (show -5001 ≤ x ∧ x ≤ 5001 by omega), c_next hk (show -5001 ≤ x ∧ x ≤ 5001 by omega)]
    rw [w64 (n := (p.length : Int) + 1) (by omega)]
    have e1 : ((p.length : Int) + 1) = ((p.length + (0 + 1) : Nat) : Int) := by omega
    rw [e1]
    simp only [ih, prS]
    cases (ltB s.lo x && (!less || ltB low (lst s x))) <;> cases (ltB x s.hi && (!more || ltB (nxt s x) high)) <;> rfl
  | [], _ :: _, _, _, _, _, _, _, _, _, _, h => h.elim
  | _ :: _, [], _, _, _, _, _, _, _, _, _, h => h.elim

/-- What Price answers. -/
def prc (l : List Shr) (x : List Int) : Int × Int × Bool × Bool := prS 0 0 false false l x
theorem c_Price {l : List Shr} {x : List Int} (h : OkL l) (hx : InR l x) :
    denC E 20 [AV.sl 3 (shK l), AV.sl 1 (intsK .i64 x)] [] =
      some ([RV.p (PV.int .i64 (bif (prc l x).2.2.1 && (prc l x).2.2.2 then (prc l x).1 else 0)), RV.p (PV.int .i64 (bif (prc l x).2.2.1 && (prc l x).2.2.2 then (prc l x).2.1 else 0)), RV.p (PV.bool ((prc l x).2.2.1 && (prc l x).2.2.2))], []) := by
  rw [denC_eq, r20, c_ranged h hx, shK_length]
  have hl := price_loop l x [] [] 0 0 false false rfl (by simpa using h.1) h.2 hx
  simp only [List.nil_append, List.length_nil] at hl
  have e0 : (((0 : Nat)) : Int) = 0 := rfl
  rw [e0] at hl
  simp only [bnd_some, ctl_true, ctl_false, ctl_and, ctl_or', ctl_or2, x_toPV, x_toCs, x_toCs2, x_toEs, x_bEs, x_bCs, x_aPV, x_aCs, x_int, x_bool, x_str, x_es, x_esn, nth_0, nth_1, nth_2, nth_3, nth_4, nth_5, nth_6, nth_7, nth_8, nth_9, y_nil, y_int, y_bool, y_str, y_sl, y_nils, y_agg, y_ownp, y_own, z_nil, z_int, z_bool, z_str, z_sl, z_nils, b_nil, b_arr, b_box1, b_box2, b_box3, b_box4, List.map_cons, List.map_nil, Bool.and_self, Bool.and_true, Bool.true_and, Bool.not_true, Bool.not_false, Bool.or_false, Bool.false_or, cond_true, cond_false, okPack, okPut, okPutBlks, okPutCells, q_isP, q_isAg, q_isBox, q_isArr, q_int, q_bool, q_str, q_sl, q_nils, e_exit, e_ret, e_nrm, e_ret_exit, e_exit_ret, e_nrm_exit, e_nrm_ret, e_exit_nrm, e_ret_nrm, Nat.zero_add, Nat.reduceAdd, noslR, noslP, noslB, noslA, List.all_cons, List.all_nil]
  rw [hl]
  simp only [bnd_some, ctl_true, ctl_false, ctl_and, ctl_or', ctl_or2, x_toPV, x_toCs, x_toCs2, x_toEs, x_bEs, x_bCs, x_aPV, x_aCs, x_int, x_bool, x_str, x_es, x_esn, nth_0, nth_1, nth_2, nth_3, nth_4, nth_5, nth_6, nth_7, nth_8, nth_9, y_nil, y_int, y_bool, y_str, y_sl, y_nils, y_agg, y_ownp, y_own, z_nil, z_int, z_bool, z_str, z_sl, z_nils, b_nil, b_arr, b_box1, b_box2, b_box3, b_box4, List.map_cons, List.map_nil, Bool.and_self, Bool.and_true, Bool.true_and, Bool.not_true, Bool.not_false, Bool.or_false, Bool.false_or, cond_true, cond_false, okPack, okPut, okPutBlks, okPutCells, q_isP, q_isAg, q_isBox, q_isArr, q_int, q_bool, q_str, q_sl, q_nils, e_exit, e_ret, e_nrm, e_ret_exit, e_exit_ret, e_nrm_exit, e_nrm_ret, e_exit_nrm, e_ret_nrm, Nat.zero_add, Nat.reduceAdd, noslR, noslP, noslB, noslA, List.all_cons, List.all_nil]
  unfold prc
  cases (prS 0 0 false false l x).2.2.1 <;> cases (prS 0 0 false false l x).2.2.2 <;> rfl

/-- No loss is greater than the price, no growth less. -/
theorem prS_le {r : Int} : ∀ {l : List Shr} {x : List Int} {low high : Int} {less more : Bool}, (less = true → low ≤ r) → (more = true → r ≤ high) →
    (∀ (i : Nat) (s : Shr) (y : Int), l[i]? = some s → x[i]? = some y → (s.lo < y → lst s y ≤ r) ∧ (y < s.hi → r ≤ nxt s y)) →
    ((prS low high less more l x).2.2.1 = true → (prS low high less more l x).1 ≤ r) ∧ ((prS low high less more l x).2.2.2 = true → r ≤ (prS low high less more l x).2.1)
  | s :: l, x :: xs, low, high, less, more, h1, h2, h3 => by
    have h0 := h3 0 s x rfl rfl
    simp only [prS]
    refine prS_le (l := l) (x := xs) ?_ ?_ (fun i s' y hs hy => h3 (i + 1) s' y hs hy)
    · intro h
      cases hb : (ltB s.lo x && (!less || ltB low (lst s x))) with
      | true =>
        rw [Bool.and_eq_true, decide_eq_true_eq] at hb
        exact h0.1 hb.1
      | false =>
        rw [hb, Bool.false_or] at h
        exact h1 h
    · intro h
      cases hb : (ltB x s.hi && (!more || ltB (nxt s x) high)) with
      | true =>
        rw [Bool.and_eq_true, decide_eq_true_eq] at hb
        exact h0.2 hb.1
      | false =>
        rw [hb, Bool.false_or] at h
        exact h2 h
  | [], [], _, _, _, _, h1, h2, _ => ⟨h1, h2⟩
  | [], _ :: _, _, _, _, _, h1, h2, _ => ⟨h1, h2⟩
  | _ :: _, [], _, _, _, _, h1, h2, _ => ⟨h1, h2⟩

theorem step_low {p p' less less' : Bool} {a b low low' : Int} (hpp : p = true → p' = true) (hab : a ≤ b) (h1 : less = true → less' = true ∧ low ≤ low') :
    ((p && (!less || ltB low a)) || less) = true → ((p' && (!less' || ltB low' b)) || less') = true ∧ (bif (p && (!less || ltB low a)) then a else low) ≤ (bif (p' && (!less' || ltB low' b)) then b else low') := by
  have hq : ltB low a = true ↔ low < a := by simp
  have hq' : ltB low' b = true ↔ low' < b := by simp
  generalize ltB low a = q at *
  generalize ltB low' b = q' at *
  cases p <;> cases p' <;> cases less <;> cases less' <;> cases q <;> cases q' <;> (try simp at hpp h1 hq hq' ⊢) <;> (try omega)

theorem step_high {p p' more more' : Bool} {c d high high' : Int} (hpp : p' = true → p = true) (hcd : c ≤ d) (h2 : more' = true → more = true ∧ high ≤ high') :
    ((p' && (!more' || ltB d high')) || more') = true → ((p && (!more || ltB c high)) || more) = true ∧ (bif (p && (!more || ltB c high)) then c else high) ≤ (bif (p' && (!more' || ltB d high')) then d else high') := by
  have hq : ltB c high = true ↔ c < high := by simp
  have hq' : ltB d high' = true ↔ d < high' := by simp
  generalize ltB c high = q at *
  generalize ltB d high' = q' at *
  cases p <;> cases p' <;> cases more <;> cases more' <;> cases q <;> cases q' <;> (try simp at hpp h2 hq hq' ⊢) <;> (try omega)

/-- Greater numbers, greater prices. -/
theorem prS_up : ∀ {l : List Shr} {x y : List Int} {low high low' high' : Int} {less more less' more' : Bool}, (∀ s ∈ l, OkS s) → Up l x y →
    (less = true → less' = true ∧ low ≤ low') → (more' = true → more = true ∧ high ≤ high') →
    ((prS low high less more l x).2.2.1 = true → (prS low' high' less' more' l y).2.2.1 = true ∧ (prS low high less more l x).1 ≤ (prS low' high' less' more' l y).1) ∧
    ((prS low' high' less' more' l y).2.2.2 = true → (prS low high less more l x).2.2.2 = true ∧ (prS low high less more l x).2.1 ≤ (prS low' high' less' more' l y).2.1)
  | [], [], [], _, _, _, _, _, _, _, _, _, _, h1, h2 => ⟨h1, h2⟩
  | s :: l, x :: xs, y :: ys, low, high, low', high', less, more, less', more', hs, hu, h1, h2 => by
    obtain ⟨⟨u1, u2, u3, u4⟩, hu⟩ := hu
    have hk := (hs s (List.mem_cons_self ..)).2.2.2.1
    have m1 : lst s x ≤ lst s y := Int.mul_le_mul_of_nonneg_left (by omega) (by omega)
    have m2 : nxt s x ≤ nxt s y := Int.mul_le_mul_of_nonneg_left (by omega) (by omega)
    simp only [prS]
    generalize lst s x = a at *
    generalize lst s y = b at *
    generalize nxt s x = c at *
    generalize nxt s y = d at *
    refine prS_up (fun z hz => hs z (List.mem_cons_of_mem _ hz)) hu ?_ ?_
    · exact step_low (by simp; omega) m1 h1
    · exact step_high (by simp; omega) m2 h2
  | [], _ :: _, _, _, _, _, _, _, _, _, _, _, h, _, _ => h.elim
  | [], [], _ :: _, _, _, _, _, _, _, _, _, _, h, _, _ => h.elim
  | _ :: _, [], _, _, _, _, _, _, _, _, _, _, h, _, _ => h.elim
  | _ :: _, _ :: _, [], _, _, _, _, _, _, _, _, _, h, _, _ => h.elim

theorem nP_price {r x : Int} {s : Shr} (hs : OkS s) (h1 : nP (r - 1) s ≤ x) (h2 : x ≤ nP r s) : (s.lo < x → lst s x ≤ r) ∧ (x < s.hi → r ≤ nxt s x) := by
  obtain ⟨k1, k2, k3, k4, k5⟩ := hs
  unfold nP at h1 h2
  rw [clamp_eq] at h1 h2
  have b1 := div_bounds (r - 1 + s.c) (d := 2 * s.c) (by omega)
  have b2 := div_bounds (r + s.c) (d := 2 * s.c) (by omega)
  generalize (r - 1 + s.c) / (2 * s.c) = q at *
  generalize (r + s.c) / (2 * s.c) = q' at *
  rw [Int.mul_assoc] at b1 b2
  unfold lst nxt
  constructor
  · intro h
    have hq : x ≤ q' := by split at h2 <;> split at h2 <;> omega
    have e1 : s.c * x ≤ s.c * q' := Int.mul_le_mul_of_nonneg_left hq (by omega)
    rw [Int.mul_sub, Int.mul_one, Int.mul_left_comm]
    omega
  · intro h
    have hq : q ≤ x := by split at h1 <;> split at h1 <;> omega
    have e1 : s.c * q ≤ s.c * x := Int.mul_le_mul_of_nonneg_left hq (by omega)
    rw [Int.mul_add, Int.mul_one, Int.mul_left_comm]
    omega

theorem fillK_price (r : Int) : ∀ {l : List Shr} {k : Int}, (∀ s ∈ l, OkS s) → ∀ (i : Nat) (s : Shr) (y : Int), l[i]? = some s → (fillK r l k)[i]? = some y → (s.lo < y → lst s y ≤ r) ∧ (y < s.hi → r ≤ nxt s y)
  | s0 :: l, k, hs, i, s, y, h1, h2 => by
    have hk := hs s0 (List.mem_cons_self ..)
    obtain ⟨x, m, e1, a1, a2, _⟩ := fillK_at r hk k
    rw [e1] at h2
    cases i with
    | zero =>
      simp only [List.getElem?_cons_zero, Option.some.injEq] at h1 h2
      subst h1; subst h2
      exact nP_price hk a1 a2
    | succ i => exact fillK_price r (fun z hz => hs z (List.mem_cons_of_mem _ hz)) i s y h1 h2
  | [], _, _, _, _, _, h1, _ => by simp at h1

theorem divL_price {l : List Shr} (hl : OkL l) (T r : Int) : ((prc l (divL l T r)).2.2.1 = true → (prc l (divL l T r)).1 ≤ r) ∧ ((prc l (divL l T r)).2.2.2 = true → r ≤ (prc l (divL l T r)).2.1) := by
  rw [divL_eq hl]
  exact prS_le (fun h => by cases h) (fun h => by cases h) (fillK_price r hl.2)

end Go.Proofs.Ytbacfgghneknjaa.Vm
