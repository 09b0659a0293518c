import Derived.Test.YtcopadohnlcheaaDoorSigD
/- Contracts of chapter 06: reading signals. -/
namespace Go.Proofs.YtcopadohnlcheaaDoor.Vm
set_option linter.unusedVariables false
set_option linter.unusedSimpArgs false

/-! ### The form of a word -/
def idxF : List (List UInt8 × List (Int × Int)) → List UInt8 → Int
  | [], _ => -1
  | f :: l, w => if (f.1 == w) = true then 0 else if (idxF l w == -1) = true then -1 else idxF l w + 1
theorem idxF_ge (l : List (List UInt8 × List (Int × Int))) (w : List UInt8) : -1 ≤ idxF l w ∧ idxF l w < (l.length : Int) := by
  induction l with
  | nil => simp [idxF]
  | cons f l ih =>
    unfold idxF
    split
    · exact ⟨by omega, by simp only [List.length_cons]; omega⟩
    · split
      · exact ⟨by omega, by simp only [List.length_cons]; omega⟩
      · exact ⟨by omega, by simp only [List.length_cons]; omega⟩
def kindOf (w : List UInt8) : Int := idxF formL w + 1
theorem kind_b (w : List UInt8) : 0 ≤ kindOf w ∧ kindOf w ≤ 6 := by
  have := idxF_ge formL w
  unfold kindOf
  have e : (formL.length : Int) = 6 := rfl
  omega
theorem kind_at (k : Int) (h : 1 ≤ k ∧ k ≤ 6) : kindOf (formAt k).1 = k := by
  rcases k6 h with rfl | rfl | rfl | rfl | rfl | rfl <;> decide +kernel
theorem idxF_hit : ∀ (l : List (List UInt8 × List (Int × Int))) (w : List UInt8), idxF l w ≠ -1 → (l.getD (idxF l w).toNat ([], [])).1 = w
  | [], w, h => by simp [idxF] at h
  | f :: l, w, h => by
    unfold idxF at h ⊢
    by_cases h1 : (f.1 == w) = true
    · rw [if_pos h1]; simpa using h1
    · rw [if_neg h1] at h ⊢
      by_cases h2 : (idxF l w == -1) = true
      · rw [if_pos h2] at h; exact absurd rfl h
      · rw [if_neg h2] at h ⊢
        have := idxF_hit l w (by simpa using h2)
        have hge := (idxF_ge l w).1
        have hne : idxF l w ≠ -1 := by simpa using h2
        have e : (idxF l w + 1).toNat = (idxF l w).toNat + 1 := by omega
        rw [e, List.getD_cons_succ]; exact this
theorem kind_word {w : List UInt8} (h : kindOf w ≠ 0) : (formAt (kindOf w)).1 = w := by
  have := idxF_hit formL w (by unfold kindOf at h; omega)
  unfold formAt kindOf
  have e : idxF formL w + 1 - 1 = idxF formL w := by omega
  rw [e]; exact this

theorem c_Readf (w : List UInt8) (sp : List (List PV)) (z : List (List UInt8)) (u : List UInt8) : denC E 39 [AV.agg [PV.str w, PV.sl 2 sp], AV.t (.ptr 0 0)] [Blk.box [AV.sl 1 (strsK (u :: z))]] = some ([RV.p (PV.bool (w == u))], [Blk.box [AV.sl 1 (strsK (u :: z))]]) := by
  rw [denC_eq, r39]
  have := getE_strs (α := Res) (s := u :: z) (i := 0) (by simp only [List.length_cons]; omega)
  rw [this]
  simp only [bnd_some, ctl_true, ctl_false, ctl_and, ctl_or', ctl_or2, x_toPV, x_toCs, x_toCs2, x_toEs, x_bEs, x_bCs, x_aPV, x_aCs, x_int, x_bool, x_str, x_es, x_esn, nth_0, nth_1, nth_2, nth_3, nth_4, nth_5, nth_6, nth_7, nth_8, nth_9, y_nil, y_int, y_bool, y_str, y_sl, y_nils, y_agg, y_ownp, y_own, z_nil, z_int, z_bool, z_str, z_sl, z_nils, b_nil, b_arr, b_box1, b_box2, b_box3, b_box4, List.map_cons, List.map_nil, Bool.and_self, Bool.and_true, Bool.true_and, Bool.not_true, Bool.not_false, Bool.or_false, Bool.false_or, cond_true, cond_false, okPack, okPut, okPutBlks, okPutCells, q_isP, q_isAg, q_isBox, q_isArr, q_int, q_bool, q_str, q_sl, q_nils, e_exit, e_ret, e_nrm, e_ret_exit, e_exit_ret, e_nrm_exit, e_nrm_ret, e_exit_nrm, e_ret_nrm, Nat.zero_add, Nat.reduceAdd, noslR, noslP, noslB, noslA, List.all_cons, List.all_nil]
  rfl

def fK (l : List (List UInt8 × List (Int × Int))) : List (List PV) := l.map fun f => [PV.str f.1, PV.sl 2 (spK f.2)]
theorem fK_length (l : List (List UInt8 × List (Int × Int))) : (fK l).length = l.length := by simp [fK]
theorem getE_fK {α : Type} (pre : List (List UInt8 × List (Int × Int))) (f : List UInt8 × List (Int × Int)) (l : List (List UInt8 × List (Int × Int))) (K : List PV → Option α) : getE (fK (pre ++ f :: l)) (pre.length : Int) K = K [PV.str f.1, PV.sl 2 (spK f.2)] := by
  unfold getE
  have h1 : leB 0 (pre.length : Int) = true := decide_eq_true (by omega)
  have h2 : ltB (pre.length : Int) ((fK (pre ++ f :: l)).length : Int) = true := decide_eq_true (by rw [fK_length]; simp; omega)
  rw [h1, h2]
  simp only [Bool.and_self, ctl_true, Int.toNat_natCast]
  rw [nth_eq]
  simp [fK, List.getD]

theorem l_idx (z : List (List UInt8)) (u : List UInt8) (l : List (List UInt8 × List (Int × Int))) : ∀ (pre : List (List UInt8 × List (Int × Int))), (pre ++ l).length ≤ 1000 →
    lp E (denC E) 38 1 [AV.undef, AV.fn 39 [TV.ptr 0 0]] 0 { vals := [AV.sl 2 (fK (pre ++ l)), AV.int .i64 (pre ++ l).length, AV.int .i64 pre.length], blks := [Blk.box [AV.sl 1 (strsK (u :: z))]] } =
    some (bif idxF l u == -1 then (Ex.exit 0, { vals := [], blks := [Blk.box [AV.sl 1 (strsK (u :: z))]] }) else (Ex.ret, { vals := [AV.int .i64 (pre.length + idxF l u)], blks := [Blk.box [AV.sl 1 (strsK (u :: z))]] })) := by
  induction l with
  | nil =>
    intro pre h
    rw [r38_0a, ctl_dec, if_neg (by simp)]
    rfl
  | cons f l ih =>
    intro pre h
    rw [r38_0a, ctl_dec, if_pos (by simp; omega), getE_fK]
    simp only [bnd_some, ctl_true, ctl_false, ctl_and, ctl_or', ctl_or2, x_toPV, x_toCs, x_toCs2, x_toEs, x_bEs, x_bCs, x_aPV, x_aCs, x_int, x_bool, x_str, x_es, x_esn, nth_0, nth_1, nth_2, nth_3, nth_4, nth_5, nth_6, nth_7, nth_8, nth_9, y_nil, y_int, y_bool, y_str, y_sl, y_nils, y_agg, y_ownp, y_own, z_nil, z_int, z_bool, z_str, z_sl, z_nils, b_nil, b_arr, b_box1, b_box2, b_box3, b_box4, List.map_cons, List.map_nil, Bool.and_self, Bool.and_true, Bool.true_and, Bool.not_true, Bool.not_false, Bool.or_false, Bool.false_or, cond_true, cond_false, okPack, okPut, okPutBlks, okPutCells, q_isP, q_isAg, q_isBox, q_isArr, q_int, q_bool, q_str, q_sl, q_nils, e_exit, e_ret, e_nrm, e_ret_exit, e_exit_ret, e_nrm_exit, e_nrm_ret, e_exit_nrm, e_ret_nrm, Nat.zero_add, Nat.reduceAdd, noslR, noslP, noslB, noslA, List.all_cons, List.all_nil]
    rw [c_Readf]
    simp only [bnd_some, ctl_true, ctl_false, ctl_and, ctl_or', ctl_or2, x_toPV, x_toCs, x_toCs2, x_toEs, x_bEs, x_bCs, x_aPV, x_aCs, x_int, x_bool, x_str, x_es, x_esn, nth_0, nth_1, nth_2, nth_3, nth_4, nth_5, nth_6, nth_7, nth_8, nth_9, y_nil, y_int, y_bool, y_str, y_sl, y_nils, y_agg, y_ownp, y_own, z_nil, z_int, z_bool, z_str, z_sl, z_nils, b_nil, b_arr, b_box1, b_box2, b_box3, b_box4, List.map_cons, List.map_nil, Bool.and_self, Bool.and_true, Bool.true_and, Bool.not_true, Bool.not_false, Bool.or_false, Bool.false_or, cond_true, cond_false, okPack, okPut, okPutBlks, okPutCells, q_isP, q_isAg, q_isBox, q_isArr, q_int, q_bool, q_str, q_sl, q_nils, e_exit, e_ret, e_nrm, e_ret_exit, e_exit_ret, e_nrm_exit, e_nrm_ret, e_exit_nrm, e_ret_nrm, Nat.zero_add, Nat.reduceAdd, noslR, noslP, noslB, noslA, List.all_cons, List.all_nil]
    unfold idxF
    cases hb : (f.1 == u) with
    | true => simp [bnd_some, ctl_true, ctl_false, ctl_and, ctl_or', ctl_or2, x_toPV, x_toCs, x_toCs2, x_toEs, x_bEs, x_bCs, x_aPV, x_aCs, x_int, x_bool, x_str, x_es, x_esn, nth_0, nth_1, nth_2, nth_3, nth_4, nth_5, nth_6, nth_7, nth_8, nth_9, y_nil, y_int, y_bool, y_str, y_sl, y_nils, y_agg, y_ownp, y_own, z_nil, z_int, z_bool, z_str, z_sl, z_nils, b_nil, b_arr, b_box1, b_box2, b_box3, b_box4, List.map_cons, List.map_nil, Bool.and_self, Bool.and_true, Bool.true_and, Bool.not_true, Bool.not_false, Bool.or_false, Bool.false_or, cond_true, cond_false, okPack, okPut, okPutBlks, okPutCells, q_isP, q_isAg, q_isBox, q_isArr, q_int, q_bool, q_str, q_sl, q_nils, e_exit, e_ret, e_nrm, e_ret_exit, e_exit_ret, e_nrm_exit, e_nrm_ret, e_exit_nrm, e_ret_nrm, Nat.zero_add, Nat.reduceAdd, noslR, noslP, noslB, noslA, List.all_cons, List.all_nil]
    | false =>
      have hge := (idxF_ge l u).1
      simp only [bnd_some, ctl_true, ctl_false, ctl_and, ctl_or', ctl_or2, x_toPV, x_toCs, x_toCs2, x_toEs, x_bEs, x_bCs, x_aPV, x_aCs, x_int, x_bool, x_str, x_es, x_esn, nth_0, nth_1, nth_2, nth_3, nth_4, nth_5, nth_6, nth_7, nth_8, nth_9, y_nil, y_int, y_bool, y_str, y_sl, y_nils, y_agg, y_ownp, y_own, z_nil, z_int, z_bool, z_str, z_sl, z_nils, b_nil, b_arr, b_box1, b_box2, b_box3, b_box4, List.map_cons, List.map_nil, Bool.and_self, Bool.and_true, Bool.true_and, Bool.not_true, Bool.not_false, Bool.or_false, Bool.false_or, cond_true, cond_false, okPack, okPut, okPutBlks, okPutCells, q_isP, q_isAg, q_isBox, q_isArr, q_int, q_bool, q_str, q_sl, q_nils, e_exit, e_ret, e_nrm, e_ret_exit, e_exit_ret, e_nrm_exit, e_nrm_ret, e_exit_nrm, e_ret_nrm, Nat.zero_add, Nat.reduceAdd, noslR, noslP, noslB, noslA, List.all_cons, List.all_nil, Bool.false_eq_true, if_false]
      rw [w64 (by simp at h; omega), len_snoc pre f, app_cons, ih (pre ++ [f]) (by simpa using h)]
      cases hm : (idxF l u == -1) with
      | true => simp
      | false =>
        have : (idxF l u + 1 == -1) = false := by
          have := (beq_eq_false_iff_ne).1 hm
          exact beq_eq_false_iff_ne.2 (by omega)
        simp only [Bool.false_eq_true, if_false, this, cond_false]
        congr 5
        simp; omega

theorem c_Idx (z : List (List UInt8)) (u : List UInt8) : denC E 38 [AV.sl 2 formK, AV.fn 39 [TV.ptr 0 0]] [Blk.box [AV.sl 1 (strsK (u :: z))]] = some ([RV.p (PV.int .i64 (kindOf u - 1))], [Blk.box [AV.sl 1 (strsK (u :: z))]]) := by
  rw [denC_eq, r38a]
  have hlp := l_idx z u formL [] (by decide)
  simp only [List.nil_append, List.length_nil] at hlp
  have hlp' : lp E (denC E) 38 1 [AV.undef, AV.fn 39 [TV.ptr 0 0]] 0 { vals := [AV.sl 2 formK, AV.int .i64 (formK.length : Int), AV.int .i64 0], blks := [Blk.box [AV.sl 1 (strsK (u :: z))]] } = _ := hlp
  rw [hlp']
  unfold kindOf
  cases hm : (idxF formL u == -1) with
  | true =>
    have := beq_iff_eq.1 hm
    rw [this]
    simp only [cond_true, bnd_some, ctl_true, ctl_false, ctl_and, ctl_or', ctl_or2, x_toPV, x_toCs, x_toCs2, x_toEs, x_bEs, x_bCs, x_aPV, x_aCs, x_int, x_bool, x_str, x_es, x_esn, nth_0, nth_1, nth_2, nth_3, nth_4, nth_5, nth_6, nth_7, nth_8, nth_9, y_nil, y_int, y_bool, y_str, y_sl, y_nils, y_agg, y_ownp, y_own, z_nil, z_int, z_bool, z_str, z_sl, z_nils, b_nil, b_arr, b_box1, b_box2, b_box3, b_box4, List.map_cons, List.map_nil, Bool.and_self, Bool.and_true, Bool.true_and, Bool.not_true, Bool.not_false, Bool.or_false, Bool.false_or, cond_true, cond_false, okPack, okPut, okPutBlks, okPutCells, q_isP, q_isAg, q_isBox, q_isArr, q_int, q_bool, q_str, q_sl, q_nils, e_exit, e_ret, e_nrm, e_ret_exit, e_exit_ret, e_nrm_exit, e_nrm_ret, e_exit_nrm, e_ret_nrm, Nat.zero_add, Nat.reduceAdd, noslR, noslP, noslB, noslA, List.all_cons, List.all_nil]
    rfl
  | false =>
    have e : ((0 : Nat) : Int) + idxF formL u = idxF formL u + 1 - 1 := by omega
    simp only [cond_false, bnd_some, ctl_true, ctl_false, ctl_and, ctl_or', ctl_or2, x_toPV, x_toCs, x_toCs2, x_toEs, x_bEs, x_bCs, x_aPV, x_aCs, x_int, x_bool, x_str, x_es, x_esn, nth_0, nth_1, nth_2, nth_3, nth_4, nth_5, nth_6, nth_7, nth_8, nth_9, y_nil, y_int, y_bool, y_str, y_sl, y_nils, y_agg, y_ownp, y_own, z_nil, z_int, z_bool, z_str, z_sl, z_nils, b_nil, b_arr, b_box1, b_box2, b_box3, b_box4, List.map_cons, List.map_nil, Bool.and_self, Bool.and_true, Bool.true_and, Bool.not_true, Bool.not_false, Bool.or_false, Bool.false_or, cond_true, cond_false, okPack, okPut, okPutBlks, okPutCells, q_isP, q_isAg, q_isBox, q_isArr, q_int, q_bool, q_str, q_sl, q_nils, e_exit, e_ret, e_nrm, e_ret_exit, e_exit_ret, e_nrm_exit, e_nrm_ret, e_exit_nrm, e_ret_nrm, Nat.zero_add, Nat.reduceAdd, noslR, noslP, noslB, noslA, List.all_cons, List.all_nil]
    rw [e]

/-! ### Equal lists of texts -/
theorem l_Eq (l : List (List UInt8)) : ∀ (pre a' : List (List UInt8)) (b' : List (List UInt8)), a' = pre ++ l → a'.length = b'.length → pre = b'.take pre.length → a'.length ≤ 1000000000 →
    lp E (denC E) 40 0 [] 0 { vals := [AV.sl 1 (strsK a'), AV.sl 1 (strsK b'), AV.int .i64 a'.length, AV.int .i64 pre.length], blks := [] } =
    some (bif l == b'.drop pre.length then (Ex.exit 0, { vals := [], blks := [] }) else (Ex.ret, { vals := [AV.bool false], blks := [] })) := by
  induction l with
  | nil =>
    intro pre a' b' ha hl hp hn
    rw [List.append_nil] at ha
    subst ha
    rw [r40_0, ctl_dec, if_neg (by omega), List.drop_of_length_le (by omega)]
    rfl
  | cons x l ih =>
    intro pre a' b' ha hl hp hn
    have hlt : pre.length < a'.length := by rw [ha]; simp
    have hxa : a'.getD ((pre.length : Int)).toNat [] = x := by rw [ha, Int.toNat_natCast, getD_mid]
    have hd : b'.drop pre.length = b'.getD pre.length [] :: b'.drop (pre.length + 1) := by
      rw [List.drop_eq_getElem_cons (by omega)]
      simp [List.getD, show pre.length < b'.length by omega]
    rw [r40_0, ctl_dec, if_pos (by omega), getE_strs (by omega), getE_strs (by omega), hxa, Int.toNat_natCast]
    simp only [bnd_some, ctl_true, ctl_false, ctl_and, ctl_or', ctl_or2, x_toPV, x_toCs, x_toCs2, x_toEs, x_bEs, x_bCs, x_aPV, x_aCs, x_int, x_bool, x_str, x_es, x_esn, nth_0, nth_1, nth_2, nth_3, nth_4, nth_5, nth_6, nth_7, nth_8, nth_9, y_nil, y_int, y_bool, y_str, y_sl, y_nils, y_agg, y_ownp, y_own, z_nil, z_int, z_bool, z_str, z_sl, z_nils, b_nil, b_arr, b_box1, b_box2, b_box3, b_box4, List.map_cons, List.map_nil, Bool.and_self, Bool.and_true, Bool.true_and, Bool.not_true, Bool.not_false, Bool.or_false, Bool.false_or, cond_true, cond_false, okPack, okPut, okPutBlks, okPutCells, q_isP, q_isAg, q_isBox, q_isArr, q_int, q_bool, q_str, q_sl, q_nils, e_exit, e_ret, e_nrm, e_ret_exit, e_exit_ret, e_nrm_exit, e_nrm_ret, e_exit_nrm, e_ret_nrm, Nat.zero_add, Nat.reduceAdd, noslR, noslP, noslB, noslA, List.all_cons, List.all_nil]
    rw [hd, w64 (by omega), len_snoc pre x]
    have hcc : (x :: l == b'.getD pre.length [] :: b'.drop (pre.length + 1)) = (x == b'.getD pre.length [] && l == b'.drop (pre.length + 1)) := rfl
    rw [hcc]
    cases hx : (x == b'.getD pre.length []) with
    | false => simp only [Bool.not_false, ctl_true, Bool.false_and, cond_false]
    | true =>
      have hxe := beq_iff_eq.1 hx
      have htk : pre ++ [x] = b'.take (pre ++ [x]).length := by
        have : b'.take (pre.length + 1) = b'.take pre.length ++ [b'.getD pre.length []] := by
          rw [List.take_add_one]
          simp [List.getD, show pre.length < b'.length by omega]
        rw [List.length_append, List.length_singleton, this, ← hp, hxe]
      rw [ih (pre ++ [x]) a' b' (by rw [ha]; simp) hl htk hn]
      simp only [Bool.not_true, ctl_false, Bool.true_and, List.length_append, List.length_singleton]

theorem c_Eq (a b : List (List UInt8)) (h : a.length ≤ 1000000000) : denC E 40 [AV.sl 1 (strsK a), AV.sl 1 (strsK b)] [] = some ([RV.p (PV.bool (a == b))], []) := by
  rw [denC_eq, r40, strsK_length, strsK_length]
  by_cases hl : a.length = b.length
  · have e : ((a.length : Int) != (b.length : Int)) = false := by rw [hl]; simp
    rw [e, ctl_false, show (AV.int IntKind.i64 0) = AV.int .i64 (([] : List (List UInt8)).length : Int) from rfl, l_Eq a [] a b rfl hl rfl h]
    simp only [List.length_nil, List.drop_zero]
    cases a == b <;> simp [bnd_some, ctl_true, ctl_false, ctl_and, ctl_or', ctl_or2, x_toPV, x_toCs, x_toCs2, x_toEs, x_bEs, x_bCs, x_aPV, x_aCs, x_int, x_bool, x_str, x_es, x_esn, nth_0, nth_1, nth_2, nth_3, nth_4, nth_5, nth_6, nth_7, nth_8, nth_9, y_nil, y_int, y_bool, y_str, y_sl, y_nils, y_agg, y_ownp, y_own, z_nil, z_int, z_bool, z_str, z_sl, z_nils, b_nil, b_arr, b_box1, b_box2, b_box3, b_box4, List.map_cons, List.map_nil, Bool.and_self, Bool.and_true, Bool.true_and, Bool.not_true, Bool.not_false, Bool.or_false, Bool.false_or, cond_true, cond_false, okPack, okPut, okPutBlks, okPutCells, q_isP, q_isAg, q_isBox, q_isArr, q_int, q_bool, q_str, q_sl, q_nils, e_exit, e_ret, e_nrm, e_ret_exit, e_exit_ret, e_nrm_exit, e_nrm_ret, e_exit_nrm, e_ret_nrm, Nat.zero_add, Nat.reduceAdd, noslR, noslP, noslB, noslA, List.all_cons, List.all_nil, okPack, okPut, okPutBlks]
  · have e : ((a.length : Int) != (b.length : Int)) = true := by simp; omega
    have e2 : (a == b) = false := by
      rw [Bool.eq_false_iff]
      intro hh
      exact hl (by rw [beq_iff_eq.1 hh])
    rw [e, ctl_true, e2]

/-! ### Reading: the program -/
def nb (l : List Int) : Blk := Blk.box [AV.int .i64 (l.getD 0 0), AV.int .i64 (l.getD 1 0), AV.int .i64 (l.getD 2 0), AV.int .i64 (l.getD 3 0), AV.int .i64 (l.getD 4 0)]
def zb : Blk := Blk.box [AV.int .i64 0, AV.int .i64 0, AV.int .i64 0, AV.int .i64 0, AV.int .i64 0, AV.int .i64 0]

theorem l_read (b0 : List (List PV)) (fs : List (List UInt8)) : ∀ (pre : List (List UInt8)) (l : List Int), l.length = pre.length → (pre ++ fs).length ≤ 5 → (∀ f ∈ fs, f.length ≤ 1000000) →
    lp E (denC E) 18 0 [] 0 { vals := [AV.sl 1 (strsK (pre ++ fs)), AV.int .i64 (pre ++ fs).length, AV.int .i64 pre.length], blks := [Blk.box [AV.sl 1 b0], zb, nb l] } =
    some (bif fs.all numB then (Ex.exit 0, { vals := [], blks := [Blk.box [AV.sl 1 b0], zb, nb (l ++ fs.map numI)] }) else (Ex.ret, { vals := [AV.int .i64 5], blks := [zb] })) := by
  induction fs with
  | nil =>
    intro pre l hl h hf
    unfold nb zb
    rw [r18_0, ctl_dec, if_neg (by simp), List.map_nil, List.append_nil]
    rfl
  | cons f fs ih =>
    intro pre l hl h hf
    have ihp := ih (pre ++ [f]) (l ++ [numI f]) (by simp [hl]) (by simpa using h) (fun x hx => hf x (by simp [hx]))
    have hlen : pre.length < 5 := by simp at h; omega
    have hnbl : ∀ (l : List Int), nb l = Blk.box [AV.int .i64 (l.getD 0 0), AV.int .i64 (l.getD 1 0), AV.int .i64 (l.getD 2 0), AV.int .i64 (l.getD 3 0), AV.int .i64 (l.getD 4 0)] := fun _ => rfl
    have hzb : zb = Blk.box [AV.int .i64 0, AV.int .i64 0, AV.int .i64 0, AV.int .i64 0, AV.int .i64 0, AV.int .i64 0] := rfl
    rw [hnbl l, hzb, r18_0, ctl_dec, if_pos (by simp; omega), getE_strs (by simp; omega)]
    simp only [Int.toNat_natCast, getD_mid, bnd_some, ctl_true, ctl_false, ctl_and, ctl_or', ctl_or2, x_toPV, x_toCs, x_toCs2, x_toEs, x_bEs, x_bCs, x_aPV, x_aCs, x_int, x_bool, x_str, x_es, x_esn, nth_0, nth_1, nth_2, nth_3, nth_4, nth_5, nth_6, nth_7, nth_8, nth_9, y_nil, y_int, y_bool, y_str, y_sl, y_nils, y_agg, y_ownp, y_own, z_nil, z_int, z_bool, z_str, z_sl, z_nils, b_nil, b_arr, b_box1, b_box2, b_box3, b_box4, List.map_cons, List.map_nil, Bool.and_self, Bool.and_true, Bool.true_and, Bool.not_true, Bool.not_false, Bool.or_false, Bool.false_or, cond_true, cond_false, okPack, okPut, okPutBlks, okPutCells, q_isP, q_isAg, q_isBox, q_isArr, q_int, q_bool, q_str, q_sl, q_nils, e_exit, e_ret, e_nrm, e_ret_exit, e_exit_ret, e_nrm_exit, e_nrm_ret, e_exit_nrm, e_ret_nrm, Nat.zero_add, Nat.reduceAdd, noslR, noslP, noslB, noslA, List.all_cons, List.all_nil]
    rw [c_Number f (hf f (by simp))]
    simp only [bnd_some, ctl_true, ctl_false, ctl_and, ctl_or', ctl_or2, x_toPV, x_toCs, x_toCs2, x_toEs, x_bEs, x_bCs, x_aPV, x_aCs, x_int, x_bool, x_str, x_es, x_esn, nth_0, nth_1, nth_2, nth_3, nth_4, nth_5, nth_6, nth_7, nth_8, nth_9, y_nil, y_int, y_bool, y_str, y_sl, y_nils, y_agg, y_ownp, y_own, z_nil, z_int, z_bool, z_str, z_sl, z_nils, b_nil, b_arr, b_box1, b_box2, b_box3, b_box4, List.map_cons, List.map_nil, Bool.and_self, Bool.and_true, Bool.true_and, Bool.not_true, Bool.not_false, Bool.or_false, Bool.false_or, cond_true, cond_false, okPack, okPut, okPutBlks, okPutCells, q_isP, q_isAg, q_isBox, q_isArr, q_int, q_bool, q_str, q_sl, q_nils, e_exit, e_ret, e_nrm, e_ret_exit, e_exit_ret, e_nrm_exit, e_nrm_ret, e_exit_nrm, e_ret_nrm, Nat.zero_add, Nat.reduceAdd, noslR, noslP, noslB, noslA, List.all_cons, List.all_nil]
    cases hn : numB f with
    | false => simp only [bnd_some, ctl_true, ctl_false, ctl_and, ctl_or', ctl_or2, x_toPV, x_toCs, x_toCs2, x_toEs, x_bEs, x_bCs, x_aPV, x_aCs, x_int, x_bool, x_str, x_es, x_esn, nth_0, nth_1, nth_2, nth_3, nth_4, nth_5, nth_6, nth_7, nth_8, nth_9, y_nil, y_int, y_bool, y_str, y_sl, y_nils, y_agg, y_ownp, y_own, z_nil, z_int, z_bool, z_str, z_sl, z_nils, b_nil, b_arr, b_box1, b_box2, b_box3, b_box4, List.map_cons, List.map_nil, Bool.and_self, Bool.and_true, Bool.true_and, Bool.not_true, Bool.not_false, Bool.or_false, Bool.false_or, cond_true, cond_false, okPack, okPut, okPutBlks, okPutCells, q_isP, q_isAg, q_isBox, q_isArr, q_int, q_bool, q_str, q_sl, q_nils, e_exit, e_ret, e_nrm, e_ret_exit, e_exit_ret, e_nrm_exit, e_nrm_ret, e_exit_nrm, e_ret_nrm, Nat.zero_add, Nat.reduceAdd, noslR, noslP, noslB, noslA, List.all_cons, List.all_nil, hn, Bool.false_and]
    | true =>
      simp only [bnd_some, ctl_true, ctl_false, ctl_and, ctl_or', ctl_or2, x_toPV, x_toCs, x_toCs2, x_toEs, x_bEs, x_bCs, x_aPV, x_aCs, x_int, x_bool, x_str, x_es, x_esn, nth_0, nth_1, nth_2, nth_3, nth_4, nth_5, nth_6, nth_7, nth_8, nth_9, y_nil, y_int, y_bool, y_str, y_sl, y_nils, y_agg, y_ownp, y_own, z_nil, z_int, z_bool, z_str, z_sl, z_nils, b_nil, b_arr, b_box1, b_box2, b_box3, b_box4, List.map_cons, List.map_nil, Bool.and_self, Bool.and_true, Bool.true_and, Bool.not_true, Bool.not_false, Bool.or_false, Bool.false_or, cond_true, cond_false, okPack, okPut, okPutBlks, okPutCells, q_isP, q_isAg, q_isBox, q_isArr, q_int, q_bool, q_str, q_sl, q_nils, e_exit, e_ret, e_nrm, e_ret_exit, e_exit_ret, e_nrm_exit, e_nrm_ret, e_exit_nrm, e_ret_nrm, Nat.zero_add, Nat.reduceAdd, noslR, noslP, noslB, noslA, List.all_cons, List.all_nil, hn, Bool.true_and]
      rw [w64 (by omega), len_snoc pre f, app_cons]
      rw [show (l ++ numI f :: List.map numI fs) = ((l ++ [numI f]) ++ List.map numI fs) by simp]
      rw [← hzb, ← ihp]
      match l, hl with
      | [], hl => rw [← hl]; rfl
      | [a], hl => rw [← hl]; rfl
      | [a, b], hl => rw [← hl]; rfl
      | [a, b, c], hl => rw [← hl]; rfl
      | [a, b, c, d], hl => rw [← hl]; rfl
      | a :: b :: c :: d :: e :: q, hl => simp at hl; omega

/-- What is read of a list of fields. -/
def mkS (k : Int) (l : List Int) : Sig := ⟨k, l.getD 0 0, l.getD 1 0, l.getD 2 0, l.getD 3 0, l.getD 4 0⟩
def rdA (z : List (List UInt8)) : Option Sig :=
  match z with
  | [] => none
  | w :: ns => if validB z = true ∧ z.length ≤ 6 ∧ ns.all numB = true then (if valS (mkS (kindOf w) (ns.map numI)) = true ∧ wr (mkS (kindOf w) (ns.map numI)) = z then some (mkS (kindOf w) (ns.map numI)) else none) else none
def rdR (o : Option Sig) : List RV := match o with
  | some x => [RV.agg (sgC x), RV.p (PV.int .i64 0)]
  | none => [RV.agg [PV.int .i64 0, PV.int .i64 0, PV.int .i64 0, PV.int .i64 0, PV.int .i64 0, PV.int .i64 0], RV.p (PV.int .i64 5)]

theorem cut1 (w : List UInt8) (ns : List (List UInt8)) : cutI (strsK (w :: ns)) 1 ((strsK (w :: ns)).length : Int) = strsK ns := by
  have e : ((strsK (w :: ns)).length : Int).toNat = (strsK (w :: ns)).length := by simp
  unfold cutI
  rw [e, List.take_length]
  rfl

theorem c_Read (z : List (List UInt8)) (h : z.length ≤ 100000) (hf : ∀ f ∈ z, f.length ≤ 1000000) : denC E 18 [AV.agg [PV.sl 1 (strsK z)]] [] = some (rdR (rdA z), []) := by
  rw [denC_eq, r18, c_Valid z h]
  simp only [bnd_some, ctl_true, ctl_false, ctl_and, ctl_or', ctl_or2, x_toPV, x_toCs, x_toCs2, x_toEs, x_bEs, x_bCs, x_aPV, x_aCs, x_int, x_bool, x_str, x_es, x_esn, nth_0, nth_1, nth_2, nth_3, nth_4, nth_5, nth_6, nth_7, nth_8, nth_9, y_nil, y_int, y_bool, y_str, y_sl, y_nils, y_agg, y_ownp, y_own, z_nil, z_int, z_bool, z_str, z_sl, z_nils, b_nil, b_arr, b_box1, b_box2, b_box3, b_box4, List.map_cons, List.map_nil, Bool.and_self, Bool.and_true, Bool.true_and, Bool.not_true, Bool.not_false, Bool.or_false, Bool.false_or, cond_true, cond_false, okPack, okPut, okPutBlks, okPutCells, q_isP, q_isAg, q_isBox, q_isArr, q_int, q_bool, q_str, q_sl, q_nils, e_exit, e_ret, e_nrm, e_ret_exit, e_exit_ret, e_nrm_exit, e_nrm_ret, e_exit_nrm, e_ret_nrm, Nat.zero_add, Nat.reduceAdd, noslR, noslP, noslB, noslA, List.all_cons, List.all_nil]
  rw [strsK_length]
  cases z with
  | nil => rfl
  | cons w ns =>
    unfold rdA
    simp only
    by_cases hv : validB (w :: ns) = true
    · by_cases h6 : (w :: ns).length ≤ 6
      · have e1 : ltB 6 ((w :: ns).length : Int) = false := decide_eq_false (by omega)
        have e2 : (leB 1 ((w :: ns).length : Int) && leB ((w :: ns).length : Int) ((w :: ns).length : Int)) = true := by
          rw [show leB 1 ((w :: ns).length : Int) = true from decide_eq_true (by simp only [List.length_cons]; omega), show leB ((w :: ns).length : Int) ((w :: ns).length : Int) = true from decide_eq_true (Int.le_refl _)]; rfl
        have hc := cut1 w ns
        rw [strsK_length] at hc
        have hlp := l_read (strsK (w :: ns)) ns [] [] rfl (by simp at h6 ⊢; omega) (fun f hf' => hf f (by simp [hf']))
        simp only [List.nil_append, List.length_nil] at hlp
        have hlp' : lp E (denC E) 18 0 [] 0 { vals := [AV.sl 1 (strsK ns), AV.int .i64 ns.length, AV.int .i64 0], blks := [Blk.box [AV.sl 1 (strsK (w :: ns))], Blk.box [AV.int .i64 0, AV.int .i64 0, AV.int .i64 0, AV.int .i64 0, AV.int .i64 0, AV.int .i64 0], Blk.box [AV.int .i64 0, AV.int .i64 0, AV.int .i64 0, AV.int .i64 0, AV.int .i64 0]] } = _ := hlp
        rw [hv, e1, e2, hc, strsK_length, hlp']
        simp only [Bool.not_true, Bool.or_false, Bool.or_self, bnd_some, ctl_true, ctl_false, ctl_and, ctl_or', ctl_or2, x_toPV, x_toCs, x_toCs2, x_toEs, x_bEs, x_bCs, x_aPV, x_aCs, x_int, x_bool, x_str, x_es, x_esn, nth_0, nth_1, nth_2, nth_3, nth_4, nth_5, nth_6, nth_7, nth_8, nth_9, y_nil, y_int, y_bool, y_str, y_sl, y_nils, y_agg, y_ownp, y_own, z_nil, z_int, z_bool, z_str, z_sl, z_nils, b_nil, b_arr, b_box1, b_box2, b_box3, b_box4, List.map_cons, List.map_nil, Bool.and_self, Bool.and_true, Bool.true_and, Bool.not_true, Bool.not_false, Bool.or_false, Bool.false_or, cond_true, cond_false, okPack, okPut, okPutBlks, okPutCells, q_isP, q_isAg, q_isBox, q_isArr, q_int, q_bool, q_str, q_sl, q_nils, e_exit, e_ret, e_nrm, e_ret_exit, e_exit_ret, e_nrm_exit, e_nrm_ret, e_exit_nrm, e_ret_nrm, Nat.zero_add, Nat.reduceAdd, noslR, noslP, noslB, noslA, List.all_cons, List.all_nil]
        cases hall : ns.all numB with
        | false =>
          rw [if_neg (fun hh => by have := hh.2.2; cases this)]
          rfl
        | true =>
          rw [if_pos ⟨trivial, h6, rfl⟩]
          have hkb := kind_b w
          unfold nb
          simp only [cond_true, bnd_some, ctl_true, ctl_false, ctl_and, ctl_or', ctl_or2, x_toPV, x_toCs, x_toCs2, x_toEs, x_bEs, x_bCs, x_aPV, x_aCs, x_int, x_bool, x_str, x_es, x_esn, nth_0, nth_1, nth_2, nth_3, nth_4, nth_5, nth_6, nth_7, nth_8, nth_9, y_nil, y_int, y_bool, y_str, y_sl, y_nils, y_agg, y_ownp, y_own, z_nil, z_int, z_bool, z_str, z_sl, z_nils, b_nil, b_arr, b_box1, b_box2, b_box3, b_box4, List.map_cons, List.map_nil, Bool.and_self, Bool.and_true, Bool.true_and, Bool.not_true, Bool.not_false, Bool.or_false, Bool.false_or, cond_true, cond_false, okPack, okPut, okPutBlks, okPutCells, q_isP, q_isAg, q_isBox, q_isArr, q_int, q_bool, q_str, q_sl, q_nils, e_exit, e_ret, e_nrm, e_ret_exit, e_exit_ret, e_nrm_exit, e_nrm_ret, e_exit_nrm, e_ret_nrm, Nat.zero_add, Nat.reduceAdd, noslR, noslP, noslB, noslA, List.all_cons, List.all_nil]
          rw [c_forms]
          simp only [bnd_some, ctl_true, ctl_false, ctl_and, ctl_or', ctl_or2, x_toPV, x_toCs, x_toCs2, x_toEs, x_bEs, x_bCs, x_aPV, x_aCs, x_int, x_bool, x_str, x_es, x_esn, nth_0, nth_1, nth_2, nth_3, nth_4, nth_5, nth_6, nth_7, nth_8, nth_9, y_nil, y_int, y_bool, y_str, y_sl, y_nils, y_agg, y_ownp, y_own, z_nil, z_int, z_bool, z_str, z_sl, z_nils, b_nil, b_arr, b_box1, b_box2, b_box3, b_box4, List.map_cons, List.map_nil, Bool.and_self, Bool.and_true, Bool.true_and, Bool.not_true, Bool.not_false, Bool.or_false, Bool.false_or, cond_true, cond_false, okPack, okPut, okPutBlks, okPutCells, q_isP, q_isAg, q_isBox, q_isArr, q_int, q_bool, q_str, q_sl, q_nils, e_exit, e_ret, e_nrm, e_ret_exit, e_exit_ret, e_nrm_exit, e_nrm_ret, e_exit_nrm, e_ret_nrm, Nat.zero_add, Nat.reduceAdd, noslR, noslP, noslB, noslA, List.all_cons, List.all_nil]
          rw [c_Idx ns w]
          simp only [bnd_some, ctl_true, ctl_false, ctl_and, ctl_or', ctl_or2, x_toPV, x_toCs, x_toCs2, x_toEs, x_bEs, x_bCs, x_aPV, x_aCs, x_int, x_bool, x_str, x_es, x_esn, nth_0, nth_1, nth_2, nth_3, nth_4, nth_5, nth_6, nth_7, nth_8, nth_9, y_nil, y_int, y_bool, y_str, y_sl, y_nils, y_agg, y_ownp, y_own, z_nil, z_int, z_bool, z_str, z_sl, z_nils, b_nil, b_arr, b_box1, b_box2, b_box3, b_box4, List.map_cons, List.map_nil, Bool.and_self, Bool.and_true, Bool.true_and, Bool.not_true, Bool.not_false, Bool.or_false, Bool.false_or, cond_true, cond_false, okPack, okPut, okPutBlks, okPutCells, q_isP, q_isAg, q_isBox, q_isArr, q_int, q_bool, q_str, q_sl, q_nils, e_exit, e_ret, e_nrm, e_ret_exit, e_exit_ret, e_nrm_exit, e_nrm_ret, e_exit_nrm, e_ret_nrm, Nat.zero_add, Nat.reduceAdd, noslR, noslP, noslB, noslA, List.all_cons, List.all_nil]
          have ek : IntKind.i64.wrap (1 + (kindOf w - 1)) = kindOf w := by rw [w64 (by omega)]; omega
          rw [ek]
          have hS := c_SValid (mkS (kindOf w) (ns.map numI))
          unfold mkS at hS
          rw [hS]
          simp only [bnd_some, ctl_true, ctl_false, ctl_and, ctl_or', ctl_or2, x_toPV, x_toCs, x_toCs2, x_toEs, x_bEs, x_bCs, x_aPV, x_aCs, x_int, x_bool, x_str, x_es, x_esn, nth_0, nth_1, nth_2, nth_3, nth_4, nth_5, nth_6, nth_7, nth_8, nth_9, y_nil, y_int, y_bool, y_str, y_sl, y_nils, y_agg, y_ownp, y_own, z_nil, z_int, z_bool, z_str, z_sl, z_nils, b_nil, b_arr, b_box1, b_box2, b_box3, b_box4, List.map_cons, List.map_nil, Bool.and_self, Bool.and_true, Bool.true_and, Bool.not_true, Bool.not_false, Bool.or_false, Bool.false_or, cond_true, cond_false, okPack, okPut, okPutBlks, okPutCells, q_isP, q_isAg, q_isBox, q_isArr, q_int, q_bool, q_str, q_sl, q_nils, e_exit, e_ret, e_nrm, e_ret_exit, e_exit_ret, e_nrm_exit, e_nrm_ret, e_exit_nrm, e_ret_nrm, Nat.zero_add, Nat.reduceAdd, noslR, noslP, noslB, noslA, List.all_cons, List.all_nil]
          cases hval : valS (mkS (kindOf w) (ns.map numI)) with
          | false =>
            unfold mkS at hval
            rw [hval, if_neg (fun hh => by have := hh.1; cases this)]
            rfl
          | true =>
            have hW := c_write hval
            unfold mkS at hW hval
            rw [hval, hW]
            simp only [bnd_some, ctl_true, ctl_false, ctl_and, ctl_or', ctl_or2, x_toPV, x_toCs, x_toCs2, x_toEs, x_bEs, x_bCs, x_aPV, x_aCs, x_int, x_bool, x_str, x_es, x_esn, nth_0, nth_1, nth_2, nth_3, nth_4, nth_5, nth_6, nth_7, nth_8, nth_9, y_nil, y_int, y_bool, y_str, y_sl, y_nils, y_agg, y_ownp, y_own, z_nil, z_int, z_bool, z_str, z_sl, z_nils, b_nil, b_arr, b_box1, b_box2, b_box3, b_box4, List.map_cons, List.map_nil, Bool.and_self, Bool.and_true, Bool.true_and, Bool.not_true, Bool.not_false, Bool.or_false, Bool.false_or, cond_true, cond_false, okPack, okPut, okPutBlks, okPutCells, q_isP, q_isAg, q_isBox, q_isArr, q_int, q_bool, q_str, q_sl, q_nils, e_exit, e_ret, e_nrm, e_ret_exit, e_exit_ret, e_nrm_exit, e_nrm_ret, e_exit_nrm, e_ret_nrm, Nat.zero_add, Nat.reduceAdd, noslR, noslP, noslB, noslA, List.all_cons, List.all_nil]
            have hwl : (wr (mkS (kindOf w) (ns.map numI))).length ≤ 1000000000 := by
              unfold wr; simp; omega
            unfold mkS at hwl
            rw [c_Eq _ _ hwl]
            simp only [bnd_some, ctl_true, ctl_false, ctl_and, ctl_or', ctl_or2, x_toPV, x_toCs, x_toCs2, x_toEs, x_bEs, x_bCs, x_aPV, x_aCs, x_int, x_bool, x_str, x_es, x_esn, nth_0, nth_1, nth_2, nth_3, nth_4, nth_5, nth_6, nth_7, nth_8, nth_9, y_nil, y_int, y_bool, y_str, y_sl, y_nils, y_agg, y_ownp, y_own, z_nil, z_int, z_bool, z_str, z_sl, z_nils, b_nil, b_arr, b_box1, b_box2, b_box3, b_box4, List.map_cons, List.map_nil, Bool.and_self, Bool.and_true, Bool.true_and, Bool.not_true, Bool.not_false, Bool.or_false, Bool.false_or, cond_true, cond_false, okPack, okPut, okPutBlks, okPutCells, q_isP, q_isAg, q_isBox, q_isArr, q_int, q_bool, q_str, q_sl, q_nils, e_exit, e_ret, e_nrm, e_ret_exit, e_exit_ret, e_nrm_exit, e_nrm_ret, e_exit_nrm, e_ret_nrm, Nat.zero_add, Nat.reduceAdd, noslR, noslP, noslB, noslA, List.all_cons, List.all_nil]
            by_cases heq : wr (mkS (kindOf w) (ns.map numI)) = w :: ns
            · rw [if_pos ⟨trivial, heq⟩]
              unfold mkS at heq
              rw [heq, beq_self_eq_true]
              rfl
            · rw [if_neg (fun hh => heq hh.2)]
              have : (wr (mkS (kindOf w) (ns.map numI)) == w :: ns) = false := by rw [beq_eq_false_iff_ne]; exact heq
              unfold mkS at this
              rw [this]
              rfl
      · have e1 : ltB 6 ((w :: ns).length : Int) = true := decide_eq_true (by omega)
        rw [e1, if_neg (fun hh => h6 hh.2.1)]
        simp only [Bool.or_true, bnd_some, ctl_true, ctl_false, ctl_and, ctl_or', ctl_or2, x_toPV, x_toCs, x_toCs2, x_toEs, x_bEs, x_bCs, x_aPV, x_aCs, x_int, x_bool, x_str, x_es, x_esn, nth_0, nth_1, nth_2, nth_3, nth_4, nth_5, nth_6, nth_7, nth_8, nth_9, y_nil, y_int, y_bool, y_str, y_sl, y_nils, y_agg, y_ownp, y_own, z_nil, z_int, z_bool, z_str, z_sl, z_nils, b_nil, b_arr, b_box1, b_box2, b_box3, b_box4, List.map_cons, List.map_nil, Bool.and_self, Bool.and_true, Bool.true_and, Bool.not_true, Bool.not_false, Bool.or_false, Bool.false_or, cond_true, cond_false, okPack, okPut, okPutBlks, okPutCells, q_isP, q_isAg, q_isBox, q_isArr, q_int, q_bool, q_str, q_sl, q_nils, e_exit, e_ret, e_nrm, e_ret_exit, e_exit_ret, e_nrm_exit, e_nrm_ret, e_exit_nrm, e_ret_nrm, Nat.zero_add, Nat.reduceAdd, noslR, noslP, noslB, noslA, List.all_cons, List.all_nil]
        rfl
    · have hv' : validB (w :: ns) = false := by simpa using hv
      rw [hv', if_neg (fun hh => by have := hh.1; cases this)]
      simp only [Bool.not_false, Bool.true_or, bnd_some, ctl_true, ctl_false, ctl_and, ctl_or', ctl_or2, x_toPV, x_toCs, x_toCs2, x_toEs, x_bEs, x_bCs, x_aPV, x_aCs, x_int, x_bool, x_str, x_es, x_esn, nth_0, nth_1, nth_2, nth_3, nth_4, nth_5, nth_6, nth_7, nth_8, nth_9, y_nil, y_int, y_bool, y_str, y_sl, y_nils, y_agg, y_ownp, y_own, z_nil, z_int, z_bool, z_str, z_sl, z_nils, b_nil, b_arr, b_box1, b_box2, b_box3, b_box4, List.map_cons, List.map_nil, Bool.and_self, Bool.and_true, Bool.true_and, Bool.not_true, Bool.not_false, Bool.or_false, Bool.false_or, cond_true, cond_false, okPack, okPut, okPutBlks, okPutCells, q_isP, q_isAg, q_isBox, q_isArr, q_int, q_bool, q_str, q_sl, q_nils, e_exit, e_ret, e_nrm, e_ret_exit, e_exit_ret, e_nrm_exit, e_nrm_ret, e_exit_nrm, e_ret_nrm, Nat.zero_add, Nat.reduceAdd, noslR, noslP, noslB, noslA, List.all_cons, List.all_nil]
      rfl

end Go.Proofs.YtcopadohnlcheaaDoor.Vm

/- Contracts of chapter 06: the document's reading; what the law says of reading and writing. -/
namespace Go.Proofs.YtcopadohnlcheaaDoor.Vm
set_option linter.unusedVariables false
set_option linter.unusedSimpArgs false

theorem l_rread2 (k : Int) (b0 : List (List PV)) (fs : List (List UInt8)) : ∀ (pre : List (List UInt8)) (done : List Int), done.length = pre.length → (pre ++ fs).length ≤ 1000 → (∀ f ∈ fs, f.length ≤ 1000000) →
    lp E (denC E) 19 0 [] 2 { vals := [AV.int .i64 k, AV.sl 1 (strsK (pre ++ fs)), AV.int .i64 (pre ++ fs).length, AV.int .i64 pre.length], blks := [Blk.box [AV.sl 1 b0], zb, Blk.arr 1 (intsK .i64 done)] } =
    some (bif fs.all numB then (Ex.exit 2, { vals := [AV.int .i64 k], blks := [Blk.box [AV.sl 1 b0], zb, Blk.arr 1 (intsK .i64 (done ++ fs.map numI))] }) else (Ex.ret, { vals := [AV.int .i64 5], blks := [zb] })) := by
  have hzb : zb = Blk.box [AV.int .i64 0, AV.int .i64 0, AV.int .i64 0, AV.int .i64 0, AV.int .i64 0, AV.int .i64 0] := rfl
  induction fs with
  | nil =>
    intro pre done hl h hf
    rw [hzb, r19_2, ctl_dec, if_neg (by simp), List.map_nil, List.append_nil]
    rfl
  | cons f fs ih =>
    intro pre done hl h hf
    have ihp := ih (pre ++ [f]) (done ++ [numI f]) (by simp [hl]) (by simpa using h) (fun x hx => hf x (by simp [hx]))
    rw [hzb] at ihp ⊢
    rw [r19_2, ctl_dec, if_pos (by simp; omega), getE_strs (by simp; omega)]
    simp only [Int.toNat_natCast, getD_mid, bnd_some, ctl_true, ctl_false, ctl_and, ctl_or', ctl_or2, x_toPV, x_toCs, x_toCs2, x_toEs, x_bEs, x_bCs, x_aPV, x_aCs, x_int, x_bool, x_str, x_es, x_esn, nth_0, nth_1, nth_2, nth_3, nth_4, nth_5, nth_6, nth_7, nth_8, nth_9, y_nil, y_int, y_bool, y_str, y_sl, y_nils, y_agg, y_ownp, y_own, z_nil, z_int, z_bool, z_str, z_sl, z_nils, b_nil, b_arr, b_box1, b_box2, b_box3, b_box4, List.map_cons, List.map_nil, Bool.and_self, Bool.and_true, Bool.true_and, Bool.not_true, Bool.not_false, Bool.or_false, Bool.false_or, cond_true, cond_false, okPack, okPut, okPutBlks, okPutCells, q_isP, q_isAg, q_isBox, q_isArr, q_int, q_bool, q_str, q_sl, q_nils, e_exit, e_ret, e_nrm, e_ret_exit, e_exit_ret, e_nrm_exit, e_nrm_ret, e_exit_nrm, e_ret_nrm, Nat.zero_add, Nat.reduceAdd, noslR, noslP, noslB, noslA, List.all_cons, List.all_nil]
    rw [c_rNumber f (hf f (by simp))]
    simp only [bnd_some, ctl_true, ctl_false, ctl_and, ctl_or', ctl_or2, x_toPV, x_toCs, x_toCs2, x_toEs, x_bEs, x_bCs, x_aPV, x_aCs, x_int, x_bool, x_str, x_es, x_esn, nth_0, nth_1, nth_2, nth_3, nth_4, nth_5, nth_6, nth_7, nth_8, nth_9, y_nil, y_int, y_bool, y_str, y_sl, y_nils, y_agg, y_ownp, y_own, z_nil, z_int, z_bool, z_str, z_sl, z_nils, b_nil, b_arr, b_box1, b_box2, b_box3, b_box4, List.map_cons, List.map_nil, Bool.and_self, Bool.and_true, Bool.true_and, Bool.not_true, Bool.not_false, Bool.or_false, Bool.false_or, cond_true, cond_false, okPack, okPut, okPutBlks, okPutCells, q_isP, q_isAg, q_isBox, q_isArr, q_int, q_bool, q_str, q_sl, q_nils, e_exit, e_ret, e_nrm, e_ret_exit, e_exit_ret, e_nrm_exit, e_nrm_ret, e_exit_nrm, e_ret_nrm, Nat.zero_add, Nat.reduceAdd, noslR, noslP, noslB, noslA, List.all_cons, List.all_nil]
    cases hn : numB f with
    | false => simp only [bnd_some, ctl_true, ctl_false, ctl_and, ctl_or', ctl_or2, x_toPV, x_toCs, x_toCs2, x_toEs, x_bEs, x_bCs, x_aPV, x_aCs, x_int, x_bool, x_str, x_es, x_esn, nth_0, nth_1, nth_2, nth_3, nth_4, nth_5, nth_6, nth_7, nth_8, nth_9, y_nil, y_int, y_bool, y_str, y_sl, y_nils, y_agg, y_ownp, y_own, z_nil, z_int, z_bool, z_str, z_sl, z_nils, b_nil, b_arr, b_box1, b_box2, b_box3, b_box4, List.map_cons, List.map_nil, Bool.and_self, Bool.and_true, Bool.true_and, Bool.not_true, Bool.not_false, Bool.or_false, Bool.false_or, cond_true, cond_false, okPack, okPut, okPutBlks, okPutCells, q_isP, q_isAg, q_isBox, q_isArr, q_int, q_bool, q_str, q_sl, q_nils, e_exit, e_ret, e_nrm, e_ret_exit, e_exit_ret, e_nrm_exit, e_nrm_ret, e_exit_nrm, e_ret_nrm, Nat.zero_add, Nat.reduceAdd, noslR, noslP, noslB, noslA, List.all_cons, List.all_nil, hn, Bool.false_and]
    | true =>
      simp only [bnd_some, ctl_true, ctl_false, ctl_and, ctl_or', ctl_or2, x_toPV, x_toCs, x_toCs2, x_toEs, x_bEs, x_bCs, x_aPV, x_aCs, x_int, x_bool, x_str, x_es, x_esn, nth_0, nth_1, nth_2, nth_3, nth_4, nth_5, nth_6, nth_7, nth_8, nth_9, y_nil, y_int, y_bool, y_str, y_sl, y_nils, y_agg, y_ownp, y_own, z_nil, z_int, z_bool, z_str, z_sl, z_nils, b_nil, b_arr, b_box1, b_box2, b_box3, b_box4, List.map_cons, List.map_nil, Bool.and_self, Bool.and_true, Bool.true_and, Bool.not_true, Bool.not_false, Bool.or_false, Bool.false_or, cond_true, cond_false, okPack, okPut, okPutBlks, okPutCells, q_isP, q_isAg, q_isBox, q_isArr, q_int, q_bool, q_str, q_sl, q_nils, e_exit, e_ret, e_nrm, e_ret_exit, e_exit_ret, e_nrm_exit, e_nrm_ret, e_exit_nrm, e_ret_nrm, Nat.zero_add, Nat.reduceAdd, noslR, noslP, noslB, noslA, List.all_cons, List.all_nil, hn, Bool.true_and]
      have e : intsK .i64 done ++ [[PV.int IntKind.i64 (numI f)]] = intsK .i64 (done ++ [numI f]) := by simp [intsK]
      rw [intsK_length, ctl_dec, if_pos (by simp at h; omega), w64 (by simp at h; omega), len_snoc pre f, app_cons, e, ihp]
      simp only [List.append_assoc, List.singleton_append]

theorem nthI {l : List Int} {j : Nat} (h : j < l.length) : nth [] (intsK .i64 l) j = [PV.int .i64 (l.getD j 0)] := by
  rw [nth_eq]; simp [intsK, List.getD, h]
theorem getD_pad {l : List Int} {j : Nat} : (l ++ [0, 0]).getD j 0 = l.getD j 0 := by
  simp only [List.getD_eq_getElem?_getD]
  by_cases h : j < l.length
  · rw [List.getElem?_append_left h]
  · rw [List.getElem?_append_right (by omega), List.getElem?_eq_none (l := l) (by omega)]
    match j - l.length with
    | 0 => rfl
    | 1 => rfl
    | n + 2 => rfl

def hits (z : List (List UInt8)) (k : Int) : Bool := (z.length : Int) == 3 + ((formAt k).2.length : Int) && z.headD [] == (formAt k).1
abbrev rdSt (z : List (List UInt8)) (k : Int) : Pack := { vals := [AV.int .i64 k], blks := [Blk.box [AV.sl 1 (strsK z)], Blk.box [AV.int .i64 0, AV.int .i64 0, AV.int .i64 0, AV.int .i64 0, AV.int .i64 0, AV.int .i64 0]] }

theorem s_rread (z : List (List UInt8)) (hlen : z.length ≤ 100000) (hf : ∀ f ∈ z, f.length ≤ 1000000) (k : Int) (hk : 1 ≤ k ∧ k ≤ 6) :
    lp E (denC E) 19 0 [] 0 (rdSt z k) =
    bif hits z k then (bif z.tail.all numB then (bif valS (mkS k (z.tail.map numI)) then some (Ex.ret, { vals := [AV.int .i64 0], blks := [Blk.box [AV.int .i64 k, AV.int .i64 ((z.tail.map numI).getD 0 0), AV.int .i64 ((z.tail.map numI).getD 1 0), AV.int .i64 ((z.tail.map numI).getD 2 0), AV.int .i64 ((z.tail.map numI).getD 3 0), AV.int .i64 ((z.tail.map numI).getD 4 0)]] })
      else lp E (denC E) 19 0 [] 0 (rdSt z (k + 1))) else some (Ex.ret, { vals := [AV.int .i64 5], blks := [zb] }))
    else lp E (denC E) 19 0 [] 0 (rdSt z (k + 1)) := by
  have hn := n3 hk
  have hzb : zb = Blk.box [AV.int .i64 0, AV.int .i64 0, AV.int .i64 0, AV.int .i64 0, AV.int .i64 0, AV.int .i64 0] := rfl
  have e0 : leB k 6 = true := decide_eq_true hk.2
  rw [r19_0, e0, c_count hk]
  simp only [bnd_some, ctl_true, ctl_false, ctl_and, ctl_or', ctl_or2, x_toPV, x_toCs, x_toCs2, x_toEs, x_bEs, x_bCs, x_aPV, x_aCs, x_int, x_bool, x_str, x_es, x_esn, nth_0, nth_1, nth_2, nth_3, nth_4, nth_5, nth_6, nth_7, nth_8, nth_9, y_nil, y_int, y_bool, y_str, y_sl, y_nils, y_agg, y_ownp, y_own, z_nil, z_int, z_bool, z_str, z_sl, z_nils, b_nil, b_arr, b_box1, b_box2, b_box3, b_box4, List.map_cons, List.map_nil, Bool.and_self, Bool.and_true, Bool.true_and, Bool.not_true, Bool.not_false, Bool.or_false, Bool.false_or, cond_true, cond_false, okPack, okPut, okPutBlks, okPutCells, q_isP, q_isAg, q_isBox, q_isArr, q_int, q_bool, q_str, q_sl, q_nils, e_exit, e_ret, e_nrm, e_ret_exit, e_exit_ret, e_nrm_exit, e_nrm_ret, e_exit_nrm, e_ret_nrm, Nat.zero_add, Nat.reduceAdd, noslR, noslP, noslB, noslA, List.all_cons, List.all_nil]
  rw [strsK_length, w64 (n := (3 : Int) + _) (by omega), w64 (n := k + 1) (by omega)]
  unfold hits
  by_cases h1 : (z.length : Int) = 3 + ((formAt k).2.length : Int)
  · have e1 : ((z.length : Int) != 3 + ((formAt k).2.length : Int)) = false := by rw [bne_eq_false_iff_eq]; exact h1
    have e2 : ((z.length : Int) == 3 + ((formAt k).2.length : Int)) = true := by simpa using h1
    rw [e1, e2]
    cases z with
    | nil => simp at h1; omega
    | cons w ns =>
      rw [getE_strs (by simp only [List.length_cons]; omega)]
      simp only [bnd_some, ctl_true, ctl_false, ctl_and, ctl_or', ctl_or2, x_toPV, x_toCs, x_toCs2, x_toEs, x_bEs, x_bCs, x_aPV, x_aCs, x_int, x_bool, x_str, x_es, x_esn, nth_0, nth_1, nth_2, nth_3, nth_4, nth_5, nth_6, nth_7, nth_8, nth_9, y_nil, y_int, y_bool, y_str, y_sl, y_nils, y_agg, y_ownp, y_own, z_nil, z_int, z_bool, z_str, z_sl, z_nils, b_nil, b_arr, b_box1, b_box2, b_box3, b_box4, List.map_cons, List.map_nil, Bool.and_self, Bool.and_true, Bool.true_and, Bool.not_true, Bool.not_false, Bool.or_false, Bool.false_or, cond_true, cond_false, okPack, okPut, okPutBlks, okPutCells, q_isP, q_isAg, q_isBox, q_isArr, q_int, q_bool, q_str, q_sl, q_nils, e_exit, e_ret, e_nrm, e_ret_exit, e_exit_ret, e_nrm_exit, e_nrm_ret, e_exit_nrm, e_ret_nrm, Nat.zero_add, Nat.reduceAdd, noslR, noslP, noslB, noslA, List.all_cons, List.all_nil]
      rw [c_name hk]
      simp only [bnd_some, ctl_true, ctl_false, ctl_and, ctl_or', ctl_or2, x_toPV, x_toCs, x_toCs2, x_toEs, x_bEs, x_bCs, x_aPV, x_aCs, x_int, x_bool, x_str, x_es, x_esn, nth_0, nth_1, nth_2, nth_3, nth_4, nth_5, nth_6, nth_7, nth_8, nth_9, y_nil, y_int, y_bool, y_str, y_sl, y_nils, y_agg, y_ownp, y_own, z_nil, z_int, z_bool, z_str, z_sl, z_nils, b_nil, b_arr, b_box1, b_box2, b_box3, b_box4, List.map_cons, List.map_nil, Bool.and_self, Bool.and_true, Bool.true_and, Bool.not_true, Bool.not_false, Bool.or_false, Bool.false_or, cond_true, cond_false, okPack, okPut, okPutBlks, okPutCells, q_isP, q_isAg, q_isBox, q_isArr, q_int, q_bool, q_str, q_sl, q_nils, e_exit, e_ret, e_nrm, e_ret_exit, e_exit_ret, e_nrm_exit, e_nrm_ret, e_exit_nrm, e_ret_nrm, Nat.zero_add, Nat.reduceAdd, noslR, noslP, noslB, noslA, List.all_cons, List.all_nil]
      have hgd : (w :: ns).getD (Int.toNat 0) [] = w := rfl
      rw [hgd]
      simp only [List.headD_cons, List.tail_cons]
      cases hw : (w == (formAt k).1) with
      | false => rfl
      | true =>
        have e3 : (leB 1 ((w :: ns).length : Int) && leB ((w :: ns).length : Int) ((w :: ns).length : Int)) = true := by
          rw [show leB 1 ((w :: ns).length : Int) = true from decide_eq_true (by simp only [List.length_cons]; omega), show leB ((w :: ns).length : Int) ((w :: ns).length : Int) = true from decide_eq_true (Int.le_refl _)]; rfl
        have hc := cut1 w ns
        rw [strsK_length] at hc
        have hlp := l_rread2 k (strsK (w :: ns)) ns [] [] rfl (by simp at h1 ⊢; omega) (fun f hf' => hf f (by simp [hf']))
        simp only [List.nil_append, List.length_nil] at hlp
        rw [hzb] at hlp
        have hlp' : lp E (denC E) 19 0 [] 2 { vals := [AV.int .i64 k, AV.sl 1 (strsK ns), AV.int .i64 ns.length, AV.int .i64 0], blks := [Blk.box [AV.sl 1 (strsK (w :: ns))], Blk.box [AV.int .i64 0, AV.int .i64 0, AV.int .i64 0, AV.int .i64 0, AV.int .i64 0, AV.int .i64 0], Blk.arr 1 []] } = _ := hlp
        rw [e3, hc, strsK_length, hlp']
        simp only [Bool.not_true, Bool.or_self, Bool.and_self, bnd_some, ctl_true, ctl_false, ctl_and, ctl_or', ctl_or2, x_toPV, x_toCs, x_toCs2, x_toEs, x_bEs, x_bCs, x_aPV, x_aCs, x_int, x_bool, x_str, x_es, x_esn, nth_0, nth_1, nth_2, nth_3, nth_4, nth_5, nth_6, nth_7, nth_8, nth_9, y_nil, y_int, y_bool, y_str, y_sl, y_nils, y_agg, y_ownp, y_own, z_nil, z_int, z_bool, z_str, z_sl, z_nils, b_nil, b_arr, b_box1, b_box2, b_box3, b_box4, List.map_cons, List.map_nil, Bool.and_self, Bool.and_true, Bool.true_and, Bool.not_true, Bool.not_false, Bool.or_false, Bool.false_or, cond_true, cond_false, okPack, okPut, okPutBlks, okPutCells, q_isP, q_isAg, q_isBox, q_isArr, q_int, q_bool, q_str, q_sl, q_nils, e_exit, e_ret, e_nrm, e_ret_exit, e_exit_ret, e_nrm_exit, e_nrm_ret, e_exit_nrm, e_ret_nrm, Nat.zero_add, Nat.reduceAdd, noslR, noslP, noslB, noslA, List.all_cons, List.all_nil]
        cases hall : ns.all numB with
        | false =>
          simp only [bnd_some, ctl_true, ctl_false, ctl_and, ctl_or', ctl_or2, x_toPV, x_toCs, x_toCs2, x_toEs, x_bEs, x_bCs, x_aPV, x_aCs, x_int, x_bool, x_str, x_es, x_esn, nth_0, nth_1, nth_2, nth_3, nth_4, nth_5, nth_6, nth_7, nth_8, nth_9, y_nil, y_int, y_bool, y_str, y_sl, y_nils, y_agg, y_ownp, y_own, z_nil, z_int, z_bool, z_str, z_sl, z_nils, b_nil, b_arr, b_box1, b_box2, b_box3, b_box4, List.map_cons, List.map_nil, Bool.and_self, Bool.and_true, Bool.true_and, Bool.not_true, Bool.not_false, Bool.or_false, Bool.false_or, cond_true, cond_false, okPack, okPut, okPutBlks, okPutCells, q_isP, q_isAg, q_isBox, q_isArr, q_int, q_bool, q_str, q_sl, q_nils, e_exit, e_ret, e_nrm, e_ret_exit, e_exit_ret, e_nrm_exit, e_nrm_ret, e_exit_nrm, e_ret_nrm, Nat.zero_add, Nat.reduceAdd, noslR, noslP, noslB, noslA, List.all_cons, List.all_nil]
          rfl
        | true =>
          simp only [bnd_some, ctl_true, ctl_false, ctl_and, ctl_or', ctl_or2, x_toPV, x_toCs, x_toCs2, x_toEs, x_bEs, x_bCs, x_aPV, x_aCs, x_int, x_bool, x_str, x_es, x_esn, nth_0, nth_1, nth_2, nth_3, nth_4, nth_5, nth_6, nth_7, nth_8, nth_9, y_nil, y_int, y_bool, y_str, y_sl, y_nils, y_agg, y_ownp, y_own, z_nil, z_int, z_bool, z_str, z_sl, z_nils, b_nil, b_arr, b_box1, b_box2, b_box3, b_box4, List.map_cons, List.map_nil, Bool.and_self, Bool.and_true, Bool.true_and, Bool.not_true, Bool.not_false, Bool.or_false, Bool.false_or, cond_true, cond_false, okPack, okPut, okPutBlks, okPutCells, q_isP, q_isAg, q_isBox, q_isArr, q_int, q_bool, q_str, q_sl, q_nils, e_exit, e_ret, e_nrm, e_ret_exit, e_exit_ret, e_nrm_exit, e_nrm_ret, e_exit_nrm, e_ret_nrm, Nat.zero_add, Nat.reduceAdd, noslR, noslP, noslB, noslA, List.all_cons, List.all_nil]
          have hnl : (ns.map numI).length = 2 + (formAt k).2.length := by simp at h1 ⊢; omega
          generalize ns.map numI = l at hnl
          have ea : intsK .i64 l ++ [[PV.int IntKind.i64 0], [PV.int IntKind.i64 0]] = intsK .i64 (l ++ [0, 0]) := by simp [intsK]
          have hpl : (l ++ [0, 0]).length = l.length + 2 := by simp
          have hin : ∀ j : Nat, j < 5 → ltB (j : Int) ((l ++ [0, 0]).length : Int) = true := fun j hj => decide_eq_true (by omega)
          have i0 := hin 0 (by omega); have i1 := hin 1 (by omega); have i2 := hin 2 (by omega); have i3 := hin 3 (by omega); have i4 := hin 4 (by omega)
          rw [ea, intsK_length, intsK_length, nthI (j := 0) (by omega), nthI (j := 1) (by omega), nthI (j := 2) (by omega), nthI (j := 3) (by omega), nthI (j := 4) (by omega)]
          simp only [getD_pad]
          have j0 : ltB 0 ((l ++ [0, 0]).length : Int) = true := i0
          have j1 : ltB 1 ((l ++ [0, 0]).length : Int) = true := i1
          have j2 : ltB 2 ((l ++ [0, 0]).length : Int) = true := i2
          have j3 : ltB 3 ((l ++ [0, 0]).length : Int) = true := i3
          have j4 : ltB 4 ((l ++ [0, 0]).length : Int) = true := i4
          have ok1 : ∀ n : Int, okCs [Sh.int IntKind.i64] (List.take 1 (List.drop 0 [PV.int IntKind.i64 n])) = true := fun _ => rfl
          rw [j0, j1, j2, j3, j4, ok1, ok1, ok1, ok1, ok1, ctl_dec, if_pos (by omega)]
          simp only [bnd_some, ctl_true, ctl_false, ctl_and, ctl_or', ctl_or2, x_toPV, x_toCs, x_toCs2, x_toEs, x_bEs, x_bCs, x_aPV, x_aCs, x_int, x_bool, x_str, x_es, x_esn, nth_0, nth_1, nth_2, nth_3, nth_4, nth_5, nth_6, nth_7, nth_8, nth_9, y_nil, y_int, y_bool, y_str, y_sl, y_nils, y_agg, y_ownp, y_own, z_nil, z_int, z_bool, z_str, z_sl, z_nils, b_nil, b_arr, b_box1, b_box2, b_box3, b_box4, List.map_cons, List.map_nil, Bool.and_self, Bool.and_true, Bool.true_and, Bool.not_true, Bool.not_false, Bool.or_false, Bool.false_or, cond_true, cond_false, okPack, okPut, okPutBlks, okPutCells, q_isP, q_isAg, q_isBox, q_isArr, q_int, q_bool, q_str, q_sl, q_nils, e_exit, e_ret, e_nrm, e_ret_exit, e_exit_ret, e_nrm_exit, e_nrm_ret, e_exit_nrm, e_ret_nrm, Nat.zero_add, Nat.reduceAdd, noslR, noslP, noslB, noslA, List.all_cons, List.all_nil]
          have hS := c_rSValid (mkS k l)
          unfold mkS at hS ⊢
          rw [hS]
          simp only [bnd_some, ctl_true, ctl_false, ctl_and, ctl_or', ctl_or2, x_toPV, x_toCs, x_toCs2, x_toEs, x_bEs, x_bCs, x_aPV, x_aCs, x_int, x_bool, x_str, x_es, x_esn, nth_0, nth_1, nth_2, nth_3, nth_4, nth_5, nth_6, nth_7, nth_8, nth_9, y_nil, y_int, y_bool, y_str, y_sl, y_nils, y_agg, y_ownp, y_own, z_nil, z_int, z_bool, z_str, z_sl, z_nils, b_nil, b_arr, b_box1, b_box2, b_box3, b_box4, List.map_cons, List.map_nil, Bool.and_self, Bool.and_true, Bool.true_and, Bool.not_true, Bool.not_false, Bool.or_false, Bool.false_or, cond_true, cond_false, okPack, okPut, okPutBlks, okPutCells, q_isP, q_isAg, q_isBox, q_isArr, q_int, q_bool, q_str, q_sl, q_nils, e_exit, e_ret, e_nrm, e_ret_exit, e_exit_ret, e_nrm_exit, e_nrm_ret, e_exit_nrm, e_ret_nrm, Nat.zero_add, Nat.reduceAdd, noslR, noslP, noslB, noslA, List.all_cons, List.all_nil]
          cases valS ⟨k, l.getD 0 0, l.getD 1 0, l.getD 2 0, l.getD 3 0, l.getD 4 0⟩ with
          | true => rfl
          | false =>
            simp only [bnd_some, ctl_true, ctl_false, ctl_and, ctl_or', ctl_or2, x_toPV, x_toCs, x_toCs2, x_toEs, x_bEs, x_bCs, x_aPV, x_aCs, x_int, x_bool, x_str, x_es, x_esn, nth_0, nth_1, nth_2, nth_3, nth_4, nth_5, nth_6, nth_7, nth_8, nth_9, y_nil, y_int, y_bool, y_str, y_sl, y_nils, y_agg, y_ownp, y_own, z_nil, z_int, z_bool, z_str, z_sl, z_nils, b_nil, b_arr, b_box1, b_box2, b_box3, b_box4, List.map_cons, List.map_nil, Bool.and_self, Bool.and_true, Bool.true_and, Bool.not_true, Bool.not_false, Bool.or_false, Bool.false_or, cond_true, cond_false, okPack, okPut, okPutBlks, okPutCells, q_isP, q_isAg, q_isBox, q_isArr, q_int, q_bool, q_str, q_sl, q_nils, e_exit, e_ret, e_nrm, e_ret_exit, e_exit_ret, e_nrm_exit, e_nrm_ret, e_exit_nrm, e_ret_nrm, Nat.zero_add, Nat.reduceAdd, noslR, noslP, noslB, noslA, List.all_cons, List.all_nil]
            rw [w64 (by omega)]
  · have e1 : ((z.length : Int) != 3 + ((formAt k).2.length : Int)) = true := by rw [bne_iff_ne]; exact h1
    have e2 : ((z.length : Int) == 3 + ((formAt k).2.length : Int)) = false := by simpa using h1
    rw [e1, e2]
    rfl

theorem e_rread (z : List (List UInt8)) : lp E (denC E) 19 0 [] 0 (rdSt z 7) = some (Ex.exit 0, { vals := [], blks := [zb] }) := by
  rw [r19_0]; rfl

/-- Kinds that do not fit are passed over. -/
theorem skip_rread (z : List (List UInt8)) (hlen : z.length ≤ 100000) (hf : ∀ f ∈ z, f.length ≤ 1000000) : ∀ (d : Nat) (k : Int), 1 ≤ k → k + d ≤ 7 → (∀ j : Int, k ≤ j ∧ j < k + d → hits z j = false) →
    lp E (denC E) 19 0 [] 0 (rdSt z k) = lp E (denC E) 19 0 [] 0 (rdSt z (k + d)) := by
  intro d
  induction d with
  | zero => intro k h1 h2 h3; simp
  | succ d ih =>
    intro k h1 h2 h3
    rw [s_rread z hlen hf k (by omega), h3 k (by omega), cond_false, ih (k + 1) (by omega) (by omega) (fun j hj => h3 j (by omega))]
    congr 2
    omega

theorem itoa_num {f : List UInt8} (h : numB f = true) : Lib.itoa (numI f) = f ∧ -10000000000 < numI f ∧ numI f < 10000000000 := by
  unfold numB at h
  unfold numI
  cases hn : num f with
  | none => rw [hn] at h; cases h
  | some n => exact num_spec hn

theorem word_ok (k : Int) (h : 1 ≤ k ∧ k ≤ 6) : fldB (formAt k).1 = true ∧ (formAt k).1.length = 3 := by
  rcases k6 h with rfl | rfl | rfl | rfl | rfl | rfl <;> decide +kernel

theorem wr_shape {k : Int} (hk : 1 ≤ k ∧ k ≤ 6) {l : List Int} (hl : l.length = 2 + (formAt k).2.length) : wr (mkS k l) = (formAt k).1 :: l.map Lib.itoa := by
  have hn := n3 hk
  unfold wr mkS
  simp only
  match l, hl with
  | [], hl => simp only [List.length_nil] at hl; omega
  | [a], hl => simp only [List.length_cons, List.length_nil] at hl; omega
  | [a, b], hl => simp only [List.length_cons, List.length_nil] at hl; omega
  | [a, b, c], hl =>
    have : (formAt k).2.length = 1 := by simp only [List.length_cons, List.length_nil] at hl; omega
    rw [this]; rfl
  | [a, b, c, d], hl =>
    have : (formAt k).2.length = 2 := by simp only [List.length_cons, List.length_nil] at hl; omega
    rw [this]; rfl
  | [a, b, c, d, e], hl =>
    have : (formAt k).2.length = 3 := by simp only [List.length_cons, List.length_nil] at hl; omega
    rw [this]; rfl
  | a :: b :: c :: d :: e :: f :: q, hl => simp only [List.length_cons, List.length_nil] at hl; omega

theorem map_itoa {ns : List (List UInt8)} (h : ns.all numB = true) : (ns.map numI).map Lib.itoa = ns := by
  rw [List.map_map]
  refine (List.map_congr_left fun f hf => ?_).trans (List.map_id _)
  exact (itoa_num (List.all_eq_true.1 h f hf)).1

theorem valid_fields {w : List UInt8} {ns : List (List UInt8)} (hl : ns.length ≤ 15) (hne : ns ≠ []) (hw : fldB w = true) (hn : ns.all numB = true) : validB (w :: ns) = true := by
  unfold validB
  have h1 : leB 1 ((w :: ns).length : Int) = true := decide_eq_true (by simp only [List.length_cons]; omega)
  have h2 : leB ((w :: ns).length : Int) 16 = true := decide_eq_true (by simp only [List.length_cons]; omega)
  have h3 : ns.all fldB = true := List.all_eq_true.2 fun f hf => by
    obtain ⟨h1, h2, h3⟩ := itoa_num (List.all_eq_true.1 hn f hf)
    rw [← h1]; exact (fld_itoa ⟨h2, h3⟩).1
  have h4 : ((w :: ns : List (List UInt8)) == [[]]) = false := by
    rw [beq_eq_false_iff_ne]; intro h; exact hne (List.cons.inj h).2
  rw [h1, h2, List.all_cons, hw, h3, h4]; rfl

theorem c_rRead (z : List (List UInt8)) (hlen : z.length ≤ 100000) (hf : ∀ f ∈ z, f.length ≤ 1000000) : denC E 19 [AV.agg [PV.sl 1 (strsK z)]] [] = some (rdR (rdA z), []) := by
  have done : ∀ {p : Ex × Pack}, lp E (denC E) 19 0 [] 0 (rdSt z 1) = some p → (p = (Ex.exit 0, { vals := [], blks := [zb] }) ∨ p = (Ex.ret, { vals := [AV.int .i64 5], blks := [zb] })) → denC E 19 [AV.agg [PV.sl 1 (strsK z)]] [] = some (rdR none, []) := fun {p} h hp => by
    rw [denC_eq, r19]
    have h' : lp E (denC E) 19 0 [] 0 { vals := [AV.int .i64 1], blks := [Blk.box [AV.sl 1 (strsK z)], Blk.box [AV.int .i64 0, AV.int .i64 0, AV.int .i64 0, AV.int .i64 0, AV.int .i64 0, AV.int .i64 0]] } = some p := h
    rw [h']
    rcases hp with rfl | rfl <;> rfl
  cases z with
  | nil =>
    refine done ((skip_rread [] hlen hf 6 1 (by omega) (by omega) fun j hj => ?_).trans (e_rread [])) (.inl rfl)
    have hn := n3 (k := j) (by omega)
    unfold hits
    have : (((([] : List (List UInt8)).length : Nat) : Int) == 3 + ((formAt j).2.length : Int)) = false := by
      rw [beq_eq_false_iff_ne]; simp; omega
    rw [this, Bool.false_and]
  | cons w ns =>
    have hkb := kind_b w
    have hother : ∀ j : Int, 1 ≤ j ∧ j ≤ 6 → j ≠ kindOf w → hits (w :: ns) j = false := fun j hj hne => by
      unfold hits
      have : (((w :: ns).headD []) == (formAt j).1) = false := by
        rw [beq_eq_false_iff_ne]
        intro h
        apply hne
        have h : w = (formAt j).1 := h
        rw [h]; exact (kind_at j hj).symm
      rw [this, Bool.and_false]
    by_cases h0 : kindOf w = 0
    · have hr : rdA (w :: ns) = none := by
        unfold rdA
        simp only
        split
        · rw [if_neg]
          rintro ⟨h, _⟩
          have := (val_bounds h).1
          unfold mkS at this
          simp only at this
          omega
        · rfl
      rw [hr]
      exact done ((skip_rread _ hlen hf 6 1 (by omega) (by omega) fun j hj => hother j (by omega) (by omega)).trans (e_rread _)) (.inl rfl)
    · have hk : 1 ≤ kindOf w ∧ kindOf w ≤ 6 := by omega
      have hword := kind_word h0
      have hn := n3 hk
      -- up to the kind of the word
      have up := skip_rread (w :: ns) hlen hf (kindOf w - 1).toNat 1 (by omega) (by omega) fun j hj => hother j (by omega) (by omega)
      have eu : (1 : Int) + ((kindOf w - 1).toNat : Int) = kindOf w := by omega
      rw [eu] at up
      -- from behind it to the end
      have down := (skip_rread (w :: ns) hlen hf (6 - kindOf w).toNat (kindOf w + 1) (by omega) (by omega) fun j hj => hother j (by omega) (by omega))
      have ed : kindOf w + 1 + ((6 - kindOf w).toNat : Int) = 7 := by omega
      rw [ed, e_rread] at down
      have st := s_rread (w :: ns) hlen hf (kindOf w) hk
      rw [down] at st
      by_cases hh : ((w :: ns).length : Int) = 3 + ((formAt (kindOf w)).2.length : Int)
      · have hhit : hits (w :: ns) (kindOf w) = true := by
          unfold hits
          rw [hword]
          simp only [List.headD_cons, beq_self_eq_true, Bool.and_true]
          simpa using hh
        rw [hhit, cond_true] at st
        simp only [List.tail_cons] at st
        have hnsl : ns.length = 2 + (formAt (kindOf w)).2.length := by simp at hh; omega
        cases hall : ns.all numB with
        | false =>
          rw [hall, cond_false] at st
          have hr : rdA (w :: ns) = none := by
            unfold rdA
            simp only
            rw [if_neg (fun h => by have := h.2.2; rw [hall] at this; cases this)]
          rw [hr]
          exact done (up.trans st) (.inr rfl)
        | true =>
          rw [hall, cond_true] at st
          have hv : validB (w :: ns) = true := valid_fields (by omega) (by intro h; rw [h] at hnsl; simp at hnsl; omega) (by rw [← hword]; exact (word_ok _ hk).1) hall
          have hwr : wr (mkS (kindOf w) (ns.map numI)) = w :: ns := by
            rw [wr_shape hk (by simpa using hnsl), hword, map_itoa hall]
          by_cases hval : valS (mkS (kindOf w) (ns.map numI)) = true
          · rw [hval, cond_true] at st
            have hr : rdA (w :: ns) = some (mkS (kindOf w) (ns.map numI)) := by
              unfold rdA
              simp only
              rw [if_pos ⟨hv, by simp only [List.length_cons]; omega, hall⟩, if_pos ⟨hval, hwr⟩]
            rw [hr, denC_eq, r19]
            have h' : lp E (denC E) 19 0 [] 0 { vals := [AV.int .i64 1], blks := [Blk.box [AV.sl 1 (strsK (w :: ns))], Blk.box [AV.int .i64 0, AV.int .i64 0, AV.int .i64 0, AV.int .i64 0, AV.int .i64 0, AV.int .i64 0]] } = _ := up.trans st
            rw [h']
            rfl
          · rw [show valS (mkS (kindOf w) (ns.map numI)) = false by simpa using hval, cond_false] at st
            have hr : rdA (w :: ns) = none := by
              unfold rdA
              simp only
              split
              · rw [if_neg (fun h => hval h.1)]
              · rfl
            rw [hr]
            exact done (up.trans st) (.inl rfl)
      · have hhit : hits (w :: ns) (kindOf w) = false := by
          unfold hits
          have : (((w :: ns).length : Int) == 3 + ((formAt (kindOf w)).2.length : Int)) = false := by rw [beq_eq_false_iff_ne]; exact hh
          rw [this, Bool.false_and]
        rw [hhit, cond_false] at st
        have hr : rdA (w :: ns) = none := by
          unfold rdA
          simp only
          split
          · rw [if_neg]
            rintro ⟨_, h⟩
            apply hh
            rw [← h]
            unfold wr mkS
            simp only [List.length_cons, List.length_map, List.length_take, List.length_nil]
            omega
          · rfl
        rw [hr]
        exact done (up.trans st) (.inl rfl)

/-- A valid signal comes back from its sentence. -/
theorem rd_wr {x : Sig} (h : valS x = true) : rdA (wr x) = some x ∧ validB (wr x) = true ∧ (wr x).length ≤ 6 ∧ totB (wr x) ≤ 60 ∧ 4 ≤ (wr x).length := by
  obtain ⟨hk, h1, h2, h3, h4, h5⟩ := val_bounds h
  have hn := n3 hk
  have hb : ∀ n ∈ [x.s, x.t, x.a, x.b, x.c].take (2 + (formAt x.k).2.length), -10000000000 < n ∧ n < 10000000000 := fun n hn => by
    have := List.mem_of_mem_take hn
    simp at this
    rcases this with rfl | rfl | rfl | rfl | rfl <;> omega
  have hnum : (([x.s, x.t, x.a, x.b, x.c].take (2 + (formAt x.k).2.length)).map Lib.itoa).all numB = true := List.all_eq_true.2 fun f hf => by
    obtain ⟨n, hn, rfl⟩ := List.mem_map.1 hf
    unfold numB; rw [num_itoa (hb n hn)]; rfl
  have hback : (([x.s, x.t, x.a, x.b, x.c].take (2 + (formAt x.k).2.length)).map Lib.itoa).map numI = [x.s, x.t, x.a, x.b, x.c].take (2 + (formAt x.k).2.length) := by
    rw [List.map_map]
    refine (List.map_congr_left fun n hn => ?_).trans (List.map_id _)
    show numI (Lib.itoa n) = n
    unfold numI; rw [num_itoa (hb n hn)]; rfl
  have hx : mkS x.k ([x.s, x.t, x.a, x.b, x.c].take (2 + (formAt x.k).2.length)) = x := by
    obtain ⟨k, s, t, a, b, c⟩ := x
    unfold valS at h
    simp only [Bool.and_eq_true] at h
    have hb' := h.1.2
    have hc' := h.2
    unfold mkS
    simp only at hn hb' hc' ⊢
    rcases hn with hn | hn | hn
    · have e1 : (formAt k).2[1]? = none := List.getElem?_eq_none (by omega)
      have e2 : (formAt k).2[2]? = none := List.getElem?_eq_none (by omega)
      unfold okAt at hb' hc'
      rw [e1] at hb'; rw [e2] at hc'
      have hb2 : b = 0 := by simpa using hb'
      have hc2 : c = 0 := by simpa using hc'
      rw [hn, hb2, hc2]; rfl
    · have e2 : (formAt k).2[2]? = none := List.getElem?_eq_none (by omega)
      unfold okAt at hc'
      rw [e2] at hc'
      have hc2 : c = 0 := by simpa using hc'
      rw [hn, hc2]; rfl
    · rw [hn]; rfl
  have hlen : (([x.s, x.t, x.a, x.b, x.c].take (2 + (formAt x.k).2.length)).map Lib.itoa).length = 2 + (formAt x.k).2.length := by simp; omega
  have hv : validB (wr x) = true := valid_fields (by rw [hlen]; omega) (by intro h; rw [h] at hlen; simp at hlen; omega) (word_ok _ hk).1 hnum
  have hl6 : (wr x).length = 3 + (formAt x.k).2.length := by unfold wr; rw [List.length_cons, hlen]; omega
  refine ⟨?_, hv, by omega, ?_, by omega⟩
  · have key : rdA ((formAt x.k).1 :: ([x.s, x.t, x.a, x.b, x.c].take (2 + (formAt x.k).2.length)).map Lib.itoa) = some x := by
      unfold rdA
      simp only
      rw [kind_at x.k hk, hback, hx, if_pos ⟨hv, by rw [List.length_cons, hlen]; omega, hnum⟩, if_pos ⟨h, rfl⟩]
    exact key
  · have hw := (word_ok _ hk).2
    have ht : ∀ l : List Int, (∀ n ∈ l, -10000000000 < n ∧ n < 10000000000) → totB (l.map Lib.itoa) ≤ 11 * l.length := fun l hl => by
      induction l with
      | nil => simp [totB]
      | cons n l ih =>
        have := (fld_itoa (hl n (by simp))).2
        have := ih fun m hm => hl m (by simp [hm])
        simp only [totB, List.map_cons, List.sum_cons, List.length_cons] at this ⊢
        omega
    have := ht _ hb
    unfold wr
    simp only [totB, List.map_cons, List.sum_cons] at this ⊢
    simp only [List.length_take, List.length_cons, List.length_nil] at this
    omega

end Go.Proofs.YtcopadohnlcheaaDoor.Vm
