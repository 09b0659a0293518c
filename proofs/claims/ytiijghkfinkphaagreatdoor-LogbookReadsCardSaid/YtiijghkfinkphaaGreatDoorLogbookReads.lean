/- The law LogbookReads. -/
import Derived.Test.YtiijghkfinkphaaGreatDoorReadD
import Derived.Test.YtiijghkfinkphaaGreatDoorRawReads
namespace Go.Proofs.YtiijghkfinkphaaGreatDoor.Vm
set_option linter.unusedVariables false
set_option linter.unusedSimpArgs false

def vText (L : List Int) (k : Nat) (l : List (List UInt8)) : List UInt8 := l.getD (vN L k l.length).toNat []
theorem c_SText {L : List Int} {k : Nat} (hL : L.length ≤ 600) (hk : k ≤ 600) {l : List (List UInt8)} (hl : 1 ≤ l.length ∧ l.length ≤ 1000) :
    denC E 10 [AV.t (.ptr 0 0), AV.sl 1 (strsK l)] [src L k] = some ([RV.p (PV.str (vText L k l))], [src L (at' L k)]) := by
  rw [denC_eq]
  have hN := c_N hL hk l.length (by omega)
  have hb := vN_bounds (L := L) (k := k) (n := l.length) (by omega)
  rw [r10, strsK_length, hN]
  simp only [bnd_some, ctl_true, ctl_false, ctl_and, ctl_or', ctl_or2, x_toPV, x_toCs, x_toCs2, x_toEs, x_bEs, x_bCs, x_aPV, x_aCs, x_int, x_bool, x_str, x_es, x_esn, nth_0, nth_1, nth_2, nth_3, nth_4, nth_5, nth_6, nth_7, nth_8, nth_9, y_nil, y_int, y_bool, y_str, y_sl, y_nils, y_agg, y_ownp, y_own, z_nil, z_int, z_bool, z_str, z_sl, z_nils, b_nil, b_arr, b_box1, b_box2, b_box3, b_box4, List.map_cons, List.map_nil, Bool.and_self, Bool.and_true, Bool.true_and, Bool.not_true, Bool.not_false, Bool.or_false, Bool.false_or, cond_true, cond_false, okPack, okPut, okPutBlks, okPutCells, q_isP, q_isAg, q_isBox, q_isArr, q_int, q_bool, q_str, q_sl, q_nils, e_exit, e_ret, e_nrm, e_ret_exit, e_exit_ret, e_nrm_exit, e_nrm_ret, e_exit_nrm, e_ret_nrm, Nat.zero_add, Nat.reduceAdd, noslR, noslP, noslB, noslA, List.all_cons, List.all_nil]
  rw [getE_strs hb]
  simp only [bnd_some, ctl_true, ctl_false, ctl_and, ctl_or', ctl_or2, x_toPV, x_toCs, x_toCs2, x_toEs, x_bEs, x_bCs, x_aPV, x_aCs, x_int, x_bool, x_str, x_es, x_esn, nth_0, nth_1, nth_2, nth_3, nth_4, nth_5, nth_6, nth_7, nth_8, nth_9, y_nil, y_int, y_bool, y_str, y_sl, y_nils, y_agg, y_ownp, y_own, z_nil, z_int, z_bool, z_str, z_sl, z_nils, b_nil, b_arr, b_box1, b_box2, b_box3, b_box4, List.map_cons, List.map_nil, Bool.and_self, Bool.and_true, Bool.true_and, Bool.not_true, Bool.not_false, Bool.or_false, Bool.false_or, cond_true, cond_false, okPack, okPut, okPutBlks, okPutCells, q_isP, q_isAg, q_isBox, q_isArr, q_int, q_bool, q_str, q_sl, q_nils, e_exit, e_ret, e_nrm, e_ret_exit, e_exit_ret, e_nrm_exit, e_nrm_ret, e_exit_nrm, e_ret_nrm, Nat.zero_add, Nat.reduceAdd, noslR, noslP, noslB, noslA, List.all_cons, List.all_nil]
  rfl
theorem vText_mem (L : List Int) (k : Nat) {l : List (List UInt8)} (hl : 1 ≤ l.length) : vText L k l ∈ l := by
  have hb := vN_bounds (L := L) (k := k) (n := l.length) (by omega)
  have hlt : (vN L k l.length).toNat < l.length := by omega
  unfold vText
  simp [List.getD, hlt]

theorem setEs_bytes {s : List UInt8} {i : Nat} (h : i < s.length) (b : UInt8) : setEs (byteEs s) i 0 [PV.int .u8 (b.toNat : Int)] = byteEs (s.set i b) := by
  unfold setEs
  rw [upd_eq, nth_eq]
  have e1 : (byteEs s).getD i [] = [PV.int .u8 ((s.getD i 0).toNat : Int)] := by
    unfold byteEs
    simp [List.getD, h]
  rw [e1]
  have e2 : lay [PV.int .u8 ((s.getD i 0).toNat : Int)] 0 [PV.int .u8 (b.toNat : Int)] = [PV.int .u8 (b.toNat : Int)] := rfl
  rw [e2]
  unfold byteEs
  rw [List.map_set]

theorem s3_step (y0 y1 y2 y3 y4 y5 : List UInt8) (i : Nat) (y : List UInt8) (hi : [y0, y1, y2, y3, y4, y5][i]? = some y) (hy : y.length ≤ 100000) :
    lp E (denC E) 3 0 [] 0 { vals := [AV.agg [PV.str y0, PV.str y1, PV.str y2, PV.str y3, PV.str y4, PV.str y5], AV.int .i64 (i : Nat)], blks := [] } =
    lp E (denC E) 3 0 [] 0 { vals := [AV.agg [PV.str y0, PV.str y1, PV.str y2, PV.str y3, PV.str y4, PV.str y5], AV.int .i64 ((i + 1 : Nat) : Int)], blks := [] } := by
  have hlt : i < 6 := (List.getElem?_eq_some_iff.1 hi).1
  rw [r3_0]
  have h1 : ltB (i : Int) 6 = true := decide_eq_true (by omega)
  have hb : (0 : Int) ≤ (i : Int) ∧ (i : Int) < ([y0, y1, y2, y3, y4, y5] : List (List UInt8)).length := by simp; omega
  have hg : ([y0, y1, y2, y3, y4, y5] : List (List UInt8)).getD ((i : Int)).toNat [] = y := by
    rw [Int.toNat_natCast, List.getD_eq_getElem?_getD, hi]
    rfl
  have e : ([[PV.str y0], [PV.str y1], [PV.str y2], [PV.str y3], [PV.str y4], [PV.str y5]] : List (List PV)) = strsK [y0, y1, y2, y3, y4, y5] := rfl
  rw [h1, ctl_true, e, getE_strs hb, hg]
  simp only [bnd_some, ctl_true, ctl_false, ctl_and, ctl_or', ctl_or2, x_toPV, x_toCs, x_toCs2, x_toEs, x_bEs, x_bCs, x_aPV, x_aCs, x_int, x_bool, x_str, x_es, x_esn, nth_0, nth_1, nth_2, nth_3, nth_4, nth_5, nth_6, nth_7, nth_8, nth_9, y_nil, y_int, y_bool, y_str, y_sl, y_nils, y_agg, y_ownp, y_own, z_nil, z_int, z_bool, z_str, z_sl, z_nils, b_nil, b_arr, b_box1, b_box2, b_box3, b_box4, List.map_cons, List.map_nil, Bool.and_self, Bool.and_true, Bool.true_and, Bool.not_true, Bool.not_false, Bool.or_false, Bool.false_or, cond_true, cond_false, okPack, okPut, okPutBlks, okPutCells, q_isP, q_isAg, q_isBox, q_isArr, q_int, q_bool, q_str, q_sl, q_nils, e_exit, e_ret, e_nrm, e_ret_exit, e_exit_ret, e_nrm_exit, e_nrm_ret, e_exit_nrm, e_ret_nrm, Nat.zero_add, Nat.reduceAdd, noslR, noslP, noslB, noslA, List.all_cons, List.all_nil]
  rw [c_ReadE y hy, c_ReadD y hy]
  have hck := rd_check (linesB y) [] begin36 0 checkP_nil
  generalize rdP (linesB y) [] begin36 0 = r at *
  obtain ⟨b, s, n⟩ := r
  have hsm := c_SameR b s (by have := checkP_len hck; simp only at this; omega) (checkP_ws hck)
  have hnn : (n != n) = false := by simp
  simp only [bnd_some, ctl_true, ctl_false, ctl_and, ctl_or', ctl_or2, x_toPV, x_toCs, x_toCs2, x_toEs, x_bEs, x_bCs, x_aPV, x_aCs, x_int, x_bool, x_str, x_es, x_esn, nth_0, nth_1, nth_2, nth_3, nth_4, nth_5, nth_6, nth_7, nth_8, nth_9, y_nil, y_int, y_bool, y_str, y_sl, y_nils, y_agg, y_ownp, y_own, z_nil, z_int, z_bool, z_str, z_sl, z_nils, b_nil, b_arr, b_box1, b_box2, b_box3, b_box4, List.map_cons, List.map_nil, Bool.and_self, Bool.and_true, Bool.true_and, Bool.not_true, Bool.not_false, Bool.or_false, Bool.false_or, cond_true, cond_false, okPack, okPut, okPutBlks, okPutCells, q_isP, q_isAg, q_isBox, q_isArr, q_int, q_bool, q_str, q_sl, q_nils, e_exit, e_ret, e_nrm, e_ret_exit, e_exit_ret, e_nrm_exit, e_nrm_ret, e_exit_nrm, e_ret_nrm, Nat.zero_add, Nat.reduceAdd, noslR, noslP, noslB, noslA, List.all_cons, List.all_nil, rdRs, hnn, hsm]
  rw [w64 (by omega)]
  rfl

theorem s3_all (y0 y1 y2 y3 y4 y5 : List UInt8) (h : ∀ y ∈ [y0, y1, y2, y3, y4, y5], y.length ≤ 100000) :
    lp E (denC E) 3 0 [] 0 { vals := [AV.agg [PV.str y0, PV.str y1, PV.str y2, PV.str y3, PV.str y4, PV.str y5], AV.int .i64 0], blks := [] } = some (Ex.exit 0, { vals := [], blks := [] }) := by
  have e0 : (0 : Int) = ((0 : Nat) : Int) := rfl
  rw [e0, s3_step _ _ _ _ _ _ 0 y0 rfl (h _ (by simp)), s3_step _ _ _ _ _ _ 1 y1 rfl (h _ (by simp)), s3_step _ _ _ _ _ _ 2 y2 rfl (h _ (by simp)), s3_step _ _ _ _ _ _ 3 y3 rfl (h _ (by simp)), s3_step _ _ _ _ _ _ 4 y4 rfl (h _ (by simp)), s3_step _ _ _ _ _ _ 5 y5 rfl (h _ (by simp)), r3_0]
  have h1 : ltB ((5 + 1 : Nat) : Int) 6 = false := rfl
  rw [h1, ctl_false]

theorem itoa_pos (n : Int) : 1 ≤ (Lib.itoa n).length := by
  unfold Lib.itoa
  split
  · simp
  · obtain ⟨_, _, b, r, h3, _⟩ := dec_spec n.toNat
    rw [h3]; simp
theorem text_seven {b : List En} {s : Int} (h : checkP b s = 0) : 7 ≤ (linesP b ++ lastP s).length := by
  have h1 : 4 ≤ (lastP s).length := by have := itoa_pos s; unfold lastP; simp; omega
  cases b with
  | nil =>
    have := checkP_run h
    simp only [runB, Option.some.injEq] at this
    subst this
    decide +kernel
  | cons e r =>
    have h2 : 4 ≤ (lineP e.t e.k e.ws).length := by
      have a1 := itoa_pos e.t
      have a2 := itoa_pos e.k
      unfold lineP
      rw [join_two, Lib.join_cons]
      simp
      omega
    unfold linesP
    simp only [List.map_cons, List.flatten_cons, List.length_append]
    omega

theorem d_LogbookReads (t : List Int) (_ : t.length ≤ maxLen) (_ : ∀ n ∈ t, -9223372036854775808 ≤ n ∧ n ≤ 9223372036854775807) (raw : List UInt8) (_ : raw.length ≤ maxLen) (at_ : Int) (_ : -9223372036854775808 ≤ at_ ∧ at_ ≤ 9223372036854775807) (by_ : Int) (hby : 0 ≤ by_ ∧ by_ ≤ 255) :
    denC E 3 [AV.sl 1 (intsK .i64 t), AV.str raw, AV.int .i64 at_, AV.int .u8 by_] [] = some ([RV.p (PV.bool true)], []) := by
  rw [denC_eq, r3, intsK_len]
  by_cases ht : 600 < t.length ∨ 200 < raw.length
  · have h1 : ctl (!ltB 600 (t.length : Int)) (some (ltB 200 (raw.length : Int))) (some true) = some true := by
      by_cases h : 600 < t.length
      · have : ltB 600 (t.length : Int) = true := decide_eq_true (by omega)
        rw [this]; rfl
      · have a1 : ltB 600 (t.length : Int) = false := decide_eq_false (by omega)
        have a2 : ltB 200 (raw.length : Int) = true := decide_eq_true (by omega)
        rw [a1, a2]; rfl
    rw [h1]
    simp only [bnd_some, ctl_true, ctl_false, ctl_and, ctl_or', ctl_or2, x_toPV, x_toCs, x_toCs2, x_toEs, x_bEs, x_bCs, x_aPV, x_aCs, x_int, x_bool, x_str, x_es, x_esn, nth_0, nth_1, nth_2, nth_3, nth_4, nth_5, nth_6, nth_7, nth_8, nth_9, y_nil, y_int, y_bool, y_str, y_sl, y_nils, y_agg, y_ownp, y_own, z_nil, z_int, z_bool, z_str, z_sl, z_nils, b_nil, b_arr, b_box1, b_box2, b_box3, b_box4, List.map_cons, List.map_nil, Bool.and_self, Bool.and_true, Bool.true_and, Bool.not_true, Bool.not_false, Bool.or_false, Bool.false_or, cond_true, cond_false, okPack, okPut, okPutBlks, okPutCells, q_isP, q_isAg, q_isBox, q_isArr, q_int, q_bool, q_str, q_sl, q_nils, e_exit, e_ret, e_nrm, e_ret_exit, e_exit_ret, e_nrm_exit, e_nrm_ret, e_exit_nrm, e_ret_nrm, Nat.zero_add, Nat.reduceAdd, noslR, noslP, noslB, noslA, List.all_cons, List.all_nil]
    rw [c_sane36]
    rfl
  · have h1 : ctl (!ltB 600 (t.length : Int)) (some (ltB 200 (raw.length : Int))) (some true) = some false := by
      have a1 : ltB 600 (t.length : Int) = false := decide_eq_false (by omega)
      have a2 : ltB 200 (raw.length : Int) = false := decide_eq_false (by omega)
      rw [a1, a2]; rfl
    rw [h1]
    simp only [bnd_some, ctl_true, ctl_false, ctl_and, ctl_or', ctl_or2, x_toPV, x_toCs, x_toCs2, x_toEs, x_bEs, x_bCs, x_aPV, x_aCs, x_int, x_bool, x_str, x_es, x_esn, nth_0, nth_1, nth_2, nth_3, nth_4, nth_5, nth_6, nth_7, nth_8, nth_9, y_nil, y_int, y_bool, y_str, y_sl, y_nils, y_agg, y_ownp, y_own, z_nil, z_int, z_bool, z_str, z_sl, z_nils, b_nil, b_arr, b_box1, b_box2, b_box3, b_box4, List.map_cons, List.map_nil, Bool.and_self, Bool.and_true, Bool.true_and, Bool.not_true, Bool.not_false, Bool.or_false, Bool.false_or, cond_true, cond_false, okPack, okPut, okPutBlks, okPutCells, q_isP, q_isAg, q_isBox, q_isArr, q_int, q_bool, q_str, q_sl, q_nils, e_exit, e_ret, e_nrm, e_ret_exit, e_exit_ret, e_nrm_exit, e_nrm_ret, e_exit_nrm, e_ret_nrm, Nat.zero_add, Nat.reduceAdd, noslR, noslP, noslB, noslA, List.all_cons, List.all_nil]
    rw [c_New]
    simp only [bnd_some, ctl_true, ctl_false, ctl_and, ctl_or', ctl_or2, x_toPV, x_toCs, x_toCs2, x_toEs, x_bEs, x_bCs, x_aPV, x_aCs, x_int, x_bool, x_str, x_es, x_esn, nth_0, nth_1, nth_2, nth_3, nth_4, nth_5, nth_6, nth_7, nth_8, nth_9, y_nil, y_int, y_bool, y_str, y_sl, y_nils, y_agg, y_ownp, y_own, z_nil, z_int, z_bool, z_str, z_sl, z_nils, b_nil, b_arr, b_box1, b_box2, b_box3, b_box4, List.map_cons, List.map_nil, Bool.and_self, Bool.and_true, Bool.true_and, Bool.not_true, Bool.not_false, Bool.or_false, Bool.false_or, cond_true, cond_false, okPack, okPut, okPutBlks, okPutCells, q_isP, q_isAg, q_isBox, q_isArr, q_int, q_bool, q_str, q_sl, q_nils, e_exit, e_ret, e_nrm, e_ret_exit, e_exit_ret, e_nrm_exit, e_nrm_ret, e_exit_nrm, e_ret_nrm, Nat.zero_add, Nat.reduceAdd, noslR, noslP, noslB, noslA, List.all_cons, List.all_nil]
    rw [src_zero]
    have hL : (t.take 600).length ≤ 600 := by simp; omega
    obtain ⟨b, s, k1, hk1, hc, hbl, _, hB⟩ := c_Book (L := t.take 600) (k := 0) hL (by omega) 8 (by omega)
    rw [hB]
    simp only [bnd_some, ctl_true, ctl_false, ctl_and, ctl_or', ctl_or2, x_toPV, x_toCs, x_toCs2, x_toEs, x_bEs, x_bCs, x_aPV, x_aCs, x_int, x_bool, x_str, x_es, x_esn, nth_0, nth_1, nth_2, nth_3, nth_4, nth_5, nth_6, nth_7, nth_8, nth_9, y_nil, y_int, y_bool, y_str, y_sl, y_nils, y_agg, y_ownp, y_own, z_nil, z_int, z_bool, z_str, z_sl, z_nils, b_nil, b_arr, b_box1, b_box2, b_box3, b_box4, List.map_cons, List.map_nil, Bool.and_self, Bool.and_true, Bool.true_and, Bool.not_true, Bool.not_false, Bool.or_false, Bool.false_or, cond_true, cond_false, okPack, okPut, okPutBlks, okPutCells, q_isP, q_isAg, q_isBox, q_isArr, q_int, q_bool, q_str, q_sl, q_nils, e_exit, e_ret, e_nrm, e_ret_exit, e_exit_ret, e_nrm_exit, e_nrm_ret, e_exit_nrm, e_ret_nrm, Nat.zero_add, Nat.reduceAdd, noslR, noslP, noslB, noslA, List.all_cons, List.all_nil]
    have hrng := checkP_rng hc
    have hT := c_TextE b s hrng (checkP_ws hc)
    have ht : textR b s = [RV.p (PV.str (linesP b ++ lastP s)), RV.p (PV.int .i64 0)] := by unfold textR; rw [if_pos hc]
    rw [ht] at hT
    have hll := linesP_len (fun e he => runB_ok (checkP_run hc) e he)
    have hla := lastP_len hrng
    obtain ⟨x, hx⟩ : ∃ x, linesP b ++ lastP s = x := ⟨_, rfl⟩
    have hx7 : 7 ≤ x.length := by rw [← hx]; exact text_seven hc
    have hxl : x.length ≤ 2000 := by rw [← hx]; simp; omega
    rw [hx] at hT
    rw [hT]
    have d0 : ((0 : Int) != 0) = false := rfl
    have d1 : ltB (x.length : Int) 7 = false := decide_eq_false (by omega)
    simp only [bnd_some, ctl_true, ctl_false, ctl_and, ctl_or', ctl_or2, x_toPV, x_toCs, x_toCs2, x_toEs, x_bEs, x_bCs, x_aPV, x_aCs, x_int, x_bool, x_str, x_es, x_esn, nth_0, nth_1, nth_2, nth_3, nth_4, nth_5, nth_6, nth_7, nth_8, nth_9, y_nil, y_int, y_bool, y_str, y_sl, y_nils, y_agg, y_ownp, y_own, z_nil, z_int, z_bool, z_str, z_sl, z_nils, b_nil, b_arr, b_box1, b_box2, b_box3, b_box4, List.map_cons, List.map_nil, Bool.and_self, Bool.and_true, Bool.true_and, Bool.not_true, Bool.not_false, Bool.or_false, Bool.false_or, cond_true, cond_false, okPack, okPut, okPutBlks, okPutCells, q_isP, q_isAg, q_isBox, q_isArr, q_int, q_bool, q_str, q_sl, q_nils, e_exit, e_ret, e_nrm, e_ret_exit, e_exit_ret, e_nrm_exit, e_nrm_ret, e_exit_nrm, e_ret_nrm, Nat.zero_add, Nat.reduceAdd, noslR, noslP, noslB, noslA, List.all_cons, List.all_nil, d0, d1]
    rw [c_Mod at_ x.length (by omega), c_Mod at_ 7 (by omega)]
    have m1 := md_bounds (x := at_) (n := (x.length : Int)) (by omega)
    have m2 := md_bounds (x := at_) (n := 7) (by omega)
    generalize md at_ (x.length : Int) = p at *
    generalize md at_ 7 = q at *
    have hS := c_SText hL hk1 (l := [[48], [32], [45], [49], [10], [61]]) (by simp)
    have hSm := vText_mem (t.take 600) k1 (l := [[48], [32], [45], [49], [10], [61]]) (by simp)
    generalize vText (t.take 600) k1 [[48], [32], [45], [49], [10], [61]] = w at *
    obtain ⟨w0, rfl⟩ : ∃ c : UInt8, w = [c] := by
      simp at hSm
      rcases hSm with h | h | h | h | h | h <;> exact ⟨_, h⟩
    obtain ⟨pn, rfl⟩ : ∃ n : Nat, p = n := ⟨p.toNat, by omega⟩
    obtain ⟨qn, rfl⟩ : ∃ n : Nat, q = n := ⟨q.toNat, by omega⟩
    obtain ⟨bn, rfl⟩ : ∃ c : UInt8, by_ = (c.toNat : Int) := ⟨UInt8.ofNat by_.toNat, by simp; omega⟩
    have i1 : (leB 0 (pn : Int) && ltB (pn : Int) ((byteEs x).length : Int)) = true := by
      have a1 : leB 0 (pn : Int) = true := decide_eq_true (by omega)
      have a2 : ltB (pn : Int) ((byteEs x).length : Int) = true := decide_eq_true (by rw [byteEs_length]; omega)
      rw [a1, a2]; rfl
    have i2 : (leB 0 (qn : Int) && ltB (qn : Int) ((byteEs x).length : Int)) = true := by
      have a1 : leB 0 (qn : Int) = true := decide_eq_true (by omega)
      have a2 : ltB (qn : Int) ((byteEs x).length : Int) = true := decide_eq_true (by rw [byteEs_length]; omega)
      rw [a1, a2]; rfl
    have i3 : (leB 0 (pn : Int) && leB (pn : Int) (x.length : Int)) = true := by
      have a1 : leB 0 (pn : Int) = true := decide_eq_true (by omega)
      have a2 : leB (pn : Int) (x.length : Int) = true := decide_eq_true (by omega)
      rw [a1, a2]; rfl
    have i4 : ltB 0 (([w0] : List UInt8).length : Int) = true := rfl
    have i5 : leN (x.length + raw.length) 9223372036854775807 = true := decide_eq_true (by omega)
    have e1 : strsK [[48], [32], [45], [49], [10], [61]] = [[PV.str [48]], [PV.str [32]], [PV.str [45]], [PV.str [49]], [PV.str [10]], [PV.str [61]]] := rfl
    have e2 : byteAt [w0] 0 = (w0.toNat : Int) := rfl
    rw [e1] at hS
    simp only [bnd_some, ctl_true, ctl_false, ctl_and, ctl_or', ctl_or2, x_toPV, x_toCs, x_toCs2, x_toEs, x_bEs, x_bCs, x_aPV, x_aCs, x_int, x_bool, x_str, x_es, x_esn, nth_0, nth_1, nth_2, nth_3, nth_4, nth_5, nth_6, nth_7, nth_8, nth_9, y_nil, y_int, y_bool, y_str, y_sl, y_nils, y_agg, y_ownp, y_own, z_nil, z_int, z_bool, z_str, z_sl, z_nils, b_nil, b_arr, b_box1, b_box2, b_box3, b_box4, List.map_cons, List.map_nil, Bool.and_self, Bool.and_true, Bool.true_and, Bool.not_true, Bool.not_false, Bool.or_false, Bool.false_or, cond_true, cond_false, okPack, okPut, okPutBlks, okPutCells, q_isP, q_isAg, q_isBox, q_isArr, q_int, q_bool, q_str, q_sl, q_nils, e_exit, e_ret, e_nrm, e_ret_exit, e_exit_ret, e_nrm_exit, e_nrm_ret, e_exit_nrm, e_ret_nrm, Nat.zero_add, Nat.reduceAdd, noslR, noslP, noslB, noslA, List.all_cons, List.all_nil, i1]
    rw [show Blk.box [AV.sl 1 (intsK .i64 (t.take 600)), AV.int .i64 (k1 : Nat)] = src (t.take 600) k1 from rfl, hS]
    simp only [bnd_some, ctl_true, ctl_false, ctl_and, ctl_or', ctl_or2, x_toPV, x_toCs, x_toCs2, x_toEs, x_bEs, x_bCs, x_aPV, x_aCs, x_int, x_bool, x_str, x_es, x_esn, nth_0, nth_1, nth_2, nth_3, nth_4, nth_5, nth_6, nth_7, nth_8, nth_9, y_nil, y_int, y_bool, y_str, y_sl, y_nils, y_agg, y_ownp, y_own, z_nil, z_int, z_bool, z_str, z_sl, z_nils, b_nil, b_arr, b_box1, b_box2, b_box3, b_box4, List.map_cons, List.map_nil, Bool.and_self, Bool.and_true, Bool.true_and, Bool.not_true, Bool.not_false, Bool.or_false, Bool.false_or, cond_true, cond_false, okPack, okPut, okPutBlks, okPutCells, q_isP, q_isAg, q_isBox, q_isArr, q_int, q_bool, q_str, q_sl, q_nils, e_exit, e_ret, e_nrm, e_ret_exit, e_exit_ret, e_nrm_exit, e_nrm_ret, e_exit_nrm, e_ret_nrm, Nat.zero_add, Nat.reduceAdd, noslR, noslP, noslB, noslA, List.all_cons, List.all_nil, i2, i3, i4, i5, e2, Int.toNat_natCast, setEs_bytes (show pn < x.length by omega), setEs_bytes (show qn < x.length by omega), bytesOk_byteEs, toBytes_byteEs]
    rw [s3_all _ _ _ _ _ _ ?_]
    · simp only [bnd_some, ctl_true, ctl_false, ctl_and, ctl_or', ctl_or2, x_toPV, x_toCs, x_toCs2, x_toEs, x_bEs, x_bCs, x_aPV, x_aCs, x_int, x_bool, x_str, x_es, x_esn, nth_0, nth_1, nth_2, nth_3, nth_4, nth_5, nth_6, nth_7, nth_8, nth_9, y_nil, y_int, y_bool, y_str, y_sl, y_nils, y_agg, y_ownp, y_own, z_nil, z_int, z_bool, z_str, z_sl, z_nils, b_nil, b_arr, b_box1, b_box2, b_box3, b_box4, List.map_cons, List.map_nil, Bool.and_self, Bool.and_true, Bool.true_and, Bool.not_true, Bool.not_false, Bool.or_false, Bool.false_or, cond_true, cond_false, okPack, okPut, okPutBlks, okPutCells, q_isP, q_isAg, q_isBox, q_isArr, q_int, q_bool, q_str, q_sl, q_nils, e_exit, e_ret, e_nrm, e_ret_exit, e_exit_ret, e_nrm_exit, e_nrm_ret, e_exit_nrm, e_ret_nrm, Nat.zero_add, Nat.reduceAdd, noslR, noslP, noslB, noslA, List.all_cons, List.all_nil]
      rw [c_sane36]
      rfl
    · intro y hy
      simp only [List.mem_cons, List.not_mem_nil, or_false] at hy
      have hc : (cutI x 0 (pn : Int)).length ≤ x.length := by unfold cutI; simp; omega
      rcases hy with rfl | rfl | rfl | rfl | rfl | rfl <;> simp <;> omega

end Go.Proofs.YtiijghkfinkphaaGreatDoor.Vm
