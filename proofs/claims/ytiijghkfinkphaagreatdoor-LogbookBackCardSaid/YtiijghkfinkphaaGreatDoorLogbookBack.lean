/- The law LogbookBack. -/
import Derived.Test.YtiijghkfinkphaaGreatDoorReadD
import Derived.Test.YtiijghkfinkphaaGreatDoorRawBack
namespace Go.Proofs.YtiijghkfinkphaaGreatDoor.Vm
set_option linter.unusedVariables false
set_option linter.unusedSimpArgs false

theorem rd_noend {P : List UInt8} (h : ∀ b ∈ P, b ≠ 10) (es : List En) (s n : Int) : rdP (linesB P) es s n = (es, s, n) := by
  by_cases hp : P = []
  · subst hp; rfl
  · obtain ⟨a1, a2⟩ := noend_noE h
    rw [lines_no10 h hp, rdP, if_neg (a2 s), a1]

theorem rd_begin (s : Int) : ∀ (rem es : List En) (s0 n : Int) (P Q : List UInt8), checkP es s0 = 0 → checkP (es ++ rem) s = 0 → P ++ Q = linesP rem ++ lastP s →
    ∃ j s' n', rdP (linesB P) es s0 n = (es ++ rem.take j, s', n') ∧ n' ≤ n + (P.length : Nat) ∧ (Q = [] → es ++ rem.take j = es ++ rem ∧ s' = s ∧ n' = n + (P.length : Nat))
  | [], es, s0, n, P, Q, h0, h1, hPQ => by
    obtain ⟨l, hl, hno⟩ := last_form s
    have e : s0 = s := by
      have a1 := checkP_run h0
      have a2 := checkP_run h1
      rw [List.append_nil, a1] at a2
      exact Option.some.inj a2
    subst e
    have hPQ' : P ++ Q = l ++ [10] := by rw [← hl]; simpa [linesP] using hPQ
    rcases List.eq_nil_or_concat Q with rfl | ⟨q, c, rfl⟩
    · rw [List.append_nil] at hPQ'
      refine ⟨0, s0, n + (P.length : Nat), ?_, Int.le_refl _, fun _ => ⟨by simp, rfl, rfl⟩⟩
      rw [hPQ', no10_of_chars hno [], rdP, hl, if_pos rfl]
      simp
    · have h2 : (P ++ q) ++ [c] = l ++ [10] := by rw [← hPQ']; simp
      have h3 := (List.append_inj' h2 rfl).1
      have hP : ∀ b ∈ P, b ≠ 10 := fun b hb => hno b (by rw [← h3]; exact List.mem_append_left _ hb)
      refine ⟨0, s0, n, by rw [rd_noend hP]; simp, by omega, fun h => by simp at h⟩
  | e :: rem, es, s0, n, P, Q, h0, h1, hPQ => by
    obtain ⟨l, hl, hno⟩ := line_form e.t e.k e.ws
    have hrun := checkP_run h1
    have hv : validP e.t e.k e.ws = true := runB_ok hrun e (by simp)
    have hsort := (runB_sorted hrun).2
    have hlen := checkP_len h1
    have hPQ' : P ++ Q = l ++ (10 :: (linesP rem ++ lastP s)) := by
      rw [hPQ]
      unfold linesP
      rw [List.map_cons, List.flatten_cons, hl]
      simp
    rcases List.append_eq_append_iff.1 hPQ' with ⟨a, h2, h3⟩ | ⟨a, h2, h3⟩
    · -- P ends ahead of the line's end
      have hP : ∀ b ∈ P, b ≠ 10 := fun b hb => hno b (by rw [h2]; exact List.mem_append_left _ hb)
      refine ⟨0, s0, n, by rw [rd_noend hP]; simp, by omega, fun h => ?_⟩
      rw [h] at h3
      simp at h3
    · cases a with
      | nil =>
        rw [List.append_nil] at h2
        have hP : ∀ b ∈ P, b ≠ 10 := fun b hb => hno b (by rw [← h2]; exact hb)
        refine ⟨0, s0, n, by rw [rd_noend hP]; simp, by omega, fun h => ?_⟩
        rw [h] at h3
        simp at h3
      | cons c a =>
        simp only [List.cons_append, List.cons.injEq] at h3
        obtain ⟨rfl, h3⟩ := h3
        have hie : IsE (l ++ [10]) e := ⟨hv, hl⟩
        have hee := lineE_some hie
        have hne : l ++ [10] ≠ lastP s0 := fun h => by rw [h, last_noE] at hee; cases hee
        have hlate : lateP es e.t = true := lateP_of fun x hx => by
          have := List.pairwise_append.1 hsort
          exact this.2.2 x hx e (.head _)
        have hlt : es.length < 200 := by simp at hlen; omega
        have hck := checkP_snoc h0 hv hlate hlt
        obtain ⟨j, s', n', g1, g2, g3⟩ := rd_begin s rem (es ++ [e]) (sumB s0 (lineP e.t e.k e.ws)) (n + ((l ++ [10]).length : Nat)) a Q hck (by rw [List.append_assoc]; exact h1) h3.symm
        refine ⟨j + 1, s', n', ?_, ?_, fun h => ?_⟩
        · rw [h2, no10_of_chars hno a, rdP, if_neg hne, hee]
          simp only
          rw [← hl] at g1
          rw [if_pos ⟨hlate, by omega⟩, ← hl, g1]
          simp
        · rw [h2]
          simp at g2 ⊢
          omega
        · obtain ⟨k1, k2, k3⟩ := g3 h
          refine ⟨by simpa using k1, k2, ?_⟩
          rw [k3, h2]
          simp
          omega

theorem d_LogbookBack (t : List Int) (_ : t.length ≤ maxLen) (_ : ∀ n ∈ t, -9223372036854775808 ≤ n ∧ n ≤ 9223372036854775807) (cut : Int) (hcut : 0 ≤ cut ∧ cut ≤ 65535) :
    denC E 4 [AV.sl 1 (intsK .i64 t), AV.int .u16 cut] [] = some ([RV.p (PV.bool true)], []) := by
  rw [denC_eq, r4, intsK_len]
  by_cases ht : 600 < t.length
  · have h1 : ltB 600 (t.length : Int) = true := decide_eq_true (by omega)
    rw [h1, ctl_true, c_sane36]
    rfl
  · have h1 : ltB 600 (t.length : Int) = false := decide_eq_false (by omega)
    rw [h1, ctl_false, c_New]
    simp only [bnd_some, ctl_true, ctl_false, ctl_and, ctl_or', ctl_or2, x_toPV, x_toCs, x_toCs2, x_toEs, x_bEs, x_bCs, x_aPV, x_aCs, x_int, x_bool, x_str, x_es, x_esn, nth_0, nth_1, nth_2, nth_3, nth_4, nth_5, nth_6, nth_7, nth_8, nth_9, y_nil, y_int, y_bool, y_str, y_sl, y_nils, y_agg, y_ownp, y_own, z_nil, z_int, z_bool, z_str, z_sl, z_nils, b_nil, b_arr, b_box1, b_box2, b_box3, b_box4, List.map_cons, List.map_nil, Bool.and_self, Bool.and_true, Bool.true_and, Bool.not_true, Bool.not_false, Bool.or_false, Bool.false_or, cond_true, cond_false, okPack, okPut, okPutBlks, okPutCells, q_isP, q_isAg, q_isBox, q_isArr, q_int, q_bool, q_str, q_sl, q_nils, e_exit, e_ret, e_nrm, e_ret_exit, e_exit_ret, e_nrm_exit, e_nrm_ret, e_exit_nrm, e_ret_nrm, Nat.zero_add, Nat.reduceAdd, noslR, noslP, noslB, noslA, List.all_cons, List.all_nil]
    rw [src_zero]
    have hL : (t.take 600).length ≤ 600 := by simp; omega
    obtain ⟨b, s, k1, hk1, hc, hbl, _, hB⟩ := c_Book (L := t.take 600) (k := 0) hL (by omega) 10 (by omega)
    rw [hB]
    simp only [bnd_some, ctl_true, ctl_false, ctl_and, ctl_or', ctl_or2, x_toPV, x_toCs, x_toCs2, x_toEs, x_bEs, x_bCs, x_aPV, x_aCs, x_int, x_bool, x_str, x_es, x_esn, nth_0, nth_1, nth_2, nth_3, nth_4, nth_5, nth_6, nth_7, nth_8, nth_9, y_nil, y_int, y_bool, y_str, y_sl, y_nils, y_agg, y_ownp, y_own, z_nil, z_int, z_bool, z_str, z_sl, z_nils, b_nil, b_arr, b_box1, b_box2, b_box3, b_box4, List.map_cons, List.map_nil, Bool.and_self, Bool.and_true, Bool.true_and, Bool.not_true, Bool.not_false, Bool.or_false, Bool.false_or, cond_true, cond_false, okPack, okPut, okPutBlks, okPutCells, q_isP, q_isAg, q_isBox, q_isArr, q_int, q_bool, q_str, q_sl, q_nils, e_exit, e_ret, e_nrm, e_ret_exit, e_exit_ret, e_nrm_exit, e_nrm_ret, e_exit_nrm, e_ret_nrm, Nat.zero_add, Nat.reduceAdd, noslR, noslP, noslB, noslA, List.all_cons, List.all_nil]
    have hrng := checkP_rng hc
    have hT := c_TextE b s hrng (checkP_ws hc)
    have ht : textR b s = [RV.p (PV.str (linesP b ++ lastP s)), RV.p (PV.int .i64 0)] := by unfold textR; rw [if_pos hc]
    rw [ht] at hT
    have hll := linesP_len (fun e he => runB_ok (checkP_run hc) e he)
    have hla := lastP_len hrng
    have hbeg := rd_begin s b [] begin36 0
    obtain ⟨x, hx⟩ : ∃ x, linesP b ++ lastP s = x := ⟨_, rfl⟩
    have hxl : x.length ≤ 3000 := by rw [← hx]; simp; omega
    rw [hx] at hT hbeg
    rw [hT]
    obtain ⟨j1, s1, n1, g1, g2, g3⟩ := hbeg x [] checkP_nil hc (by simp)
    obtain ⟨k1', rfl, rfl⟩ := g3 rfl
    rw [k1', List.nil_append] at g1
    have hR1 := c_ReadE x (by omega)
    rw [g1] at hR1
    have d0 : ((0 : Int) != 0) = false := rfl
    have d1 : ((0 + (x.length : Nat) : Int) != (x.length : Int)) = false := by simp
    simp only [bnd_some, ctl_true, ctl_false, ctl_and, ctl_or', ctl_or2, x_toPV, x_toCs, x_toCs2, x_toEs, x_bEs, x_bCs, x_aPV, x_aCs, x_int, x_bool, x_str, x_es, x_esn, nth_0, nth_1, nth_2, nth_3, nth_4, nth_5, nth_6, nth_7, nth_8, nth_9, y_nil, y_int, y_bool, y_str, y_sl, y_nils, y_agg, y_ownp, y_own, z_nil, z_int, z_bool, z_str, z_sl, z_nils, b_nil, b_arr, b_box1, b_box2, b_box3, b_box4, List.map_cons, List.map_nil, Bool.and_self, Bool.and_true, Bool.true_and, Bool.not_true, Bool.not_false, Bool.or_false, Bool.false_or, cond_true, cond_false, okPack, okPut, okPutBlks, okPutCells, q_isP, q_isAg, q_isBox, q_isArr, q_int, q_bool, q_str, q_sl, q_nils, e_exit, e_ret, e_nrm, e_ret_exit, e_exit_ret, e_nrm_exit, e_nrm_ret, e_exit_nrm, e_ret_nrm, Nat.zero_add, Nat.reduceAdd, noslR, noslP, noslB, noslA, List.all_cons, List.all_nil, d0]
    rw [hR1]
    simp only [bnd_some, ctl_true, ctl_false, ctl_and, ctl_or', ctl_or2, x_toPV, x_toCs, x_toCs2, x_toEs, x_bEs, x_bCs, x_aPV, x_aCs, x_int, x_bool, x_str, x_es, x_esn, nth_0, nth_1, nth_2, nth_3, nth_4, nth_5, nth_6, nth_7, nth_8, nth_9, y_nil, y_int, y_bool, y_str, y_sl, y_nils, y_agg, y_ownp, y_own, z_nil, z_int, z_bool, z_str, z_sl, z_nils, b_nil, b_arr, b_box1, b_box2, b_box3, b_box4, List.map_cons, List.map_nil, Bool.and_self, Bool.and_true, Bool.true_and, Bool.not_true, Bool.not_false, Bool.or_false, Bool.false_or, cond_true, cond_false, okPack, okPut, okPutBlks, okPutCells, q_isP, q_isAg, q_isBox, q_isArr, q_int, q_bool, q_str, q_sl, q_nils, e_exit, e_ret, e_nrm, e_ret_exit, e_exit_ret, e_nrm_exit, e_nrm_ret, e_exit_nrm, e_ret_nrm, Nat.zero_add, Nat.reduceAdd, noslR, noslP, noslB, noslA, List.all_cons, List.all_nil, rdRs, d1]
    rw [c_SameR b s1 (by have := checkP_len hc; omega) (checkP_ws hc)]
    simp only [bnd_some, ctl_true, ctl_false, ctl_and, ctl_or', ctl_or2, x_toPV, x_toCs, x_toCs2, x_toEs, x_bEs, x_bCs, x_aPV, x_aCs, x_int, x_bool, x_str, x_es, x_esn, nth_0, nth_1, nth_2, nth_3, nth_4, nth_5, nth_6, nth_7, nth_8, nth_9, y_nil, y_int, y_bool, y_str, y_sl, y_nils, y_agg, y_ownp, y_own, z_nil, z_int, z_bool, z_str, z_sl, z_nils, b_nil, b_arr, b_box1, b_box2, b_box3, b_box4, List.map_cons, List.map_nil, Bool.and_self, Bool.and_true, Bool.true_and, Bool.not_true, Bool.not_false, Bool.or_false, Bool.false_or, cond_true, cond_false, okPack, okPut, okPutBlks, okPutCells, q_isP, q_isAg, q_isBox, q_isArr, q_int, q_bool, q_str, q_sl, q_nils, e_exit, e_ret, e_nrm, e_ret_exit, e_exit_ret, e_nrm_exit, e_nrm_ret, e_exit_nrm, e_ret_nrm, Nat.zero_add, Nat.reduceAdd, noslR, noslP, noslB, noslA, List.all_cons, List.all_nil]
    have w1 : IntKind.i64.wrap ((x.length : Int) + 1) = (x.length : Int) + 1 := w64 (by omega)
    have w2 : IntKind.i64.wrap cut = cut := w64 (by omega)
    have w3 : neB ((x.length : Int) + 1) 0 = true := by simp; omega
    have w4 : cut.tmod ((x.length : Int) + 1) = cut % ((x.length : Int) + 1) := Int.tmod_eq_emod_of_nonneg hcut.1
    have w5 : 0 ≤ cut % ((x.length : Int) + 1) ∧ cut % ((x.length : Int) + 1) < (x.length : Int) + 1 := ⟨Int.emod_nonneg _ (by omega), Int.emod_lt_of_pos _ (by omega)⟩
    rw [w1, w2, w3, w4]
    obtain ⟨k, hk⟩ : ∃ k : Nat, cut % ((x.length : Int) + 1) = k := ⟨(cut % ((x.length : Int) + 1)).toNat, by omega⟩
    rw [hk] at w5 ⊢
    have i1 : (leB 0 (k : Int) && leB (k : Int) (x.length : Int)) = true := by
      have a1 : leB 0 (k : Int) = true := decide_eq_true (by omega)
      have a2 : leB (k : Int) (x.length : Int) = true := decide_eq_true (by omega)
      rw [a1, a2]; rfl
    have hcutx : cutI x 0 (k : Int) = x.take k := by unfold cutI; simp
    rw [i1, hcutx]
    obtain ⟨j2, s2, n2, f1, f2, f3⟩ := hbeg (x.take k) (x.drop k) checkP_nil hc (List.take_append_drop k x)
    have hchk := rd_check (linesB (x.take k)) [] begin36 0 checkP_nil
    have hR2 := c_ReadE (x.take k) (by simp; omega)
    rw [f1, List.nil_append] at hR2 hchk
    simp only [bnd_some, ctl_true, ctl_false, ctl_and, ctl_or', ctl_or2, x_toPV, x_toCs, x_toCs2, x_toEs, x_bEs, x_bCs, x_aPV, x_aCs, x_int, x_bool, x_str, x_es, x_esn, nth_0, nth_1, nth_2, nth_3, nth_4, nth_5, nth_6, nth_7, nth_8, nth_9, y_nil, y_int, y_bool, y_str, y_sl, y_nils, y_agg, y_ownp, y_own, z_nil, z_int, z_bool, z_str, z_sl, z_nils, b_nil, b_arr, b_box1, b_box2, b_box3, b_box4, List.map_cons, List.map_nil, Bool.and_self, Bool.and_true, Bool.true_and, Bool.not_true, Bool.not_false, Bool.or_false, Bool.false_or, cond_true, cond_false, okPack, okPut, okPutBlks, okPutCells, q_isP, q_isAg, q_isBox, q_isArr, q_int, q_bool, q_str, q_sl, q_nils, e_exit, e_ret, e_nrm, e_ret_exit, e_exit_ret, e_nrm_exit, e_nrm_ret, e_exit_nrm, e_ret_nrm, Nat.zero_add, Nat.reduceAdd, noslR, noslP, noslB, noslA, List.all_cons, List.all_nil]
    rw [hR2]
    simp only [bnd_some, ctl_true, ctl_false, ctl_and, ctl_or', ctl_or2, x_toPV, x_toCs, x_toCs2, x_toEs, x_bEs, x_bCs, x_aPV, x_aCs, x_int, x_bool, x_str, x_es, x_esn, nth_0, nth_1, nth_2, nth_3, nth_4, nth_5, nth_6, nth_7, nth_8, nth_9, y_nil, y_int, y_bool, y_str, y_sl, y_nils, y_agg, y_ownp, y_own, z_nil, z_int, z_bool, z_str, z_sl, z_nils, b_nil, b_arr, b_box1, b_box2, b_box3, b_box4, List.map_cons, List.map_nil, Bool.and_self, Bool.and_true, Bool.true_and, Bool.not_true, Bool.not_false, Bool.or_false, Bool.false_or, cond_true, cond_false, okPack, okPut, okPutBlks, okPutCells, q_isP, q_isAg, q_isBox, q_isArr, q_int, q_bool, q_str, q_sl, q_nils, e_exit, e_ret, e_nrm, e_ret_exit, e_exit_ret, e_nrm_exit, e_nrm_ret, e_exit_nrm, e_ret_nrm, Nat.zero_add, Nat.reduceAdd, noslR, noslP, noslB, noslA, List.all_cons, List.all_nil, rdRs]
    have l1 : leB n2 (k : Int) = true := decide_eq_true (by rw [List.length_take] at f2; omega)
    have l2 : leB ((ensK (b.take j2)).length : Int) ((ensK b).length : Int) = true := decide_eq_true (by rw [ensK_len, ensK_len, List.length_take]; omega)
    have l3 : cutI (ensK b) 0 ((ensK (b.take j2)).length : Int) = ensK (b.take j2) := by
      unfold cutI
      rw [Int.toNat_natCast, ensK_len]
      show ((b.map enK).take _).drop 0 = (b.take j2).map enK
      rw [List.drop_zero, ← List.map_take, List.length_take]
      congr 1
      by_cases hj : j2 ≤ b.length
      · rw [Nat.min_eq_left hj]
      · rw [Nat.min_eq_right (by omega), List.take_of_length_le (Nat.le_refl _), List.take_of_length_le (by omega)]
    rw [l1, l2, l3]
    simp only [bnd_some, ctl_true, ctl_false, ctl_and, ctl_or', ctl_or2, x_toPV, x_toCs, x_toCs2, x_toEs, x_bEs, x_bCs, x_aPV, x_aCs, x_int, x_bool, x_str, x_es, x_esn, nth_0, nth_1, nth_2, nth_3, nth_4, nth_5, nth_6, nth_7, nth_8, nth_9, y_nil, y_int, y_bool, y_str, y_sl, y_nils, y_agg, y_ownp, y_own, z_nil, z_int, z_bool, z_str, z_sl, z_nils, b_nil, b_arr, b_box1, b_box2, b_box3, b_box4, List.map_cons, List.map_nil, Bool.and_self, Bool.and_true, Bool.true_and, Bool.not_true, Bool.not_false, Bool.or_false, Bool.false_or, cond_true, cond_false, okPack, okPut, okPutBlks, okPutCells, q_isP, q_isAg, q_isBox, q_isArr, q_int, q_bool, q_str, q_sl, q_nils, e_exit, e_ret, e_nrm, e_ret_exit, e_exit_ret, e_nrm_exit, e_nrm_ret, e_exit_nrm, e_ret_nrm, Nat.zero_add, Nat.reduceAdd, noslR, noslP, noslB, noslA, List.all_cons, List.all_nil]
    have hws2 := checkP_ws hchk
    have hl2 : (b.take j2).length ≤ 200 := checkP_len hchk
    rw [c_EntR (b.take j2) (by omega) hws2]
    simp only [bnd_some, ctl_true, ctl_false, ctl_and, ctl_or', ctl_or2, x_toPV, x_toCs, x_toCs2, x_toEs, x_bEs, x_bCs, x_aPV, x_aCs, x_int, x_bool, x_str, x_es, x_esn, nth_0, nth_1, nth_2, nth_3, nth_4, nth_5, nth_6, nth_7, nth_8, nth_9, y_nil, y_int, y_bool, y_str, y_sl, y_nils, y_agg, y_ownp, y_own, z_nil, z_int, z_bool, z_str, z_sl, z_nils, b_nil, b_arr, b_box1, b_box2, b_box3, b_box4, List.map_cons, List.map_nil, Bool.and_self, Bool.and_true, Bool.true_and, Bool.not_true, Bool.not_false, Bool.or_false, Bool.false_or, cond_true, cond_false, okPack, okPut, okPutBlks, okPutCells, q_isP, q_isAg, q_isBox, q_isArr, q_int, q_bool, q_str, q_sl, q_nils, e_exit, e_ret, e_nrm, e_ret_exit, e_exit_ret, e_nrm_exit, e_nrm_ret, e_exit_nrm, e_ret_nrm, Nat.zero_add, Nat.reduceAdd, noslR, noslP, noslB, noslA, List.all_cons, List.all_nil]
    rw [c_CheckE (b.take j2) s2 hws2, hchk]
    simp only [bnd_some, ctl_true, ctl_false, ctl_and, ctl_or', ctl_or2, x_toPV, x_toCs, x_toCs2, x_toEs, x_bEs, x_bCs, x_aPV, x_aCs, x_int, x_bool, x_str, x_es, x_esn, nth_0, nth_1, nth_2, nth_3, nth_4, nth_5, nth_6, nth_7, nth_8, nth_9, y_nil, y_int, y_bool, y_str, y_sl, y_nils, y_agg, y_ownp, y_own, z_nil, z_int, z_bool, z_str, z_sl, z_nils, b_nil, b_arr, b_box1, b_box2, b_box3, b_box4, List.map_cons, List.map_nil, Bool.and_self, Bool.and_true, Bool.true_and, Bool.not_true, Bool.not_false, Bool.or_false, Bool.false_or, cond_true, cond_false, okPack, okPut, okPutBlks, okPutCells, q_isP, q_isAg, q_isBox, q_isArr, q_int, q_bool, q_str, q_sl, q_nils, e_exit, e_ret, e_nrm, e_ret_exit, e_exit_ret, e_nrm_exit, e_nrm_ret, e_exit_nrm, e_ret_nrm, Nat.zero_add, Nat.reduceAdd, noslR, noslP, noslB, noslA, List.all_cons, List.all_nil]
    rw [c_sane36]
    rfl

end Go.Proofs.YtiijghkfinkphaaGreatDoor.Vm
