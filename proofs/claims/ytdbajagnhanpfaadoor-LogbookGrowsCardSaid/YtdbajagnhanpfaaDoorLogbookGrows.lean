/- The law LogbookGrows. -/
import Derived.Test.YtdbajagnhanpfaaDoorBookH
import Derived.Test.YtdbajagnhanpfaaDoorRawGrows
namespace Go.Proofs.YtdbajagnhanpfaaDoor.Vm
set_option linter.unusedVariables false
set_option linter.unusedSimpArgs false

theorem atL_miss {kind k : Int} {x : Int × Int × Int} (h : ¬ (x.2.1 = kind ∧ x.1 ≤ k)) : ∀ l : List (Int × Int × Int), atL kind k (l ++ [x]) = atL kind k l
  | [] => by
    have : (decide (x.2.1 = kind) && decide (x.1 ≤ k)) = false := by simpa using h
    simp only [List.nil_append, atL, cond_false, this]
  | y :: l => by simp only [List.cons_append, atL, atL_miss h l]
theorem atL_hit {kind k : Int} {x : Int × Int × Int} (h : x.2.1 = kind ∧ x.1 ≤ k) : ∀ l : List (Int × Int × Int), atL kind k (l ++ [x]) = (x.2.2, true)
  | [] => by
    have : (decide (x.2.1 = kind) && decide (x.1 ≤ k)) = true := by simpa using h
    simp only [List.nil_append, atL, cond_false, this, cond_true]
  | y :: l => by simp only [List.cons_append, atL, atL_hit h l, cond_true]

theorem s5_2 (b : List En) (s s' kind : Int) (e : En) (hc : checkP b s = 0) (hc' : checkP (b ++ [e]) s' = 0) (ht : e.t ≤ 1000000) : ∀ (n : Nat) (k : Int), e.t - k = n → 0 ≤ k →
    lp E (denC E) 5 0 [] 2 { vals := [AV.int .i64 kind, AV.int .i64 k], blks := [Blk.box [AV.sl 3 (ensK b), AV.int .u64 s], Blk.box [AV.int .i64 e.t, AV.int .i64 e.k, AV.sl 1 (intsK .i64 e.ws)], Blk.box [AV.sl 3 (ensK (b ++ [e])), AV.int .u64 s']] } =
      some (.exit 2, { vals := [AV.int .i64 kind], blks := [Blk.box [AV.sl 3 (ensK b), AV.int .u64 s], Blk.box [AV.int .i64 e.t, AV.int .i64 e.k, AV.sl 1 (intsK .i64 e.ws)], Blk.box [AV.sl 3 (ensK (b ++ [e])), AV.int .u64 s']] }) := by
  intro n
  induction n with
  | zero =>
    intro k hn hk
    rw [r5_2]
    have h1 : ltB k e.t = false := by simp [ltB]; omega
    rw [h1, ctl_false]
  | succ n ih =>
    intro k hn hk
    rw [r5_2]
    have h1 : ltB k e.t = true := by simp [ltB]; omega
    have hat : atP (b ++ [e]) s' kind k = atP b s kind k := by
      unfold atP
      rw [hc, hc', List.map_append, List.map_cons, List.map_nil, atL_miss (by simp only [trip]; omega)]
    rw [h1, ctl_true, c_AtE b s kind k (checkP_ws hc)]
    simp only [bnd_some, ctl_true, ctl_false, ctl_and, ctl_or', ctl_or2, x_toPV, x_toCs, x_toCs2, x_toEs, x_bEs, x_bCs, x_aPV, x_aCs, x_int, x_bool, x_str, x_es, x_esn, nth_0, nth_1, nth_2, nth_3, nth_4, nth_5, nth_6, nth_7, nth_8, nth_9, y_nil, y_int, y_bool, y_str, y_sl, y_nils, y_agg, y_ownp, y_own, z_nil, z_int, z_bool, z_str, z_sl, z_nils, b_nil, b_arr, b_box1, b_box2, b_box3, b_box4, List.map_cons, List.map_nil, Bool.and_self, Bool.and_true, Bool.true_and, Bool.not_true, Bool.not_false, Bool.or_false, Bool.false_or, cond_true, cond_false, okPack, okPut, okPutBlks, okPutCells, q_isP, q_isAg, q_isBox, q_isArr, q_int, q_bool, q_str, q_sl, q_nils, e_exit, e_ret, e_nrm, e_ret_exit, e_exit_ret, e_nrm_exit, e_nrm_ret, e_exit_nrm, e_ret_nrm, Nat.zero_add, Nat.reduceAdd, noslR, noslP, noslB, noslA, List.all_cons, List.all_nil]
    rw [c_AtE (b ++ [e]) s' kind k (checkP_ws hc'), hat]
    simp only [bne_self_eq_false, beq_self_eq_true, bnd_some, ctl_true, ctl_false, ctl_and, ctl_or', ctl_or2, x_toPV, x_toCs, x_toCs2, x_toEs, x_bEs, x_bCs, x_aPV, x_aCs, x_int, x_bool, x_str, x_es, x_esn, nth_0, nth_1, nth_2, nth_3, nth_4, nth_5, nth_6, nth_7, nth_8, nth_9, y_nil, y_int, y_bool, y_str, y_sl, y_nils, y_agg, y_ownp, y_own, z_nil, z_int, z_bool, z_str, z_sl, z_nils, b_nil, b_arr, b_box1, b_box2, b_box3, b_box4, List.map_cons, List.map_nil, Bool.and_self, Bool.and_true, Bool.true_and, Bool.not_true, Bool.not_false, Bool.or_false, Bool.false_or, cond_true, cond_false, okPack, okPut, okPutBlks, okPutCells, q_isP, q_isAg, q_isBox, q_isArr, q_int, q_bool, q_str, q_sl, q_nils, e_exit, e_ret, e_nrm, e_ret_exit, e_exit_ret, e_nrm_exit, e_nrm_ret, e_exit_nrm, e_ret_nrm, Nat.zero_add, Nat.reduceAdd, noslR, noslP, noslB, noslA, List.all_cons, List.all_nil]
    have h2 : (!(atP b s kind k).2 == (atP b s kind k).2) = false := by simp
    rw [w64 (n := k + 1) (by omega)]
    try simp only [h2, bnd_some, ctl_true, ctl_false, ctl_and, ctl_or', ctl_or2, x_toPV, x_toCs, x_toCs2, x_toEs, x_bEs, x_bCs, x_aPV, x_aCs, x_int, x_bool, x_str, x_es, x_esn, nth_0, nth_1, nth_2, nth_3, nth_4, nth_5, nth_6, nth_7, nth_8, nth_9, y_nil, y_int, y_bool, y_str, y_sl, y_nils, y_agg, y_ownp, y_own, z_nil, z_int, z_bool, z_str, z_sl, z_nils, b_nil, b_arr, b_box1, b_box2, b_box3, b_box4, List.map_cons, List.map_nil, Bool.and_self, Bool.and_true, Bool.true_and, Bool.not_true, Bool.not_false, Bool.or_false, Bool.false_or, cond_true, cond_false, okPack, okPut, okPutBlks, okPutCells, q_isP, q_isAg, q_isBox, q_isArr, q_int, q_bool, q_str, q_sl, q_nils, e_exit, e_ret, e_nrm, e_ret_exit, e_exit_ret, e_nrm_exit, e_nrm_ret, e_exit_nrm, e_ret_nrm, Nat.zero_add, Nat.reduceAdd, noslR, noslP, noslB, noslA, List.all_cons, List.all_nil]
    exact ih (k + 1) (by omega) (by omega)

theorem s5_0 (b : List En) (s s' : Int) (e : En) (hc : checkP b s = 0) (hc' : checkP (b ++ [e]) s' = 0) (ht0 : 0 ≤ e.t) (ht : e.t ≤ 1000000) : ∀ (n : Nat) (kind : Int), 4 - kind = n → 1 ≤ kind →
    lp E (denC E) 5 0 [] 0 { vals := [AV.int .i64 kind], blks := [Blk.box [AV.sl 3 (ensK b), AV.int .u64 s], Blk.box [AV.int .i64 e.t, AV.int .i64 e.k, AV.sl 1 (intsK .i64 e.ws)], Blk.box [AV.sl 3 (ensK (b ++ [e])), AV.int .u64 s']] } =
      some (.exit 0, { vals := [], blks := [Blk.box [AV.int .i64 e.t, AV.int .i64 e.k, AV.sl 1 (intsK .i64 e.ws)], Blk.box [AV.sl 3 (ensK (b ++ [e])), AV.int .u64 s']] }) := by
  intro n
  induction n with
  | zero =>
    intro kind hn hk
    rw [r5_0]
    have h1 : leB kind 3 = false := by simp [leB]; omega
    rw [h1, ctl_false]
  | succ n ih =>
    intro kind hn hk
    rw [r5_0]
    have h1 : leB kind 3 = true := by simp [leB]; omega
    obtain ⟨m, hm⟩ : ∃ m, maxI (IntKind.i64.wrap (e.t - 5)) 0 = m := ⟨_, rfl⟩
    have hmb : 0 ≤ m ∧ m ≤ e.t := by
      rw [← hm, w64 (by omega)]
      unfold maxI
      split <;> omega
    rw [h1, ctl_true, hm, s5_2 b s s' kind e hc hc' ht (e.t - m).toNat m (by omega) hmb.1]
    simp only [bnd_some, ctl_true, ctl_false, ctl_and, ctl_or', ctl_or2, x_toPV, x_toCs, x_toCs2, x_toEs, x_bEs, x_bCs, x_aPV, x_aCs, x_int, x_bool, x_str, x_es, x_esn, nth_0, nth_1, nth_2, nth_3, nth_4, nth_5, nth_6, nth_7, nth_8, nth_9, y_nil, y_int, y_bool, y_str, y_sl, y_nils, y_agg, y_ownp, y_own, z_nil, z_int, z_bool, z_str, z_sl, z_nils, b_nil, b_arr, b_box1, b_box2, b_box3, b_box4, List.map_cons, List.map_nil, Bool.and_self, Bool.and_true, Bool.true_and, Bool.not_true, Bool.not_false, Bool.or_false, Bool.false_or, cond_true, cond_false, okPack, okPut, okPutBlks, okPutCells, q_isP, q_isAg, q_isBox, q_isArr, q_int, q_bool, q_str, q_sl, q_nils, e_exit, e_ret, e_nrm, e_ret_exit, e_exit_ret, e_nrm_exit, e_nrm_ret, e_exit_nrm, e_ret_nrm, Nat.zero_add, Nat.reduceAdd, noslR, noslP, noslB, noslA, List.all_cons, List.all_nil]
    rw [w64 (n := kind + 1) (by omega)]
    exact ih (kind + 1) (by omega) (by omega)

theorem d_LogbookGrows (t : List Int) (_ : t.length ≤ maxLen) (_ : ∀ n ∈ t, -9223372036854775808 ≤ n ∧ n ≤ 9223372036854775807) : denC E 5 [AV.sl 1 (intsK .i64 t)] [] = some ([RV.p (PV.bool true)], []) := by
  rw [denC_eq, r5, intsK_len]
  by_cases ht : 600 < t.length
  · have h1 : ltB 600 (t.length : Int) = true := by simp [ltB]; omega
    rw [h1, ctl_true, c_sane36]
    rfl
  · have h1 : ltB 600 (t.length : Int) = false := by simp [ltB]; omega
    rw [h1, ctl_false, c_New]
    simp only [bnd_some, ctl_true, ctl_false, ctl_and, ctl_or', ctl_or2, x_toPV, x_toCs, x_toCs2, x_toEs, x_bEs, x_bCs, x_aPV, x_aCs, x_int, x_bool, x_str, x_es, x_esn, nth_0, nth_1, nth_2, nth_3, nth_4, nth_5, nth_6, nth_7, nth_8, nth_9, y_nil, y_int, y_bool, y_str, y_sl, y_nils, y_agg, y_ownp, y_own, z_nil, z_int, z_bool, z_str, z_sl, z_nils, b_nil, b_arr, b_box1, b_box2, b_box3, b_box4, List.map_cons, List.map_nil, Bool.and_self, Bool.and_true, Bool.true_and, Bool.not_true, Bool.not_false, Bool.or_false, Bool.false_or, cond_true, cond_false, okPack, okPut, okPutBlks, okPutCells, q_isP, q_isAg, q_isBox, q_isArr, q_int, q_bool, q_str, q_sl, q_nils, e_exit, e_ret, e_nrm, e_ret_exit, e_exit_ret, e_nrm_exit, e_nrm_ret, e_exit_nrm, e_ret_nrm, Nat.zero_add, Nat.reduceAdd, noslR, noslP, noslB, noslA, List.all_cons, List.all_nil]
    rw [src_zero]
    have hL : (t.take 600).length ≤ 600 := by simp; omega
    obtain ⟨b, s, k1, hk1, hc, hbl, hbt, hB⟩ := c_Book (L := t.take 600) (k := 0) hL (by omega) 10 (by omega)
    rw [hB]
    simp only [bnd_some, ctl_true, ctl_false, ctl_and, ctl_or', ctl_or2, x_toPV, x_toCs, x_toCs2, x_toEs, x_bEs, x_bCs, x_aPV, x_aCs, x_int, x_bool, x_str, x_es, x_esn, nth_0, nth_1, nth_2, nth_3, nth_4, nth_5, nth_6, nth_7, nth_8, nth_9, y_nil, y_int, y_bool, y_str, y_sl, y_nils, y_agg, y_ownp, y_own, z_nil, z_int, z_bool, z_str, z_sl, z_nils, b_nil, b_arr, b_box1, b_box2, b_box3, b_box4, List.map_cons, List.map_nil, Bool.and_self, Bool.and_true, Bool.true_and, Bool.not_true, Bool.not_false, Bool.or_false, Bool.false_or, cond_true, cond_false, okPack, okPut, okPutBlks, okPutCells, q_isP, q_isAg, q_isBox, q_isArr, q_int, q_bool, q_str, q_sl, q_nils, e_exit, e_ret, e_nrm, e_ret_exit, e_exit_ret, e_nrm_exit, e_nrm_ret, e_exit_nrm, e_ret_nrm, Nat.zero_add, Nat.reduceAdd, noslR, noslP, noslB, noslA, List.all_cons, List.all_nil]
    have hN := c_N hL hk1 4 (by omega)
    have hNb := vN_bounds (L := t.take 600) (k := k1) (n := 4) (by omega)
    have hk2 := at'_le hL hk1
    generalize vN (t.take 600) k1 4 = x at *
    obtain ⟨hpos, hsort⟩ := runB_sorted (checkP_run hc)
    rcases List.eq_nil_or_concat b with hb0 | ⟨q, z, hbq⟩
    · have h2 : ltB 0 (((ensK b).length : Nat) : Int) = false := by rw [hb0]; rfl
      have hlast : ∀ a ∈ b, a.t ≤ 0 := by rw [hb0]; exact fun a ha => (List.not_mem_nil ha).elim
      have hw0 : IntKind.i64.wrap (0 + x) = 0 + x := w64 (by omega)
      rw [h2, ctl_false, hN]
      simp only [bnd_some, ctl_true, ctl_false, ctl_and, ctl_or', ctl_or2, x_toPV, x_toCs, x_toCs2, x_toEs, x_bEs, x_bCs, x_aPV, x_aCs, x_int, x_bool, x_str, x_es, x_esn, nth_0, nth_1, nth_2, nth_3, nth_4, nth_5, nth_6, nth_7, nth_8, nth_9, y_nil, y_int, y_bool, y_str, y_sl, y_nils, y_agg, y_ownp, y_own, z_nil, z_int, z_bool, z_str, z_sl, z_nils, b_nil, b_arr, b_box1, b_box2, b_box3, b_box4, List.map_cons, List.map_nil, Bool.and_self, Bool.and_true, Bool.true_and, Bool.not_true, Bool.not_false, Bool.or_false, Bool.false_or, cond_true, cond_false, okPack, okPut, okPutBlks, okPutCells, q_isP, q_isAg, q_isBox, q_isArr, q_int, q_bool, q_str, q_sl, q_nils, e_exit, e_ret, e_nrm, e_ret_exit, e_exit_ret, e_nrm_exit, e_nrm_ret, e_exit_nrm, e_ret_nrm, Nat.zero_add, Nat.reduceAdd, noslR, noslP, noslB, noslA, List.all_cons, List.all_nil]
      rw [hw0]
      obtain ⟨last, hlast0⟩ : ∃ last : Int, (0 : Int) = last := ⟨0, rfl⟩
      have hlb : 0 ≤ last ∧ last ≤ 60 := by omega
      rw [hlast0] at hlast
      obtain ⟨e, k3, hk3, het, hoe, hE⟩ := c_Entry hL hk2 (0 + x)
      rw [hlast0] at het
      rw [hE]
      clear hlast0
      have hv : validP e.t e.k e.ws = true := okE_valid hoe (by omega)
      have hla : lateP b e.t = true := lateP_of fun a ha => by have := hlast a ha; omega
      have hc' := checkP_snoc hc hv hla (by omega)
      have hA := c_AppendE b s e (checkP_ws hc) (by have := okE_len hoe; omega)
      rw [appR_ok hc hv hla (by omega)] at hA
      generalize sumB s (lineP e.t e.k e.ws) = s' at *
      have hlp := s5_0 b s s' e hc hc' (by omega) (by omega) 3 1 (by decide) (by decide)
      have e9 : enK e = [PV.int .i64 e.t, PV.int .i64 e.k, PV.sl 1 (intsK .i64 e.ws)] := rfl
      rw [e9] at hA ⊢
      simp only [bnd_some, ctl_true, ctl_false, ctl_and, ctl_or', ctl_or2, x_toPV, x_toCs, x_toCs2, x_toEs, x_bEs, x_bCs, x_aPV, x_aCs, x_int, x_bool, x_str, x_es, x_esn, nth_0, nth_1, nth_2, nth_3, nth_4, nth_5, nth_6, nth_7, nth_8, nth_9, y_nil, y_int, y_bool, y_str, y_sl, y_nils, y_agg, y_ownp, y_own, z_nil, z_int, z_bool, z_str, z_sl, z_nils, b_nil, b_arr, b_box1, b_box2, b_box3, b_box4, List.map_cons, List.map_nil, Bool.and_self, Bool.and_true, Bool.true_and, Bool.not_true, Bool.not_false, Bool.or_false, Bool.false_or, cond_true, cond_false, okPack, okPut, okPutBlks, okPutCells, q_isP, q_isAg, q_isBox, q_isArr, q_int, q_bool, q_str, q_sl, q_nils, e_exit, e_ret, e_nrm, e_ret_exit, e_exit_ret, e_nrm_exit, e_nrm_ret, e_exit_nrm, e_ret_nrm, Nat.zero_add, Nat.reduceAdd, noslR, noslP, noslB, noslA, List.all_cons, List.all_nil]
      rw [hA]
      simp only [bnd_some, ctl_true, ctl_false, ctl_and, ctl_or', ctl_or2, x_toPV, x_toCs, x_toCs2, x_toEs, x_bEs, x_bCs, x_aPV, x_aCs, x_int, x_bool, x_str, x_es, x_esn, nth_0, nth_1, nth_2, nth_3, nth_4, nth_5, nth_6, nth_7, nth_8, nth_9, y_nil, y_int, y_bool, y_str, y_sl, y_nils, y_agg, y_ownp, y_own, z_nil, z_int, z_bool, z_str, z_sl, z_nils, b_nil, b_arr, b_box1, b_box2, b_box3, b_box4, List.map_cons, List.map_nil, Bool.and_self, Bool.and_true, Bool.true_and, Bool.not_true, Bool.not_false, Bool.or_false, Bool.false_or, cond_true, cond_false, okPack, okPut, okPutBlks, okPutCells, q_isP, q_isAg, q_isBox, q_isArr, q_int, q_bool, q_str, q_sl, q_nils, e_exit, e_ret, e_nrm, e_ret_exit, e_exit_ret, e_nrm_exit, e_nrm_ret, e_exit_nrm, e_ret_nrm, Nat.zero_add, Nat.reduceAdd, noslR, noslP, noslB, noslA, List.all_cons, List.all_nil]
      have h5 : (((ensK (b ++ [e])).length : Int) != IntKind.i64.wrap (((ensK b).length : Int) + 1)) = false := by
        rw [ensK_len, ensK_len, w64 (by omega)]; simp
      rw [h5]
      simp only [bne_self_eq_false, bnd_some, ctl_true, ctl_false, ctl_and, ctl_or', ctl_or2, x_toPV, x_toCs, x_toCs2, x_toEs, x_bEs, x_bCs, x_aPV, x_aCs, x_int, x_bool, x_str, x_es, x_esn, nth_0, nth_1, nth_2, nth_3, nth_4, nth_5, nth_6, nth_7, nth_8, nth_9, y_nil, y_int, y_bool, y_str, y_sl, y_nils, y_agg, y_ownp, y_own, z_nil, z_int, z_bool, z_str, z_sl, z_nils, b_nil, b_arr, b_box1, b_box2, b_box3, b_box4, List.map_cons, List.map_nil, Bool.and_self, Bool.and_true, Bool.true_and, Bool.not_true, Bool.not_false, Bool.or_false, Bool.false_or, cond_true, cond_false, okPack, okPut, okPutBlks, okPutCells, q_isP, q_isAg, q_isBox, q_isArr, q_int, q_bool, q_str, q_sl, q_nils, e_exit, e_ret, e_nrm, e_ret_exit, e_exit_ret, e_nrm_exit, e_nrm_ret, e_exit_nrm, e_ret_nrm, Nat.zero_add, Nat.reduceAdd, noslR, noslP, noslB, noslA, List.all_cons, List.all_nil]
      rw [c_CheckE (b ++ [e]) s' (checkP_ws hc'), hc']
      simp only [bne_self_eq_false, bnd_some, ctl_true, ctl_false, ctl_and, ctl_or', ctl_or2, x_toPV, x_toCs, x_toCs2, x_toEs, x_bEs, x_bCs, x_aPV, x_aCs, x_int, x_bool, x_str, x_es, x_esn, nth_0, nth_1, nth_2, nth_3, nth_4, nth_5, nth_6, nth_7, nth_8, nth_9, y_nil, y_int, y_bool, y_str, y_sl, y_nils, y_agg, y_ownp, y_own, z_nil, z_int, z_bool, z_str, z_sl, z_nils, b_nil, b_arr, b_box1, b_box2, b_box3, b_box4, List.map_cons, List.map_nil, Bool.and_self, Bool.and_true, Bool.true_and, Bool.not_true, Bool.not_false, Bool.or_false, Bool.false_or, cond_true, cond_false, okPack, okPut, okPutBlks, okPutCells, q_isP, q_isAg, q_isBox, q_isArr, q_int, q_bool, q_str, q_sl, q_nils, e_exit, e_ret, e_nrm, e_ret_exit, e_exit_ret, e_nrm_exit, e_nrm_ret, e_exit_nrm, e_ret_nrm, Nat.zero_add, Nat.reduceAdd, noslR, noslP, noslB, noslA, List.all_cons, List.all_nil]
      rw [hlp]
      simp only [bnd_some, ctl_true, ctl_false, ctl_and, ctl_or', ctl_or2, x_toPV, x_toCs, x_toCs2, x_toEs, x_bEs, x_bCs, x_aPV, x_aCs, x_int, x_bool, x_str, x_es, x_esn, nth_0, nth_1, nth_2, nth_3, nth_4, nth_5, nth_6, nth_7, nth_8, nth_9, y_nil, y_int, y_bool, y_str, y_sl, y_nils, y_agg, y_ownp, y_own, z_nil, z_int, z_bool, z_str, z_sl, z_nils, b_nil, b_arr, b_box1, b_box2, b_box3, b_box4, List.map_cons, List.map_nil, Bool.and_self, Bool.and_true, Bool.true_and, Bool.not_true, Bool.not_false, Bool.or_false, Bool.false_or, cond_true, cond_false, okPack, okPut, okPutBlks, okPutCells, q_isP, q_isAg, q_isBox, q_isArr, q_int, q_bool, q_str, q_sl, q_nils, e_exit, e_ret, e_nrm, e_ret_exit, e_exit_ret, e_nrm_exit, e_nrm_ret, e_exit_nrm, e_ret_nrm, Nat.zero_add, Nat.reduceAdd, noslR, noslP, noslB, noslA, List.all_cons, List.all_nil]
      by_cases hk3' : e.k ≤ 3
      · have h6 : leB e.k 3 = true := by simpa [leB] using hk3'
        rw [h6, ctl_true, c_AtE (b ++ [e]) s' e.k e.t (checkP_ws hc')]
        simp only [bnd_some, ctl_true, ctl_false, ctl_and, ctl_or', ctl_or2, x_toPV, x_toCs, x_toCs2, x_toEs, x_bEs, x_bCs, x_aPV, x_aCs, x_int, x_bool, x_str, x_es, x_esn, nth_0, nth_1, nth_2, nth_3, nth_4, nth_5, nth_6, nth_7, nth_8, nth_9, y_nil, y_int, y_bool, y_str, y_sl, y_nils, y_agg, y_ownp, y_own, z_nil, z_int, z_bool, z_str, z_sl, z_nils, b_nil, b_arr, b_box1, b_box2, b_box3, b_box4, List.map_cons, List.map_nil, Bool.and_self, Bool.and_true, Bool.true_and, Bool.not_true, Bool.not_false, Bool.or_false, Bool.false_or, cond_true, cond_false, okPack, okPut, okPutBlks, okPutCells, q_isP, q_isAg, q_isBox, q_isArr, q_int, q_bool, q_str, q_sl, q_nils, e_exit, e_ret, e_nrm, e_ret_exit, e_exit_ret, e_nrm_exit, e_nrm_ret, e_exit_nrm, e_ret_nrm, Nat.zero_add, Nat.reduceAdd, noslR, noslP, noslB, noslA, List.all_cons, List.all_nil]
        have hw1 : wordsP e.k = 1 := by
          have := hoe.1
          have : e.k = 1 ∨ e.k = 2 ∨ e.k = 3 := by omega
          rcases this with h | h | h <;> rw [h] <;> rfl
        have hat : atP (b ++ [e]) s' e.k e.t = (e.ws.headD 0, true) := by
          unfold atP
          rw [hc', hw1, List.map_append, List.map_cons, List.map_nil, atL_hit (by simp [trip])]
          rfl
        rw [hat]
        have hlen1 := hoe.2.1
        rw [hw1] at hlen1
        cases hws : e.ws with
        | nil => rw [hws] at hlen1; simp at hlen1
        | cons w r =>
          simp only [bnd_some, ctl_true, ctl_false, ctl_and, ctl_or', ctl_or2, x_toPV, x_toCs, x_toCs2, x_toEs, x_bEs, x_bCs, x_aPV, x_aCs, x_int, x_bool, x_str, x_es, x_esn, nth_0, nth_1, nth_2, nth_3, nth_4, nth_5, nth_6, nth_7, nth_8, nth_9, y_nil, y_int, y_bool, y_str, y_sl, y_nils, y_agg, y_ownp, y_own, z_nil, z_int, z_bool, z_str, z_sl, z_nils, b_nil, b_arr, b_box1, b_box2, b_box3, b_box4, List.map_cons, List.map_nil, Bool.and_self, Bool.and_true, Bool.true_and, Bool.not_true, Bool.not_false, Bool.or_false, Bool.false_or, cond_true, cond_false, okPack, okPut, okPutBlks, okPutCells, q_isP, q_isAg, q_isBox, q_isArr, q_int, q_bool, q_str, q_sl, q_nils, e_exit, e_ret, e_nrm, e_ret_exit, e_exit_ret, e_nrm_exit, e_nrm_ret, e_exit_nrm, e_ret_nrm, Nat.zero_add, Nat.reduceAdd, noslR, noslP, noslB, noslA, List.all_cons, List.all_nil]
          rw [getE_ints (by simp <;> omega)]
          simp only [Int.toNat_zero, List.getD_cons_zero, List.headD_cons, beq_self_eq_true, bnd_some, ctl_true, ctl_false, ctl_and, ctl_or', ctl_or2, x_toPV, x_toCs, x_toCs2, x_toEs, x_bEs, x_bCs, x_aPV, x_aCs, x_int, x_bool, x_str, x_es, x_esn, nth_0, nth_1, nth_2, nth_3, nth_4, nth_5, nth_6, nth_7, nth_8, nth_9, y_nil, y_int, y_bool, y_str, y_sl, y_nils, y_agg, y_ownp, y_own, z_nil, z_int, z_bool, z_str, z_sl, z_nils, b_nil, b_arr, b_box1, b_box2, b_box3, b_box4, List.map_cons, List.map_nil, Bool.and_self, Bool.and_true, Bool.true_and, Bool.not_true, Bool.not_false, Bool.or_false, Bool.false_or, cond_true, cond_false, okPack, okPut, okPutBlks, okPutCells, q_isP, q_isAg, q_isBox, q_isArr, q_int, q_bool, q_str, q_sl, q_nils, e_exit, e_ret, e_nrm, e_ret_exit, e_exit_ret, e_nrm_exit, e_nrm_ret, e_exit_nrm, e_ret_nrm, Nat.zero_add, Nat.reduceAdd, noslR, noslP, noslB, noslA, List.all_cons, List.all_nil]
          rw [c_sane36]
          rfl
      · have h6 : leB e.k 3 = false := by simpa [leB] using hk3'
        rw [h6, ctl_false, c_sane36]
        rfl
    · have h2 : ltB 0 (((ensK b).length : Nat) : Int) = true := by rw [ensK_len, hbq]; simp [ltB] <;> omega
      have hzt : z.t ≤ 60 := hbt z (by rw [hbq]; simp)
      have hz0 : 0 ≤ z.t := hpos z (by rw [hbq]; simp)
      have hlast : ∀ a ∈ b, a.t ≤ z.t := fun a ha => by
        rw [hbq, List.concat_eq_append] at ha hsort
        rcases List.mem_append.1 ha with ha | ha
        · exact (List.pairwise_append.1 hsort).2.2 a ha z (by simp)
        · simp at ha; subst ha; exact Int.le_refl _
      have hix : IntKind.i64.wrap (((ensK b).length : Int) - 1) = (q.length : Int) := by
        rw [ensK_len, w64 (by omega), hbq]; simp
      have hgz : ∀ K : List PV → Option Res, getE (ensK b) (q.length : Int) K = K (enK z) := fun K => by
        rw [getE_ens (by rw [hbq]; simp; omega)]
        have : b.getD (q.length : Int).toNat default = z := by rw [Int.toNat_natCast, hbq, List.concat_eq_append]; exact getD_mid q z [] default
        rw [this]
      have e2 : okCs [Sh.int IntKind.i64, Sh.int IntKind.i64, Sh.sl 1] (enK z) = true := rfl
      have e3 : (nth PV.nilp (enK z) 0).toInt = z.t := rfl
      have hw0 : IntKind.i64.wrap (z.t + x) = z.t + x := w64 (by omega)
      rw [h2, ctl_true, hix, hgz, e2, ctl_true, e3, hN]
      simp only [bnd_some, ctl_true, ctl_false, ctl_and, ctl_or', ctl_or2, x_toPV, x_toCs, x_toCs2, x_toEs, x_bEs, x_bCs, x_aPV, x_aCs, x_int, x_bool, x_str, x_es, x_esn, nth_0, nth_1, nth_2, nth_3, nth_4, nth_5, nth_6, nth_7, nth_8, nth_9, y_nil, y_int, y_bool, y_str, y_sl, y_nils, y_agg, y_ownp, y_own, z_nil, z_int, z_bool, z_str, z_sl, z_nils, b_nil, b_arr, b_box1, b_box2, b_box3, b_box4, List.map_cons, List.map_nil, Bool.and_self, Bool.and_true, Bool.true_and, Bool.not_true, Bool.not_false, Bool.or_false, Bool.false_or, cond_true, cond_false, okPack, okPut, okPutBlks, okPutCells, q_isP, q_isAg, q_isBox, q_isArr, q_int, q_bool, q_str, q_sl, q_nils, e_exit, e_ret, e_nrm, e_ret_exit, e_exit_ret, e_nrm_exit, e_nrm_ret, e_exit_nrm, e_ret_nrm, Nat.zero_add, Nat.reduceAdd, noslR, noslP, noslB, noslA, List.all_cons, List.all_nil]
      rw [hw0]
      obtain ⟨last, hlast0⟩ : ∃ last : Int, z.t = last := ⟨_, rfl⟩
      have hlb : 0 ≤ last ∧ last ≤ 60 := by omega
      rw [hlast0] at hlast
      obtain ⟨e, k3, hk3, het, hoe, hE⟩ := c_Entry hL hk2 (z.t + x)
      rw [hlast0] at het
      rw [hE]
      clear hlast0
      have hv : validP e.t e.k e.ws = true := okE_valid hoe (by omega)
      have hla : lateP b e.t = true := lateP_of fun a ha => by have := hlast a ha; omega
      have hc' := checkP_snoc hc hv hla (by omega)
      have hA := c_AppendE b s e (checkP_ws hc) (by have := okE_len hoe; omega)
      rw [appR_ok hc hv hla (by omega)] at hA
      generalize sumB s (lineP e.t e.k e.ws) = s' at *
      have hlp := s5_0 b s s' e hc hc' (by omega) (by omega) 3 1 (by decide) (by decide)
      have e9 : enK e = [PV.int .i64 e.t, PV.int .i64 e.k, PV.sl 1 (intsK .i64 e.ws)] := rfl
      rw [e9] at hA ⊢
      simp only [bnd_some, ctl_true, ctl_false, ctl_and, ctl_or', ctl_or2, x_toPV, x_toCs, x_toCs2, x_toEs, x_bEs, x_bCs, x_aPV, x_aCs, x_int, x_bool, x_str, x_es, x_esn, nth_0, nth_1, nth_2, nth_3, nth_4, nth_5, nth_6, nth_7, nth_8, nth_9, y_nil, y_int, y_bool, y_str, y_sl, y_nils, y_agg, y_ownp, y_own, z_nil, z_int, z_bool, z_str, z_sl, z_nils, b_nil, b_arr, b_box1, b_box2, b_box3, b_box4, List.map_cons, List.map_nil, Bool.and_self, Bool.and_true, Bool.true_and, Bool.not_true, Bool.not_false, Bool.or_false, Bool.false_or, cond_true, cond_false, okPack, okPut, okPutBlks, okPutCells, q_isP, q_isAg, q_isBox, q_isArr, q_int, q_bool, q_str, q_sl, q_nils, e_exit, e_ret, e_nrm, e_ret_exit, e_exit_ret, e_nrm_exit, e_nrm_ret, e_exit_nrm, e_ret_nrm, Nat.zero_add, Nat.reduceAdd, noslR, noslP, noslB, noslA, List.all_cons, List.all_nil]
      rw [hA]
      simp only [bnd_some, ctl_true, ctl_false, ctl_and, ctl_or', ctl_or2, x_toPV, x_toCs, x_toCs2, x_toEs, x_bEs, x_bCs, x_aPV, x_aCs, x_int, x_bool, x_str, x_es, x_esn, nth_0, nth_1, nth_2, nth_3, nth_4, nth_5, nth_6, nth_7, nth_8, nth_9, y_nil, y_int, y_bool, y_str, y_sl, y_nils, y_agg, y_ownp, y_own, z_nil, z_int, z_bool, z_str, z_sl, z_nils, b_nil, b_arr, b_box1, b_box2, b_box3, b_box4, List.map_cons, List.map_nil, Bool.and_self, Bool.and_true, Bool.true_and, Bool.not_true, Bool.not_false, Bool.or_false, Bool.false_or, cond_true, cond_false, okPack, okPut, okPutBlks, okPutCells, q_isP, q_isAg, q_isBox, q_isArr, q_int, q_bool, q_str, q_sl, q_nils, e_exit, e_ret, e_nrm, e_ret_exit, e_exit_ret, e_nrm_exit, e_nrm_ret, e_exit_nrm, e_ret_nrm, Nat.zero_add, Nat.reduceAdd, noslR, noslP, noslB, noslA, List.all_cons, List.all_nil]
      have h5 : (((ensK (b ++ [e])).length : Int) != IntKind.i64.wrap (((ensK b).length : Int) + 1)) = false := by
        rw [ensK_len, ensK_len, w64 (by omega)]; simp
      rw [h5]
      simp only [bne_self_eq_false, bnd_some, ctl_true, ctl_false, ctl_and, ctl_or', ctl_or2, x_toPV, x_toCs, x_toCs2, x_toEs, x_bEs, x_bCs, x_aPV, x_aCs, x_int, x_bool, x_str, x_es, x_esn, nth_0, nth_1, nth_2, nth_3, nth_4, nth_5, nth_6, nth_7, nth_8, nth_9, y_nil, y_int, y_bool, y_str, y_sl, y_nils, y_agg, y_ownp, y_own, z_nil, z_int, z_bool, z_str, z_sl, z_nils, b_nil, b_arr, b_box1, b_box2, b_box3, b_box4, List.map_cons, List.map_nil, Bool.and_self, Bool.and_true, Bool.true_and, Bool.not_true, Bool.not_false, Bool.or_false, Bool.false_or, cond_true, cond_false, okPack, okPut, okPutBlks, okPutCells, q_isP, q_isAg, q_isBox, q_isArr, q_int, q_bool, q_str, q_sl, q_nils, e_exit, e_ret, e_nrm, e_ret_exit, e_exit_ret, e_nrm_exit, e_nrm_ret, e_exit_nrm, e_ret_nrm, Nat.zero_add, Nat.reduceAdd, noslR, noslP, noslB, noslA, List.all_cons, List.all_nil]
      rw [c_CheckE (b ++ [e]) s' (checkP_ws hc'), hc']
      simp only [bne_self_eq_false, bnd_some, ctl_true, ctl_false, ctl_and, ctl_or', ctl_or2, x_toPV, x_toCs, x_toCs2, x_toEs, x_bEs, x_bCs, x_aPV, x_aCs, x_int, x_bool, x_str, x_es, x_esn, nth_0, nth_1, nth_2, nth_3, nth_4, nth_5, nth_6, nth_7, nth_8, nth_9, y_nil, y_int, y_bool, y_str, y_sl, y_nils, y_agg, y_ownp, y_own, z_nil, z_int, z_bool, z_str, z_sl, z_nils, b_nil, b_arr, b_box1, b_box2, b_box3, b_box4, List.map_cons, List.map_nil, Bool.and_self, Bool.and_true, Bool.true_and, Bool.not_true, Bool.not_false, Bool.or_false, Bool.false_or, cond_true, cond_false, okPack, okPut, okPutBlks, okPutCells, q_isP, q_isAg, q_isBox, q_isArr, q_int, q_bool, q_str, q_sl, q_nils, e_exit, e_ret, e_nrm, e_ret_exit, e_exit_ret, e_nrm_exit, e_nrm_ret, e_exit_nrm, e_ret_nrm, Nat.zero_add, Nat.reduceAdd, noslR, noslP, noslB, noslA, List.all_cons, List.all_nil]
      rw [hlp]
      simp only [bnd_some, ctl_true, ctl_false, ctl_and, ctl_or', ctl_or2, x_toPV, x_toCs, x_toCs2, x_toEs, x_bEs, x_bCs, x_aPV, x_aCs, x_int, x_bool, x_str, x_es, x_esn, nth_0, nth_1, nth_2, nth_3, nth_4, nth_5, nth_6, nth_7, nth_8, nth_9, y_nil, y_int, y_bool, y_str, y_sl, y_nils, y_agg, y_ownp, y_own, z_nil, z_int, z_bool, z_str, z_sl, z_nils, b_nil, b_arr, b_box1, b_box2, b_box3, b_box4, List.map_cons, List.map_nil, Bool.and_self, Bool.and_true, Bool.true_and, Bool.not_true, Bool.not_false, Bool.or_false, Bool.false_or, cond_true, cond_false, okPack, okPut, okPutBlks, okPutCells, q_isP, q_isAg, q_isBox, q_isArr, q_int, q_bool, q_str, q_sl, q_nils, e_exit, e_ret, e_nrm, e_ret_exit, e_exit_ret, e_nrm_exit, e_nrm_ret, e_exit_nrm, e_ret_nrm, Nat.zero_add, Nat.reduceAdd, noslR, noslP, noslB, noslA, List.all_cons, List.all_nil]
      by_cases hk3' : e.k ≤ 3
      · have h6 : leB e.k 3 = true := by simpa [leB] using hk3'
        rw [h6, ctl_true, c_AtE (b ++ [e]) s' e.k e.t (checkP_ws hc')]
        simp only [bnd_some, ctl_true, ctl_false, ctl_and, ctl_or', ctl_or2, x_toPV, x_toCs, x_toCs2, x_toEs, x_bEs, x_bCs, x_aPV, x_aCs, x_int, x_bool, x_str, x_es, x_esn, nth_0, nth_1, nth_2, nth_3, nth_4, nth_5, nth_6, nth_7, nth_8, nth_9, y_nil, y_int, y_bool, y_str, y_sl, y_nils, y_agg, y_ownp, y_own, z_nil, z_int, z_bool, z_str, z_sl, z_nils, b_nil, b_arr, b_box1, b_box2, b_box3, b_box4, List.map_cons, List.map_nil, Bool.and_self, Bool.and_true, Bool.true_and, Bool.not_true, Bool.not_false, Bool.or_false, Bool.false_or, cond_true, cond_false, okPack, okPut, okPutBlks, okPutCells, q_isP, q_isAg, q_isBox, q_isArr, q_int, q_bool, q_str, q_sl, q_nils, e_exit, e_ret, e_nrm, e_ret_exit, e_exit_ret, e_nrm_exit, e_nrm_ret, e_exit_nrm, e_ret_nrm, Nat.zero_add, Nat.reduceAdd, noslR, noslP, noslB, noslA, List.all_cons, List.all_nil]
        have hw1 : wordsP e.k = 1 := by
          have := hoe.1
          have : e.k = 1 ∨ e.k = 2 ∨ e.k = 3 := by omega
          rcases this with h | h | h <;> rw [h] <;> rfl
        have hat : atP (b ++ [e]) s' e.k e.t = (e.ws.headD 0, true) := by
          unfold atP
          rw [hc', hw1, List.map_append, List.map_cons, List.map_nil, atL_hit (by simp [trip])]
          rfl
        rw [hat]
        have hlen1 := hoe.2.1
        rw [hw1] at hlen1
        cases hws : e.ws with
        | nil => rw [hws] at hlen1; simp at hlen1
        | cons w r =>
          simp only [bnd_some, ctl_true, ctl_false, ctl_and, ctl_or', ctl_or2, x_toPV, x_toCs, x_toCs2, x_toEs, x_bEs, x_bCs, x_aPV, x_aCs, x_int, x_bool, x_str, x_es, x_esn, nth_0, nth_1, nth_2, nth_3, nth_4, nth_5, nth_6, nth_7, nth_8, nth_9, y_nil, y_int, y_bool, y_str, y_sl, y_nils, y_agg, y_ownp, y_own, z_nil, z_int, z_bool, z_str, z_sl, z_nils, b_nil, b_arr, b_box1, b_box2, b_box3, b_box4, List.map_cons, List.map_nil, Bool.and_self, Bool.and_true, Bool.true_and, Bool.not_true, Bool.not_false, Bool.or_false, Bool.false_or, cond_true, cond_false, okPack, okPut, okPutBlks, okPutCells, q_isP, q_isAg, q_isBox, q_isArr, q_int, q_bool, q_str, q_sl, q_nils, e_exit, e_ret, e_nrm, e_ret_exit, e_exit_ret, e_nrm_exit, e_nrm_ret, e_exit_nrm, e_ret_nrm, Nat.zero_add, Nat.reduceAdd, noslR, noslP, noslB, noslA, List.all_cons, List.all_nil]
          rw [getE_ints (by simp <;> omega)]
          simp only [Int.toNat_zero, List.getD_cons_zero, List.headD_cons, beq_self_eq_true, bnd_some, ctl_true, ctl_false, ctl_and, ctl_or', ctl_or2, x_toPV, x_toCs, x_toCs2, x_toEs, x_bEs, x_bCs, x_aPV, x_aCs, x_int, x_bool, x_str, x_es, x_esn, nth_0, nth_1, nth_2, nth_3, nth_4, nth_5, nth_6, nth_7, nth_8, nth_9, y_nil, y_int, y_bool, y_str, y_sl, y_nils, y_agg, y_ownp, y_own, z_nil, z_int, z_bool, z_str, z_sl, z_nils, b_nil, b_arr, b_box1, b_box2, b_box3, b_box4, List.map_cons, List.map_nil, Bool.and_self, Bool.and_true, Bool.true_and, Bool.not_true, Bool.not_false, Bool.or_false, Bool.false_or, cond_true, cond_false, okPack, okPut, okPutBlks, okPutCells, q_isP, q_isAg, q_isBox, q_isArr, q_int, q_bool, q_str, q_sl, q_nils, e_exit, e_ret, e_nrm, e_ret_exit, e_exit_ret, e_nrm_exit, e_nrm_ret, e_exit_nrm, e_ret_nrm, Nat.zero_add, Nat.reduceAdd, noslR, noslP, noslB, noslA, List.all_cons, List.all_nil]
          rw [c_sane36]
          rfl
      · have h6 : leB e.k 3 = false := by simpa [leB] using hk3'
        rw [h6, ctl_false, c_sane36]
        rfl

end Go.Proofs.YtdbajagnhanpfaaDoor.Vm
