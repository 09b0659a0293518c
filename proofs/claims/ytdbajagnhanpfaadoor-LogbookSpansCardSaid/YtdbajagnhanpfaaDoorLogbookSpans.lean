/- The law LogbookSpans. -/
import Derived.Test.YtdbajagnhanpfaaDoorBookH
import Derived.Test.YtdbajagnhanpfaaDoorRawSpans
namespace Go.Proofs.YtdbajagnhanpfaaDoor.Vm
set_option linter.unusedVariables false
set_option linter.unusedSimpArgs false

theorem s4_2 (b : List En) (bs kind to : Int) (l12 x58 : List (List PV)) (x59 x60 f e v : Int) (hc : checkP b bs = 0) (hk : (wordsP kind == 1) = true) (he : e ≤ 1000000) (hf : -1000000 ≤ f) :
    ∀ (n : Nat) (k : Int), e - k = n → f ≤ k → (∀ j, k ≤ j → j < e → aF b kind j = v) →
    lp E (denC E) 4 0 [] 2 { vals := [AV.int .i64 kind, AV.int .i64 to, AV.sl 3 l12, AV.int .i64 k, AV.sl 3 x58, AV.int .i64 x59, AV.int .i64 x60], blks := [Blk.box [AV.sl 3 (ensK b), AV.int .u64 bs], Blk.box [AV.int .i64 f, AV.int .i64 e, AV.int .i64 v]] } =
      some (.exit 2, { vals := [AV.int .i64 kind, AV.int .i64 to, AV.sl 3 l12, AV.sl 3 x58, AV.int .i64 x59, AV.int .i64 x60], blks := [Blk.box [AV.sl 3 (ensK b), AV.int .u64 bs], Blk.box [AV.int .i64 f, AV.int .i64 e, AV.int .i64 v]] }) := by
  intro n
  induction n with
  | zero =>
    intro k hn hfk hA
    rw [r4_2]
    have h1 : ltB k e = false := by simp [ltB]; omega
    rw [h1, ctl_false]
  | succ n ih =>
    intro k hn hfk hA
    rw [r4_2]
    have h1 : ltB k e = true := by simp [ltB]; omega
    rw [h1, ctl_true, c_AtE b bs kind k (checkP_ws hc)]
    simp only [bnd_some, ctl_true, ctl_false, ctl_and, ctl_or', ctl_or2, x_toPV, x_toCs, x_toCs2, x_toEs, x_bEs, x_bCs, x_aPV, x_aCs, x_int, x_bool, x_str, x_es, x_esn, nth_0, nth_1, nth_2, nth_3, nth_4, nth_5, nth_6, nth_7, nth_8, nth_9, y_nil, y_int, y_bool, y_str, y_sl, y_nils, y_agg, y_ownp, y_own, z_nil, z_int, z_bool, z_str, z_sl, z_nils, b_nil, b_arr, b_box1, b_box2, b_box3, b_box4, List.map_cons, List.map_nil, Bool.and_self, Bool.and_true, Bool.true_and, Bool.not_true, Bool.not_false, Bool.or_false, Bool.false_or, cond_true, cond_false, okPack, okPut, okPutBlks, okPutCells, q_isP, q_isAg, q_isBox, q_isArr, q_int, q_bool, q_str, q_sl, q_nils, e_exit, e_ret, e_nrm, e_ret_exit, e_exit_ret, e_nrm_exit, e_nrm_ret, e_exit_nrm, e_ret_nrm, Nat.zero_add, Nat.reduceAdd, noslR, noslP, noslB, noslA, List.all_cons, List.all_nil]
    have h2 : (atP b bs kind k).1 = v := by
      have h3 : (wordsP kind == 1 && checkP b bs == 0) = true := by rw [hk, hc]; rfl
      unfold atP
      rw [h3, cond_true]
      exact hA k (Int.le_refl _) (by omega)
    rw [h2]
    have h3 : (v != v) = false := by simp
    rw [h3, ctl_false, w64 (n := k + 1) (by omega)]
    exact ih (k + 1) (by omega) (by omega) (fun j h4 h5 => hA j (by omega) h5)

theorem s4_0 (b : List En) (bs kind frm to : Int) (hc : checkP b bs = 0) (hk : (wordsP kind == 1) = true) (hr : 0 ≤ frm ∧ to ≤ 100000) (M : List Sp) (hM : M.length ≤ 1000000) : ∀ (l done : List Sp) (s : Int), done ++ l = M → frm ≤ s → gl (aF b kind) s to l → (∀ z, done.getLast? = some z → ∀ y, l.head? = some y → y.2.2 ≠ z.2.2) →
    lp E (denC E) 4 0 [] 0 { vals := [AV.int .i64 kind, AV.int .i64 to, AV.sl 3 (spanK M), AV.int .i64 s, AV.sl 3 (spanK M), AV.int .i64 M.length, AV.int .i64 done.length], blks := [Blk.box [AV.sl 3 (ensK b), AV.int .u64 bs]] } =
      some (.exit 0, { vals := [AV.int .i64 to, AV.int .i64 to], blks := [] }) := by
  intro l
  induction l with
  | nil =>
    intro done s hd hs hg hz
    rw [r4_0]
    have h1 : ltB (done.length : Int) (M.length : Int) = false := by rw [← hd]; simp [ltB]
    unfold gl at hg
    rw [h1, ctl_false, hg]
  | cons x l ih =>
    intro done s hd hs hg hz
    rw [r4_0]
    obtain ⟨g1, g2, g3, g4, g5⟩ := hg
    have hle := gl_le g5
    have hl : 0 ≤ (done.length : Int) ∧ (done.length : Int) < (M.length : Int) := by rw [← hd]; exact mid_lt done x l
    have h1 : ltB (done.length : Int) (M.length : Int) = true := by simp [ltB]; omega
    have hgx : ∀ K : List PV → Option (Ex × Pack), getE (spanK M) (done.length : Int) K = K [PV.int .i64 x.1, PV.int .i64 x.2.1, PV.int .i64 x.2.2] := fun K => by
      unfold getE
      have q1 : leB 0 (done.length : Int) = true := by simp [leB]
      have q2 : ltB (done.length : Int) ((spanK M).length : Int) = true := by rw [spanK_len]; exact h1
      rw [q1, q2]
      simp only [Bool.and_self, ctl_true]
      have : nth [] (spanK M) (done.length : Int).toNat = [PV.int .i64 x.1, PV.int .i64 x.2.1, PV.int .i64 x.2.2] := by
        rw [nth_eq, Int.toNat_natCast, ← hd]
        simp [spanK, List.getD]
      rw [this]
    have hprev : ctl (ltB 0 (done.length : Int)) (getE (spanK M) (IntKind.i64.wrap ((done.length : Int) - 1)) fun c_1 => ctl (okCs [Sh.int IntKind.i64, Sh.int IntKind.i64, Sh.int IntKind.i64] c_1) (some ((nth PV.nilp c_1 2).toInt == x.2.2)) none) (some false) = some false := by
      rcases List.eq_nil_or_concat done with rfl | ⟨q, z, rfl⟩
      · rfl
      · have a1 : ltB 0 (((q.concat z).length : Nat) : Int) = true := by simp [ltB] <;> omega
        have a2 : IntKind.i64.wrap ((((q.concat z).length : Nat) : Int) - 1) = (q.length : Int) := by
          rw [w64 (by simp at hl ⊢; omega)]; simp
        rw [a1, ctl_true, a2]
        have hgz : ∀ K : List PV → Option Bool, getE (spanK M) (q.length : Int) K = K [PV.int .i64 z.1, PV.int .i64 z.2.1, PV.int .i64 z.2.2] := fun K => by
          unfold getE
          have q1 : leB 0 (q.length : Int) = true := by simp [leB]
          have q2 : ltB (q.length : Int) ((spanK M).length : Int) = true := by rw [spanK_len, ← hd]; simp [ltB]; omega
          rw [q1, q2]
          simp only [Bool.and_self, ctl_true]
          have : nth [] (spanK M) (q.length : Int).toNat = [PV.int .i64 z.1, PV.int .i64 z.2.1, PV.int .i64 z.2.2] := by
            rw [nth_eq, Int.toNat_natCast, ← hd]
            simp [spanK, List.getD]
          rw [this]
        rw [hgz]
        have hne : x.2.2 ≠ z.2.2 := hz z (by simp) x rfl
        have a3 : (z.2.2 == x.2.2) = false := by rw [beq_eq_false_iff_ne]; exact fun h => hne h.symm
        show some (z.2.2 == x.2.2) = some false
        rw [a3]
    rw [h1, ctl_true, hgx]
    simp only [bnd_some, ctl_true, ctl_false, ctl_and, ctl_or', ctl_or2, x_toPV, x_toCs, x_toCs2, x_toEs, x_bEs, x_bCs, x_aPV, x_aCs, x_int, x_bool, x_str, x_es, x_esn, nth_0, nth_1, nth_2, nth_3, nth_4, nth_5, nth_6, nth_7, nth_8, nth_9, y_nil, y_int, y_bool, y_str, y_sl, y_nils, y_agg, y_ownp, y_own, z_nil, z_int, z_bool, z_str, z_sl, z_nils, b_nil, b_arr, b_box1, b_box2, b_box3, b_box4, List.map_cons, List.map_nil, Bool.and_self, Bool.and_true, Bool.true_and, Bool.not_true, Bool.not_false, Bool.or_false, Bool.false_or, cond_true, cond_false, okPack, okPut, okPutBlks, okPutCells, q_isP, q_isAg, q_isBox, q_isArr, q_int, q_bool, q_str, q_sl, q_nils, e_exit, e_ret, e_nrm, e_ret_exit, e_exit_ret, e_nrm_exit, e_nrm_ret, e_exit_nrm, e_ret_nrm, Nat.zero_add, Nat.reduceAdd, noslR, noslP, noslB, noslA, List.all_cons, List.all_nil]
    have d1 : (x.1 != s) = false := by rw [g1]; simp
    have d2 : leB x.2.1 x.1 = false := by rw [g1]; simp [leB]; omega
    rw [d1, d2]
    simp only [bnd_some, ctl_true, ctl_false, ctl_and, ctl_or', ctl_or2, x_toPV, x_toCs, x_toCs2, x_toEs, x_bEs, x_bCs, x_aPV, x_aCs, x_int, x_bool, x_str, x_es, x_esn, nth_0, nth_1, nth_2, nth_3, nth_4, nth_5, nth_6, nth_7, nth_8, nth_9, y_nil, y_int, y_bool, y_str, y_sl, y_nils, y_agg, y_ownp, y_own, z_nil, z_int, z_bool, z_str, z_sl, z_nils, b_nil, b_arr, b_box1, b_box2, b_box3, b_box4, List.map_cons, List.map_nil, Bool.and_self, Bool.and_true, Bool.true_and, Bool.not_true, Bool.not_false, Bool.or_false, Bool.false_or, cond_true, cond_false, okPack, okPut, okPutBlks, okPutCells, q_isP, q_isAg, q_isBox, q_isArr, q_int, q_bool, q_str, q_sl, q_nils, e_exit, e_ret, e_nrm, e_ret_exit, e_exit_ret, e_nrm_exit, e_nrm_ret, e_exit_nrm, e_ret_nrm, Nat.zero_add, Nat.reduceAdd, noslR, noslP, noslB, noslA, List.all_cons, List.all_nil]
    rw [hprev]
    simp only [bnd_some, ctl_true, ctl_false, ctl_and, ctl_or', ctl_or2, x_toPV, x_toCs, x_toCs2, x_toEs, x_bEs, x_bCs, x_aPV, x_aCs, x_int, x_bool, x_str, x_es, x_esn, nth_0, nth_1, nth_2, nth_3, nth_4, nth_5, nth_6, nth_7, nth_8, nth_9, y_nil, y_int, y_bool, y_str, y_sl, y_nils, y_agg, y_ownp, y_own, z_nil, z_int, z_bool, z_str, z_sl, z_nils, b_nil, b_arr, b_box1, b_box2, b_box3, b_box4, List.map_cons, List.map_nil, Bool.and_self, Bool.and_true, Bool.true_and, Bool.not_true, Bool.not_false, Bool.or_false, Bool.false_or, cond_true, cond_false, okPack, okPut, okPutBlks, okPutCells, q_isP, q_isAg, q_isBox, q_isArr, q_int, q_bool, q_str, q_sl, q_nils, e_exit, e_ret, e_nrm, e_ret_exit, e_exit_ret, e_nrm_exit, e_nrm_ret, e_exit_nrm, e_ret_nrm, Nat.zero_add, Nat.reduceAdd, noslR, noslP, noslB, noslA, List.all_cons, List.all_nil]
    have hin := s4_2 b bs kind to (spanK M) (spanK M) (M.length : Int) (done.length : Int) x.1 x.2.1 x.2.2 hc hk (by omega) (by omega) (x.2.1 - x.1).toNat x.1 (by omega) (Int.le_refl _) (by rw [g1]; exact g3)
    rw [hin]
    simp only [bnd_some, ctl_true, ctl_false, ctl_and, ctl_or', ctl_or2, x_toPV, x_toCs, x_toCs2, x_toEs, x_bEs, x_bCs, x_aPV, x_aCs, x_int, x_bool, x_str, x_es, x_esn, nth_0, nth_1, nth_2, nth_3, nth_4, nth_5, nth_6, nth_7, nth_8, nth_9, y_nil, y_int, y_bool, y_str, y_sl, y_nils, y_agg, y_ownp, y_own, z_nil, z_int, z_bool, z_str, z_sl, z_nils, b_nil, b_arr, b_box1, b_box2, b_box3, b_box4, List.map_cons, List.map_nil, Bool.and_self, Bool.and_true, Bool.true_and, Bool.not_true, Bool.not_false, Bool.or_false, Bool.false_or, cond_true, cond_false, okPack, okPut, okPutBlks, okPutCells, q_isP, q_isAg, q_isBox, q_isArr, q_int, q_bool, q_str, q_sl, q_nils, e_exit, e_ret, e_nrm, e_ret_exit, e_exit_ret, e_nrm_exit, e_nrm_ret, e_exit_nrm, e_ret_nrm, Nat.zero_add, Nat.reduceAdd, noslR, noslP, noslB, noslA, List.all_cons, List.all_nil]
    rw [w64 (n := (done.length : Int) + 1) (by omega), len_snoc done x]
    exact ih (done ++ [x]) x.2.1 (by rw [← hd]; simp) (by omega) g5 (fun z hz2 y hy => by
      simp at hz2
      subst hz2
      exact g4 y hy)

theorem d_LogbookSpans (t : List Int) (_ : t.length ≤ maxLen) (_ : ∀ n ∈ t, -9223372036854775808 ≤ n ∧ n ≤ 9223372036854775807) (a : Int) (ha : 0 ≤ a ∧ a ≤ 255) (b : Int) (hb : 0 ≤ b ∧ b ≤ 255) : denC E 4 [AV.sl 1 (intsK .i64 t), AV.int .u8 a, AV.int .u8 b] [] = some ([RV.p (PV.bool true)], []) := by
  rw [denC_eq, r4, intsK_len]
  by_cases ht : 600 < t.length
  · have h1 : ltB 600 (t.length : Int) = true := by simp [ltB]; omega
    rw [h1, ctl_true, c_sane36]
    rfl
  · have h1 : ltB 600 (t.length : Int) = false := by simp [ltB]; omega
    rw [h1, ctl_false, c_New]
    simp only [bnd_some, ctl_true, ctl_false, ctl_and, ctl_or', ctl_or2, x_toPV, x_toCs, x_toCs2, x_toEs, x_bEs, x_bCs, x_aPV, x_aCs, x_int, x_bool, x_str, x_es, x_esn, nth_0, nth_1, nth_2, nth_3, nth_4, nth_5, nth_6, nth_7, nth_8, nth_9, y_nil, y_int, y_bool, y_str, y_sl, y_nils, y_agg, y_ownp, y_own, z_nil, z_int, z_bool, z_str, z_sl, z_nils, b_nil, b_arr, b_box1, b_box2, b_box3, b_box4, List.map_cons, List.map_nil, Bool.and_self, Bool.and_true, Bool.true_and, Bool.not_true, Bool.not_false, Bool.or_false, Bool.false_or, cond_true, cond_false, okPack, okPut, okPutBlks, okPutCells, q_isP, q_isAg, q_isBox, q_isArr, q_int, q_bool, q_str, q_sl, q_nils, e_exit, e_ret, e_nrm, e_ret_exit, e_exit_ret, e_nrm_exit, e_nrm_ret, e_exit_nrm, e_ret_nrm, Nat.zero_add, Nat.reduceAdd, noslR, noslP, noslB, noslA, List.all_cons, List.all_nil]
    rw [src_zero]
    have hL : (t.take 600).length ≤ 600 := by simp; omega
    obtain ⟨x, xs, k1, hk1, hc, hxl, hxt, hB⟩ := c_Book (L := t.take 600) (k := 0) hL (by omega) 14 (by omega)
    rw [hB]
    simp only [bnd_some, ctl_true, ctl_false, ctl_and, ctl_or', ctl_or2, x_toPV, x_toCs, x_toCs2, x_toEs, x_bEs, x_bCs, x_aPV, x_aCs, x_int, x_bool, x_str, x_es, x_esn, nth_0, nth_1, nth_2, nth_3, nth_4, nth_5, nth_6, nth_7, nth_8, nth_9, y_nil, y_int, y_bool, y_str, y_sl, y_nils, y_agg, y_ownp, y_own, z_nil, z_int, z_bool, z_str, z_sl, z_nils, b_nil, b_arr, b_box1, b_box2, b_box3, b_box4, List.map_cons, List.map_nil, Bool.and_self, Bool.and_true, Bool.true_and, Bool.not_true, Bool.not_false, Bool.or_false, Bool.false_or, cond_true, cond_false, okPack, okPut, okPutBlks, okPutCells, q_isP, q_isAg, q_isBox, q_isArr, q_int, q_bool, q_str, q_sl, q_nils, e_exit, e_ret, e_nrm, e_ret_exit, e_exit_ret, e_nrm_exit, e_nrm_ret, e_exit_nrm, e_ret_nrm, Nat.zero_add, Nat.reduceAdd, noslR, noslP, noslB, noslA, List.all_cons, List.all_nil]
    have hR := c_Range (L := t.take 600) hL hk1 (lo := 1) (hi := 3) (by omega)
    have hRb := vRange_bounds (L := t.take 600) (k := k1) (lo := 1) (hi := 3) (by omega)
    rw [hR]
    simp only [bnd_some, ctl_true, ctl_false, ctl_and, ctl_or', ctl_or2, x_toPV, x_toCs, x_toCs2, x_toEs, x_bEs, x_bCs, x_aPV, x_aCs, x_int, x_bool, x_str, x_es, x_esn, nth_0, nth_1, nth_2, nth_3, nth_4, nth_5, nth_6, nth_7, nth_8, nth_9, y_nil, y_int, y_bool, y_str, y_sl, y_nils, y_agg, y_ownp, y_own, z_nil, z_int, z_bool, z_str, z_sl, z_nils, b_nil, b_arr, b_box1, b_box2, b_box3, b_box4, List.map_cons, List.map_nil, Bool.and_self, Bool.and_true, Bool.true_and, Bool.not_true, Bool.not_false, Bool.or_false, Bool.false_or, cond_true, cond_false, okPack, okPut, okPutBlks, okPutCells, q_isP, q_isAg, q_isBox, q_isArr, q_int, q_bool, q_str, q_sl, q_nils, e_exit, e_ret, e_nrm, e_ret_exit, e_exit_ret, e_nrm_exit, e_nrm_ret, e_exit_nrm, e_ret_nrm, Nat.zero_add, Nat.reduceAdd, noslR, noslP, noslB, noslA, List.all_cons, List.all_nil]
    generalize vRange (t.take 600) k1 1 3 = kind at *
    have wa : IntKind.i64.wrap a = a := w64 (by omega)
    have wb : IntKind.i64.wrap b = b := w64 (by omega)
    have ma : a.tmod 40 = a % 40 := Int.tmod_eq_emod_of_nonneg ha.1
    have mb : b.tmod 40 = b % 40 := Int.tmod_eq_emod_of_nonneg hb.1
    have ra : 0 ≤ a % 40 ∧ a % 40 < 40 := ⟨Int.emod_nonneg _ (by decide), Int.emod_lt_of_pos _ (by decide)⟩
    have rb : 0 ≤ b % 40 ∧ b % 40 < 40 := ⟨Int.emod_nonneg _ (by decide), Int.emod_lt_of_pos _ (by decide)⟩
    rw [wa, wb, ma, mb]
    generalize a % 40 = f at *
    generalize b % 40 = g at *
    have wfg : IntKind.i64.wrap (f + g) = f + g := w64 (by omega)
    have hw1 : wordsP kind = 1 := by
      have : kind = 1 ∨ kind = 2 ∨ kind = 3 := by omega
      rcases this with rfl | rfl | rfl <;> rfl
    rw [wfg, c_SpansE x xs kind f (f + g) (checkP_ws hc)]
    have he : spanE' x xs kind f (f + g) = 0 := by unfold spanE'; rw [if_neg (by simp [hc]), if_pos (by omega)]
    have hsl : spanL x xs kind f (f + g) = spP (aF x kind) f (f + g) := by unfold spanL; rw [if_pos he]
    rw [he, hsl]
    obtain ⟨l, hgl⟩ := gl_ex x xs kind f (f + g) hc (by omega)
    rw [spP_eq hgl]
    simp only [bnd_some, ctl_true, ctl_false, ctl_and, ctl_or', ctl_or2, x_toPV, x_toCs, x_toCs2, x_toEs, x_bEs, x_bCs, x_aPV, x_aCs, x_int, x_bool, x_str, x_es, x_esn, nth_0, nth_1, nth_2, nth_3, nth_4, nth_5, nth_6, nth_7, nth_8, nth_9, y_nil, y_int, y_bool, y_str, y_sl, y_nils, y_agg, y_ownp, y_own, z_nil, z_int, z_bool, z_str, z_sl, z_nils, b_nil, b_arr, b_box1, b_box2, b_box3, b_box4, List.map_cons, List.map_nil, Bool.and_self, Bool.and_true, Bool.true_and, Bool.not_true, Bool.not_false, Bool.or_false, Bool.false_or, cond_true, cond_false, okPack, okPut, okPutBlks, okPutCells, q_isP, q_isAg, q_isBox, q_isArr, q_int, q_bool, q_str, q_sl, q_nils, e_exit, e_ret, e_nrm, e_ret_exit, e_exit_ret, e_nrm_exit, e_nrm_ret, e_exit_nrm, e_ret_nrm, Nat.zero_add, Nat.reduceAdd, noslR, noslP, noslB, noslA, List.all_cons, List.all_nil]
    have hcmp : (((spanK l).length : Int) == 0) = (f == f + g) := by
      rw [spanK_len]
      cases l with
      | nil => unfold gl at hgl; rw [← hgl]; simp
      | cons y r =>
        have h3 := hgl.2.1
        have h4 := gl_le hgl.2.2.2.2
        have : (f == f + g) = false := by rw [beq_eq_false_iff_ne]; omega
        rw [this, beq_eq_false_iff_ne]
        simp; omega
    have d0 : ((0 : Int) != 0) = false := rfl
    rw [hcmp, d0]
    simp only [beq_self_eq_true, bnd_some, ctl_true, ctl_false, ctl_and, ctl_or', ctl_or2, x_toPV, x_toCs, x_toCs2, x_toEs, x_bEs, x_bCs, x_aPV, x_aCs, x_int, x_bool, x_str, x_es, x_esn, nth_0, nth_1, nth_2, nth_3, nth_4, nth_5, nth_6, nth_7, nth_8, nth_9, y_nil, y_int, y_bool, y_str, y_sl, y_nils, y_agg, y_ownp, y_own, z_nil, z_int, z_bool, z_str, z_sl, z_nils, b_nil, b_arr, b_box1, b_box2, b_box3, b_box4, List.map_cons, List.map_nil, Bool.and_self, Bool.and_true, Bool.true_and, Bool.not_true, Bool.not_false, Bool.or_false, Bool.false_or, cond_true, cond_false, okPack, okPut, okPutBlks, okPutCells, q_isP, q_isAg, q_isBox, q_isArr, q_int, q_bool, q_str, q_sl, q_nils, e_exit, e_ret, e_nrm, e_ret_exit, e_exit_ret, e_nrm_exit, e_nrm_ret, e_exit_nrm, e_ret_nrm, Nat.zero_add, Nat.reduceAdd, noslR, noslP, noslB, noslA, List.all_cons, List.all_nil]
    have hln := gl_len hgl
    have hlp := s4_0 x xs kind f (f + g) hc (by simpa using hw1) (by omega) l (by omega) l [] f rfl (Int.le_refl _) hgl (fun z hz => by simp at hz)
    simp only [List.length_nil, Int.ofNat_zero] at hlp
    rw [spanK_len, hlp]
    simp only [beq_self_eq_true, bnd_some, ctl_true, ctl_false, ctl_and, ctl_or', ctl_or2, x_toPV, x_toCs, x_toCs2, x_toEs, x_bEs, x_bCs, x_aPV, x_aCs, x_int, x_bool, x_str, x_es, x_esn, nth_0, nth_1, nth_2, nth_3, nth_4, nth_5, nth_6, nth_7, nth_8, nth_9, y_nil, y_int, y_bool, y_str, y_sl, y_nils, y_agg, y_ownp, y_own, z_nil, z_int, z_bool, z_str, z_sl, z_nils, b_nil, b_arr, b_box1, b_box2, b_box3, b_box4, List.map_cons, List.map_nil, Bool.and_self, Bool.and_true, Bool.true_and, Bool.not_true, Bool.not_false, Bool.or_false, Bool.false_or, cond_true, cond_false, okPack, okPut, okPutBlks, okPutCells, q_isP, q_isAg, q_isBox, q_isArr, q_int, q_bool, q_str, q_sl, q_nils, e_exit, e_ret, e_nrm, e_ret_exit, e_exit_ret, e_nrm_exit, e_nrm_ret, e_exit_nrm, e_ret_nrm, Nat.zero_add, Nat.reduceAdd, noslR, noslP, noslB, noslA, List.all_cons, List.all_nil]
    rw [c_sane36]
    rfl

end Go.Proofs.YtdbajagnhanpfaaDoor.Vm
