/- The law ReportCounts. -/
import Derived.Test.YtgdeaamklodkkaaDoorRepE
import Derived.Test.YtgdeaamklodkkaaDoorRawCounts
namespace Go.Proofs.YtgdeaamklodkkaaDoor.Vm
set_option linter.unusedVariables false
set_option linter.unusedSimpArgs false

theorem atL_val (kind time : Int) : ∀ l : List (Int × Int × Int), (atL kind time l).1 = 0 ∨ ∃ x ∈ l, (atL kind time l).1 = x.2.2
  | [] => .inl rfl
  | x :: l => by
    rcases atL_val kind time l with h | ⟨y, hy, h⟩
    · unfold atL
      cases (atL kind time l).2 with
      | true => exact .inl h
      | false =>
        cases (decide (x.2.1 = kind) && decide (x.1 ≤ time)) with
        | true => exact .inr ⟨x, by simp, rfl⟩
        | false => exact .inl rfl
    · unfold atL
      cases (atL kind time l).2 with
      | true => exact .inr ⟨y, by simp [hy], h⟩
      | false =>
        cases (decide (x.2.1 = kind) && decide (x.1 ≤ time)) with
        | true => exact .inr ⟨x, by simp, rfl⟩
        | false => exact .inl rfl

/-- An entry that says a level. -/
def lvE (e : En) : Prop := e.k = 1 ∧ ∃ v, e.ws = [v] ∧ 1 ≤ v ∧ v ≤ 3

theorem aF_lev {b : List En} (h : ∀ e ∈ b, lvE e) (k : Int) : 0 ≤ aF b 1 k ∧ aF b 1 k ≤ 3 := by
  unfold aF
  rcases atL_val 1 k (b.map trip) with h0 | ⟨x, hx, h0⟩
  · rw [h0]; omega
  · rw [List.mem_map] at hx
    obtain ⟨e, he, rfl⟩ := hx
    obtain ⟨_, v, hv, h1, h2⟩ := h e he
    rw [h0]
    simp only [trip, hv, List.headD_cons]
    omega

theorem cntA_all {A : Int → Int} (h : ∀ k, 0 ≤ A k ∧ A k ≤ 3) : ∀ (n : Nat) (s : Int), cntA A 0 s n + cntA A 1 s n + cntA A 2 s n + cntA A 3 s n = n
  | 0, s => by simp [cntA]
  | n + 1, s => by
    have ih := cntA_all h n (s + 1)
    have := h s
    unfold cntA
    have key : A s = 0 ∨ A s = 1 ∨ A s = 2 ∨ A s = 3 := by omega
    rcases key with e | e | e | e <;> rw [e] <;> simp <;> omega

theorem l_C0 {L : List Int} (hL : L.length ≤ 600) (a1 b2 : Int) : ∀ (n k : Nat) (b : List En) (s time : Int), k ≤ 600 → n + b.length ≤ 100 → checkP b s = 0 → 0 ≤ time → time + 4 * n ≤ 1000 → (∀ a ∈ b, a.t ≤ time) → (∀ a ∈ b, lvE a) →
    ∃ b' s', checkP b' s' = 0 ∧ (∀ a ∈ b', lvE a) ∧
    lp E (denC E) 3 0 [] 0 { vals := [AV.int .u8 a1, AV.int .u8 b2, AV.int .i64 time, AV.int .i64 (n : Int)], blks := [src L k, Blk.box [AV.sl 3 (ensK b), AV.int .u64 s]] } =
      some (.exit 0, { vals := [AV.int .u8 a1, AV.int .u8 b2], blks := [Blk.box [AV.sl 3 (ensK b'), AV.int .u64 s']] }) := by
  have sr : ∀ k : Nat, Blk.box [AV.sl 1 (intsK .i64 L), AV.int .i64 (k : Int)] = src L k := fun k => rfl
  have s0 : ∀ k : Nat, src L k = Blk.box [AV.sl 1 (intsK .i64 L), AV.int .i64 (k : Int)] := fun k => rfl
  intro n
  induction n with
  | zero =>
    intro k b s time hk hn hc ht0 ht1 hb hv
    refine ⟨b, s, hc, hv, ?_⟩
    rw [s0, r3_0]
    rfl
  | succ n ih =>
    intro k b s time hk hn hc ht0 ht1 hb hlv
    have hN := c_N hL hk 5 (by omega)
    have hbd := vN_bounds (L := L) (k := k) (n := 5) (by omega)
    have hk1 := at'_le hL hk
    have hR := c_Range hL hk1 (lo := 1) (hi := 3) (by omega)
    have hrb := vRange_bounds (L := L) (k := at' L k) (lo := 1) (hi := 3) (by omega)
    have hk2 := at'_le hL hk1
    generalize vRange L (at' L k) 1 3 = v at *
    obtain ⟨e, he⟩ : ∃ e : En, (⟨time + vN L k 5, 1, [v]⟩ : En) = e := ⟨_, rfl⟩
    have het : e.t = time + vN L k 5 := by rw [← he]
    have hek : e.k = 1 := by rw [← he]
    have hew : e.ws = [v] := by rw [← he]
    have hoe : okE e := by
      refine ⟨by omega, by rw [hek, hew]; rfl, ?_⟩
      rw [hew]
      simp only [inside, List.all_cons, List.all_nil, Bool.and_true, Bool.and_eq_true, decide_eq_true_eq]
      omega
    have hval : validP e.t e.k e.ws = true := okE_valid hoe (by omega)
    have hla : lateP b e.t = true := lateP_of fun a ha => by have := hb a ha; omega
    have hA := c_AppendD b s e (checkP_ws hc) (by have := okE_len hoe; omega)
    rw [appR_ok hc hval hla (by omega)] at hA
    obtain ⟨b', s', h1, h2, h3⟩ := ih (at' L (at' L k)) (b ++ [e]) (sumB s (lineP e.t e.k e.ws)) (time + vN L k 5) hk2 (by simp; omega) (checkP_snoc hc hval hla (by omega)) (by omega) (by omega) (fun a ha => by
      rcases List.mem_append.1 ha with ha | ha
      · have := hb a ha; omega
      · simp at ha; subst ha; omega) (fun a ha => by
      rcases List.mem_append.1 ha with ha | ha
      · exact hlv a ha
      · simp at ha; subst ha; exact ⟨hek, v, hew, hrb⟩)
    refine ⟨b', s', h1, h2, ?_⟩
    have hlt : ltB 0 ((n + 1 : Nat) : Int) = true := by simp [ltB] <;> omega
    have hw : IntKind.i64.wrap (((n + 1 : Nat) : Int) - 1) = (n : Int) := by rw [w64 (by omega)]; omega
    have hw2 : IntKind.i64.wrap (time + vN L k 5) = time + vN L k 5 := w64 (by omega)
    have e9 : enK e = [PV.int .i64 (time + vN L k 5), PV.int .i64 1, PV.sl 1 [[PV.int .i64 v]]] := by rw [← he]; rfl
    rw [e9] at hA
    rw [s0, r3_0, hlt, ctl_true, sr, hN, s0]
    simp only [bnd_some, ctl_true, ctl_false, ctl_and, ctl_or', ctl_or2, x_toPV, x_toCs, x_toCs2, x_toEs, x_bEs, x_bCs, x_aPV, x_aCs, x_int, x_bool, x_str, x_es, x_esn, nth_0, nth_1, nth_2, nth_3, nth_4, nth_5, nth_6, nth_7, nth_8, nth_9, y_nil, y_int, y_bool, y_str, y_sl, y_nils, y_agg, y_ownp, y_own, z_nil, z_int, z_bool, z_str, z_sl, z_nils, b_nil, b_arr, b_box1, b_box2, b_box3, b_box4, List.map_cons, List.map_nil, Bool.and_self, Bool.and_true, Bool.true_and, Bool.not_true, Bool.not_false, Bool.or_false, Bool.false_or, cond_true, cond_false, okPack, okPut, okPutBlks, okPutCells, q_isP, q_isAg, q_isBox, q_isArr, q_int, q_bool, q_str, q_sl, q_nils, e_exit, e_ret, e_nrm, e_ret_exit, e_exit_ret, e_nrm_exit, e_nrm_ret, e_exit_nrm, e_ret_nrm, Nat.zero_add, Nat.reduceAdd, noslR, noslP, noslB, noslA, List.all_cons, List.all_nil]
    rw [sr, hR, s0]
    simp only [bnd_some, ctl_true, ctl_false, ctl_and, ctl_or', ctl_or2, x_toPV, x_toCs, x_toCs2, x_toEs, x_bEs, x_bCs, x_aPV, x_aCs, x_int, x_bool, x_str, x_es, x_esn, nth_0, nth_1, nth_2, nth_3, nth_4, nth_5, nth_6, nth_7, nth_8, nth_9, y_nil, y_int, y_bool, y_str, y_sl, y_nils, y_agg, y_ownp, y_own, z_nil, z_int, z_bool, z_str, z_sl, z_nils, b_nil, b_arr, b_box1, b_box2, b_box3, b_box4, List.map_cons, List.map_nil, Bool.and_self, Bool.and_true, Bool.true_and, Bool.not_true, Bool.not_false, Bool.or_false, Bool.false_or, cond_true, cond_false, okPack, okPut, okPutBlks, okPutCells, q_isP, q_isAg, q_isBox, q_isArr, q_int, q_bool, q_str, q_sl, q_nils, e_exit, e_ret, e_nrm, e_ret_exit, e_exit_ret, e_nrm_exit, e_nrm_ret, e_exit_nrm, e_ret_nrm, Nat.zero_add, Nat.reduceAdd, noslR, noslP, noslB, noslA, List.all_cons, List.all_nil]
    rw [hw2, hA]
    simp only [bnd_some, ctl_true, ctl_false, ctl_and, ctl_or', ctl_or2, x_toPV, x_toCs, x_toCs2, x_toEs, x_bEs, x_bCs, x_aPV, x_aCs, x_int, x_bool, x_str, x_es, x_esn, nth_0, nth_1, nth_2, nth_3, nth_4, nth_5, nth_6, nth_7, nth_8, nth_9, y_nil, y_int, y_bool, y_str, y_sl, y_nils, y_agg, y_ownp, y_own, z_nil, z_int, z_bool, z_str, z_sl, z_nils, b_nil, b_arr, b_box1, b_box2, b_box3, b_box4, List.map_cons, List.map_nil, Bool.and_self, Bool.and_true, Bool.true_and, Bool.not_true, Bool.not_false, Bool.or_false, Bool.false_or, cond_true, cond_false, okPack, okPut, okPutBlks, okPutCells, q_isP, q_isAg, q_isBox, q_isArr, q_int, q_bool, q_str, q_sl, q_nils, e_exit, e_ret, e_nrm, e_ret_exit, e_exit_ret, e_nrm_exit, e_nrm_ret, e_exit_nrm, e_ret_nrm, Nat.zero_add, Nat.reduceAdd, noslR, noslP, noslB, noslA, List.all_cons, List.all_nil]
    rw [hw, sr]
    exact h3

theorem d_ReportCounts (t : List Int) (_ : t.length ≤ maxLen) (_ : ∀ n ∈ t, -9223372036854775808 ≤ n ∧ n ≤ 9223372036854775807) (a : Int) (ha : 0 ≤ a ∧ a ≤ 255) (b : Int) (hb : 0 ≤ b ∧ b ≤ 255) :
    denC E 3 [AV.sl 1 (intsK .i64 t), AV.int .u8 a, AV.int .u8 b] [] = some ([RV.p (PV.bool true)], []) := by
  rw [denC_eq, r3, intsK_len]
  by_cases ht : 600 < t.length
  · have h1 : ltB 600 (t.length : Int) = true := by simp [ltB]; omega
    rw [h1, ctl_true, c_sane40]
    rfl
  · have h1 : ltB 600 (t.length : Int) = false := by simp [ltB]; omega
    rw [h1, ctl_false, c_New]
    simp only [bnd_some, ctl_true, ctl_false, ctl_and, ctl_or', ctl_or2, x_toPV, x_toCs, x_toCs2, x_toEs, x_bEs, x_bCs, x_aPV, x_aCs, x_int, x_bool, x_str, x_es, x_esn, nth_0, nth_1, nth_2, nth_3, nth_4, nth_5, nth_6, nth_7, nth_8, nth_9, y_nil, y_int, y_bool, y_str, y_sl, y_nils, y_agg, y_ownp, y_own, z_nil, z_int, z_bool, z_str, z_sl, z_nils, b_nil, b_arr, b_box1, b_box2, b_box3, b_box4, List.map_cons, List.map_nil, Bool.and_self, Bool.and_true, Bool.true_and, Bool.not_true, Bool.not_false, Bool.or_false, Bool.false_or, cond_true, cond_false, okPack, okPut, okPutBlks, okPutCells, q_isP, q_isAg, q_isBox, q_isArr, q_int, q_bool, q_str, q_sl, q_nils, e_exit, e_ret, e_nrm, e_ret_exit, e_exit_ret, e_nrm_exit, e_nrm_ret, e_exit_nrm, e_ret_nrm, Nat.zero_add, Nat.reduceAdd, noslR, noslP, noslB, noslA, List.all_cons, List.all_nil]
    rw [c_NewD, src_zero]
    simp only [bnd_some, ctl_true, ctl_false, ctl_and, ctl_or', ctl_or2, x_toPV, x_toCs, x_toCs2, x_toEs, x_bEs, x_bCs, x_aPV, x_aCs, x_int, x_bool, x_str, x_es, x_esn, nth_0, nth_1, nth_2, nth_3, nth_4, nth_5, nth_6, nth_7, nth_8, nth_9, y_nil, y_int, y_bool, y_str, y_sl, y_nils, y_agg, y_ownp, y_own, z_nil, z_int, z_bool, z_str, z_sl, z_nils, b_nil, b_arr, b_box1, b_box2, b_box3, b_box4, List.map_cons, List.map_nil, Bool.and_self, Bool.and_true, Bool.true_and, Bool.not_true, Bool.not_false, Bool.or_false, Bool.false_or, cond_true, cond_false, okPack, okPut, okPutBlks, okPutCells, q_isP, q_isAg, q_isBox, q_isArr, q_int, q_bool, q_str, q_sl, q_nils, e_exit, e_ret, e_nrm, e_ret_exit, e_exit_ret, e_nrm_exit, e_nrm_ret, e_exit_nrm, e_ret_nrm, Nat.zero_add, Nat.reduceAdd, noslR, noslP, noslB, noslA, List.all_cons, List.all_nil]
    have hL : (t.take 600).length ≤ 600 := by simp; omega
    have hN := c_N hL (show 0 ≤ 600 by omega) 12 (by omega)
    have hbd := vN_bounds (L := t.take 600) (k := 0) (n := 12) (by omega)
    have hk1 := at'_le hL (show 0 ≤ 600 by omega)
    obtain ⟨n, hn⟩ : ∃ n : Nat, vN (t.take 600) 0 12 = n := ⟨(vN (t.take 600) 0 12).toNat, by omega⟩
    have s0 : ∀ k : Nat, src (t.take 600) k = Blk.box [AV.sl 1 (intsK .i64 (t.take 600)), AV.int .i64 (k : Int)] := fun k => rfl
    obtain ⟨x, s, hx, hlv, hl⟩ := l_C0 hL a b n (at' (t.take 600) 0) [] begin36 0 hk1 (by simp; omega) checkP_nil (by omega) (by omega) (fun a ha => (List.not_mem_nil ha).elim) (fun a ha => (List.not_mem_nil ha).elim)
    have e0 : ensK [] = [] := rfl
    rw [e0, s0] at hl
    rw [hN, hn, s0]
    simp only [bnd_some, ctl_true, ctl_false, ctl_and, ctl_or', ctl_or2, x_toPV, x_toCs, x_toCs2, x_toEs, x_bEs, x_bCs, x_aPV, x_aCs, x_int, x_bool, x_str, x_es, x_esn, nth_0, nth_1, nth_2, nth_3, nth_4, nth_5, nth_6, nth_7, nth_8, nth_9, y_nil, y_int, y_bool, y_str, y_sl, y_nils, y_agg, y_ownp, y_own, z_nil, z_int, z_bool, z_str, z_sl, z_nils, b_nil, b_arr, b_box1, b_box2, b_box3, b_box4, List.map_cons, List.map_nil, Bool.and_self, Bool.and_true, Bool.true_and, Bool.not_true, Bool.not_false, Bool.or_false, Bool.false_or, cond_true, cond_false, okPack, okPut, okPutBlks, okPutCells, q_isP, q_isAg, q_isBox, q_isArr, q_int, q_bool, q_str, q_sl, q_nils, e_exit, e_ret, e_nrm, e_ret_exit, e_exit_ret, e_nrm_exit, e_nrm_ret, e_exit_nrm, e_ret_nrm, Nat.zero_add, Nat.reduceAdd, noslR, noslP, noslB, noslA, List.all_cons, List.all_nil]
    rw [hl]
    simp only [bnd_some, ctl_true, ctl_false, ctl_and, ctl_or', ctl_or2, x_toPV, x_toCs, x_toCs2, x_toEs, x_bEs, x_bCs, x_aPV, x_aCs, x_int, x_bool, x_str, x_es, x_esn, nth_0, nth_1, nth_2, nth_3, nth_4, nth_5, nth_6, nth_7, nth_8, nth_9, y_nil, y_int, y_bool, y_str, y_sl, y_nils, y_agg, y_ownp, y_own, z_nil, z_int, z_bool, z_str, z_sl, z_nils, b_nil, b_arr, b_box1, b_box2, b_box3, b_box4, List.map_cons, List.map_nil, Bool.and_self, Bool.and_true, Bool.true_and, Bool.not_true, Bool.not_false, Bool.or_false, Bool.false_or, cond_true, cond_false, okPack, okPut, okPutBlks, okPutCells, q_isP, q_isAg, q_isBox, q_isArr, q_int, q_bool, q_str, q_sl, q_nils, e_exit, e_ret, e_nrm, e_ret_exit, e_exit_ret, e_nrm_exit, e_nrm_ret, e_exit_nrm, e_ret_nrm, Nat.zero_add, Nat.reduceAdd, noslR, noslP, noslB, noslA, List.all_cons, List.all_nil]
    rw [w64 (n := a) (by omega), w64 (n := b) (by omega)]
    obtain ⟨f, hf⟩ : ∃ f, a.tmod 40 = f := ⟨_, rfl⟩
    obtain ⟨g, hg⟩ : ∃ g, b.tmod 40 = g := ⟨_, rfl⟩
    have fb : 0 ≤ f ∧ f < 40 := by rw [← hf, Int.tmod_eq_emod_of_nonneg ha.1]; omega
    have gb : 0 ≤ g ∧ g < 40 := by rw [← hg, Int.tmod_eq_emod_of_nonneg hb.1]; omega
    rw [hf, hg, w64 (n := f + g) (by omega)]
    obtain ⟨e, he⟩ : ∃ e, f + g = e := ⟨_, rfl⟩
    rw [he]
    have z1 := spanE_ok hx (f := f) (t := e) (by omega)
    have o1 := c_Of x s f e (checkP_ws hx)
    unfold ofR at o1
    rw [if_pos z1] at o1
    have tk : ∀ lev, tick4 (spanL x s 1 f e) lev = cntA (aF x 1) lev f (e - f).toNat := fun lev => tick4_gl lev (spanL_gl z1)
    have hall := cntA_all (aF_lev hlv) (e - f).toNat f
    have r0 := cntA_rng (aF x 1) 0 (e - f).toNat f
    have r1 := cntA_rng (aF x 1) 1 (e - f).toNat f
    have r2 := cntA_rng (aF x 1) 2 (e - f).toNat f
    have r3 := cntA_rng (aF x 1) 3 (e - f).toNat f
    rw [← tk 0, ← tk 1, ← tk 2, ← tk 3] at hall
    rw [← tk 0] at r0
    rw [← tk 1] at r1
    rw [← tk 2] at r2
    rw [← tk 3] at r3
    rw [o1]
    simp only [bnd_some, ctl_true, ctl_false, ctl_and, ctl_or', ctl_or2, x_toPV, x_toCs, x_toCs2, x_toEs, x_bEs, x_bCs, x_aPV, x_aCs, x_int, x_bool, x_str, x_es, x_esn, nth_0, nth_1, nth_2, nth_3, nth_4, nth_5, nth_6, nth_7, nth_8, nth_9, y_nil, y_int, y_bool, y_str, y_sl, y_nils, y_agg, y_ownp, y_own, z_nil, z_int, z_bool, z_str, z_sl, z_nils, b_nil, b_arr, b_box1, b_box2, b_box3, b_box4, List.map_cons, List.map_nil, Bool.and_self, Bool.and_true, Bool.true_and, Bool.not_true, Bool.not_false, Bool.or_false, Bool.false_or, cond_true, cond_false, okPack, okPut, okPutBlks, okPutCells, q_isP, q_isAg, q_isBox, q_isArr, q_int, q_bool, q_str, q_sl, q_nils, e_exit, e_ret, e_nrm, e_ret_exit, e_exit_ret, e_nrm_exit, e_nrm_ret, e_exit_nrm, e_ret_nrm, Nat.zero_add, Nat.reduceAdd, noslR, noslP, noslB, noslA, List.all_cons, List.all_nil]
    clear o1 tk
    generalize tick4 (spanL x s 1 f e) 0 = p0 at *
    generalize tick4 (spanL x s 1 f e) 1 = p1 at *
    generalize tick4 (spanL x s 1 f e) 2 = p2 at *
    generalize tick4 (spanL x s 1 f e) 3 = p3 at *
    generalize (((ofKind (tkB x) 4 f e).length : Nat) : Int) = p5
    generalize (((noDup (ofKind (tkB x) 8 f e)).length : Nat) : Int) = p6
    have hwst : (0 < p1 ∧ wst p1 p2 p3 = 1) ∨ (¬ 0 < p1 ∧ 0 < p2 ∧ wst p1 p2 p3 = 2) ∨ (¬ 0 < p1 ∧ ¬ 0 < p2 ∧ 0 < p3 ∧ wst p1 p2 p3 = 3) ∨ (¬ 0 < p1 ∧ ¬ 0 < p2 ∧ ¬ 0 < p3 ∧ wst p1 p2 p3 = 0) := by
      unfold wst
      split
      · exact .inl ⟨by assumption, rfl⟩
      · split
        · exact .inr (.inl ⟨by assumption, by assumption, rfl⟩)
        · split
          · exact .inr (.inr (.inl ⟨by assumption, by assumption, by assumption, rfl⟩))
          · exact .inr (.inr (.inr ⟨by assumption, by assumption, by assumption, rfl⟩))
    generalize wst p1 p2 p3 = w at *
    have bad : ∀ (i p : Int), (0 < i → 0 < p → ¬ i < w) → (0 < i → i = w → p ≠ 0) → ((ltB 0 i && ltB 0 p && ltB i w) || (ltB 0 i && (i == w && p == 0))) = false := by
      intro i p h1 h2
      cases hq : ((ltB 0 i && ltB 0 p && ltB i w) || (ltB 0 i && (i == w && p == 0))) with
      | false => rfl
      | true =>
        simp only [Bool.or_eq_true, Bool.and_eq_true, ltB, decide_eq_true_eq, beq_iff_eq] at hq
        rcases hq with ⟨⟨a1, a2⟩, a3⟩ | ⟨a1, a2, a3⟩
        · exact absurd a3 (h1 a1 a2)
        · exact absurd a3 (h2 a1 a2)
    have k0 := bad 0 p0 (fun h => by omega) (fun h => by omega)
    have k1 := bad 1 p1 (fun _ h => by omega) (fun _ h => by omega)
    have k2 := bad 2 p2 (fun _ h => by omega) (fun _ h => by omega)
    have k3 := bad 3 p3 (fun _ h => by omega) (fun _ h => by omega)
    have hl : lp E (denC E) 3 0 [] 2 { vals := [AV.int .i64 f, AV.int .i64 e, AV.int .i64 0, AV.int .i64 0, AV.agg [PV.int .i64 p0, PV.int .i64 p1, PV.int .i64 p2, PV.int .i64 p3], AV.int .i64 0], blks := [Blk.box [AV.int .i64 p0, AV.int .i64 p1, AV.int .i64 p2, AV.int .i64 p3, AV.int .i64 w, AV.int .i64 p5, AV.int .i64 p6]] } =
        some (.exit 2, { vals := [AV.int .i64 f, AV.int .i64 e, AV.int .i64 0, AV.int .i64 (p0 + p1 + p2 + p3)], blks := [] }) := by
      rw [r3_2]
      simp only [m0, g0, u0, bnd_some, ctl_true, ctl_false, ctl_and, ctl_or', ctl_or2, x_toPV, x_toCs, x_toCs2, x_toEs, x_bEs, x_bCs, x_aPV, x_aCs, x_int, x_bool, x_str, x_es, x_esn, nth_0, nth_1, nth_2, nth_3, nth_4, nth_5, nth_6, nth_7, nth_8, nth_9, y_nil, y_int, y_bool, y_str, y_sl, y_nils, y_agg, y_ownp, y_own, z_nil, z_int, z_bool, z_str, z_sl, z_nils, b_nil, b_arr, b_box1, b_box2, b_box3, b_box4, List.map_cons, List.map_nil, Bool.and_self, Bool.and_true, Bool.true_and, Bool.not_true, Bool.not_false, Bool.or_false, Bool.false_or, cond_true, cond_false, okPack, okPut, okPutBlks, okPutCells, q_isP, q_isAg, q_isBox, q_isArr, q_int, q_bool, q_str, q_sl, q_nils, e_exit, e_ret, e_nrm, e_ret_exit, e_exit_ret, e_nrm_exit, e_nrm_ret, e_exit_nrm, e_ret_nrm, Nat.zero_add, Nat.reduceAdd, noslR, noslP, noslB, noslA, List.all_cons, List.all_nil]
      rw [k0, ctl_false, w64 (n := 0 + p0) (by omega), r3_2]
      simp only [m1, g1, u1, bnd_some, ctl_true, ctl_false, ctl_and, ctl_or', ctl_or2, x_toPV, x_toCs, x_toCs2, x_toEs, x_bEs, x_bCs, x_aPV, x_aCs, x_int, x_bool, x_str, x_es, x_esn, nth_0, nth_1, nth_2, nth_3, nth_4, nth_5, nth_6, nth_7, nth_8, nth_9, y_nil, y_int, y_bool, y_str, y_sl, y_nils, y_agg, y_ownp, y_own, z_nil, z_int, z_bool, z_str, z_sl, z_nils, b_nil, b_arr, b_box1, b_box2, b_box3, b_box4, List.map_cons, List.map_nil, Bool.and_self, Bool.and_true, Bool.true_and, Bool.not_true, Bool.not_false, Bool.or_false, Bool.false_or, cond_true, cond_false, okPack, okPut, okPutBlks, okPutCells, q_isP, q_isAg, q_isBox, q_isArr, q_int, q_bool, q_str, q_sl, q_nils, e_exit, e_ret, e_nrm, e_ret_exit, e_exit_ret, e_nrm_exit, e_nrm_ret, e_exit_nrm, e_ret_nrm, Nat.zero_add, Nat.reduceAdd, noslR, noslP, noslB, noslA, List.all_cons, List.all_nil]
      rw [k1, ctl_false, w64 (n := 0 + p0 + p1) (by omega), r3_2]
      simp only [m2, g2, u2, bnd_some, ctl_true, ctl_false, ctl_and, ctl_or', ctl_or2, x_toPV, x_toCs, x_toCs2, x_toEs, x_bEs, x_bCs, x_aPV, x_aCs, x_int, x_bool, x_str, x_es, x_esn, nth_0, nth_1, nth_2, nth_3, nth_4, nth_5, nth_6, nth_7, nth_8, nth_9, y_nil, y_int, y_bool, y_str, y_sl, y_nils, y_agg, y_ownp, y_own, z_nil, z_int, z_bool, z_str, z_sl, z_nils, b_nil, b_arr, b_box1, b_box2, b_box3, b_box4, List.map_cons, List.map_nil, Bool.and_self, Bool.and_true, Bool.true_and, Bool.not_true, Bool.not_false, Bool.or_false, Bool.false_or, cond_true, cond_false, okPack, okPut, okPutBlks, okPutCells, q_isP, q_isAg, q_isBox, q_isArr, q_int, q_bool, q_str, q_sl, q_nils, e_exit, e_ret, e_nrm, e_ret_exit, e_exit_ret, e_nrm_exit, e_nrm_ret, e_exit_nrm, e_ret_nrm, Nat.zero_add, Nat.reduceAdd, noslR, noslP, noslB, noslA, List.all_cons, List.all_nil]
      rw [k2, ctl_false, w64 (n := 0 + p0 + p1 + p2) (by omega), r3_2]
      simp only [m3, g3, u3, bnd_some, ctl_true, ctl_false, ctl_and, ctl_or', ctl_or2, x_toPV, x_toCs, x_toCs2, x_toEs, x_bEs, x_bCs, x_aPV, x_aCs, x_int, x_bool, x_str, x_es, x_esn, nth_0, nth_1, nth_2, nth_3, nth_4, nth_5, nth_6, nth_7, nth_8, nth_9, y_nil, y_int, y_bool, y_str, y_sl, y_nils, y_agg, y_ownp, y_own, z_nil, z_int, z_bool, z_str, z_sl, z_nils, b_nil, b_arr, b_box1, b_box2, b_box3, b_box4, List.map_cons, List.map_nil, Bool.and_self, Bool.and_true, Bool.true_and, Bool.not_true, Bool.not_false, Bool.or_false, Bool.false_or, cond_true, cond_false, okPack, okPut, okPutBlks, okPutCells, q_isP, q_isAg, q_isBox, q_isArr, q_int, q_bool, q_str, q_sl, q_nils, e_exit, e_ret, e_nrm, e_ret_exit, e_exit_ret, e_nrm_exit, e_nrm_ret, e_exit_nrm, e_ret_nrm, Nat.zero_add, Nat.reduceAdd, noslR, noslP, noslB, noslA, List.all_cons, List.all_nil]
      rw [k3, ctl_false, w64 (n := 0 + p0 + p1 + p2 + p3) (by omega), r3_2]
      simp only [m4, bnd_some, ctl_true, ctl_false, ctl_and, ctl_or', ctl_or2, x_toPV, x_toCs, x_toCs2, x_toEs, x_bEs, x_bCs, x_aPV, x_aCs, x_int, x_bool, x_str, x_es, x_esn, nth_0, nth_1, nth_2, nth_3, nth_4, nth_5, nth_6, nth_7, nth_8, nth_9, y_nil, y_int, y_bool, y_str, y_sl, y_nils, y_agg, y_ownp, y_own, z_nil, z_int, z_bool, z_str, z_sl, z_nils, b_nil, b_arr, b_box1, b_box2, b_box3, b_box4, List.map_cons, List.map_nil, Bool.and_self, Bool.and_true, Bool.true_and, Bool.not_true, Bool.not_false, Bool.or_false, Bool.false_or, cond_true, cond_false, okPack, okPut, okPutBlks, okPutCells, q_isP, q_isAg, q_isBox, q_isArr, q_int, q_bool, q_str, q_sl, q_nils, e_exit, e_ret, e_nrm, e_ret_exit, e_exit_ret, e_nrm_exit, e_nrm_ret, e_exit_nrm, e_ret_nrm, Nat.zero_add, Nat.reduceAdd, noslR, noslP, noslB, noslA, List.all_cons, List.all_nil]
      rw [show (0 : Int) + p0 + p1 + p2 + p3 = p0 + p1 + p2 + p3 by omega]
    rw [hl]
    have z : ((0 : Int) == 0) = true := rfl
    have hfin : (p0 + p1 + p2 + p3 == IntKind.i64.wrap (e - f)) = true := by rw [w64 (by omega)]; simp; omega
    simp only [z, hfin, bnd_some, ctl_true, ctl_false, ctl_and, ctl_or', ctl_or2, x_toPV, x_toCs, x_toCs2, x_toEs, x_bEs, x_bCs, x_aPV, x_aCs, x_int, x_bool, x_str, x_es, x_esn, nth_0, nth_1, nth_2, nth_3, nth_4, nth_5, nth_6, nth_7, nth_8, nth_9, y_nil, y_int, y_bool, y_str, y_sl, y_nils, y_agg, y_ownp, y_own, z_nil, z_int, z_bool, z_str, z_sl, z_nils, b_nil, b_arr, b_box1, b_box2, b_box3, b_box4, List.map_cons, List.map_nil, Bool.and_self, Bool.and_true, Bool.true_and, Bool.not_true, Bool.not_false, Bool.or_false, Bool.false_or, cond_true, cond_false, okPack, okPut, okPutBlks, okPutCells, q_isP, q_isAg, q_isBox, q_isArr, q_int, q_bool, q_str, q_sl, q_nils, e_exit, e_ret, e_nrm, e_ret_exit, e_exit_ret, e_nrm_exit, e_nrm_ret, e_exit_nrm, e_ret_nrm, Nat.zero_add, Nat.reduceAdd, noslR, noslP, noslB, noslA, List.all_cons, List.all_nil]
    rw [c_sane40]
    rfl

end Go.Proofs.YtgdeaamklodkkaaDoor.Vm
