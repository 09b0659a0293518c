/- FailoverLives: the law. -/
import Derived.Test.YthmhnnppikdafaaFoW
import Derived.Test.YthmhnnppikdafaaRawLives
namespace Go.Proofs.Ythmhnnppikdafaa.Vm
set_option linter.unusedVariables false
set_option linter.unusedSimpArgs false

theorem act_loop {l : List Ct} (h5 : l.length ≤ 5) : ∀ (m k : Nat) (x : Nat), k + m = l.length → x ≤ k →
    lp E (denC E) 18 0 [] 0 { vals := [AV.int .i64 x, AV.sl 3 (ctrs l), AV.int .i64 l.length, AV.int .i64 k], blks := [] } =
      some (Ex.exit 0, { vals := [AV.int .i64 (x + ((List.range' k m).filter (actB l)).length : Nat)], blks := [] }) := by
  intro m
  induction m with
  | zero =>
    intro k x hk hx
    rw [r18_0, ctl_dec, if_neg (by omega)]
    rfl
  | succ m ih =>
    intro k x hk hx
    have hkl : k < l.length := by omega
    rw [r18_0, ctl_dec, if_pos (by omega), getE_ctrs hkl]
    simp only [bnd_some, ctl_true, ctl_false, ctl_and, ctl_or', ctl_or2, x_toPV, x_toCs, x_toCs2, x_toEs, x_bEs, x_bCs, x_aPV, x_aCs, x_int, x_bool, x_str, x_es, x_esn, nth_0, nth_1, nth_2, nth_3, nth_4, nth_5, nth_6, nth_7, nth_8, nth_9, y_nil, y_int, y_bool, y_str, y_sl, y_nils, y_agg, y_ownp, y_own, z_nil, z_int, z_bool, z_str, z_sl, z_nils, b_nil, b_arr, b_box1, b_box2, b_box3, b_box4, List.map_cons, List.map_nil, Bool.and_self, Bool.and_true, Bool.true_and, Bool.not_true, Bool.not_false, Bool.or_false, Bool.false_or, cond_true, cond_false, okPack, okPut, okPutBlks, okPutCells, q_isP, q_isAg, q_isBox, q_isArr, q_int, q_bool, q_str, q_sl, q_nils, e_exit, e_ret, e_nrm, e_ret_exit, e_exit_ret, e_nrm_exit, e_nrm_ret, e_exit_nrm, e_ret_nrm, Nat.zero_add, Nat.reduceAdd, noslR, noslP, noslB, noslA, List.all_cons, List.all_nil]
    rw [w64 (n := (k : Int) + 1) (by omega), w64 (n := (x : Int) + 1) (by omega), succ_cast, succ_cast, show ((gt l k).st == 1) = actB l k from rfl, List.range'_succ, List.filter_cons]
    cases actB l k with
    | true =>
      rw [ctl_true, ih (k + 1) (x + 1) (by omega) (by omega), if_pos rfl, List.length_cons]
      rw [show x + 1 + ((List.range' (k + 1) m).filter (actB l)).length = x + (((List.range' (k + 1) m).filter (actB l)).length + 1) by omega]
    | false =>
      rw [ctl_false, ih (k + 1) x (by omega) (by omega), if_neg (by simp)]

theorem c_isActive {l : List Ct} (h5 : l.length ≤ 5) : denC E 18 [AV.sl 3 (ctrs l)] [] = some ([RV.p (PV.bool ((((List.range' 0 l.length).filter (actB l)).length : Int) == 1))], []) := by
  have h := act_loop h5 l.length 0 0 (by omega) (by omega)
  rw [nc0, Nat.zero_add] at h
  rw [denC_eq, r18, ctrs_length, h]
  simp only [bnd_some, ctl_true, ctl_false, ctl_and, ctl_or', ctl_or2, x_toPV, x_toCs, x_toCs2, x_toEs, x_bEs, x_bCs, x_aPV, x_aCs, x_int, x_bool, x_str, x_es, x_esn, nth_0, nth_1, nth_2, nth_3, nth_4, nth_5, nth_6, nth_7, nth_8, nth_9, y_nil, y_int, y_bool, y_str, y_sl, y_nils, y_agg, y_ownp, y_own, z_nil, z_int, z_bool, z_str, z_sl, z_nils, b_nil, b_arr, b_box1, b_box2, b_box3, b_box4, List.map_cons, List.map_nil, Bool.and_self, Bool.and_true, Bool.true_and, Bool.not_true, Bool.not_false, Bool.or_false, Bool.false_or, cond_true, cond_false, okPack, okPut, okPutBlks, okPutCells, q_isP, q_isAg, q_isBox, q_isArr, q_int, q_bool, q_str, q_sl, q_nils, e_exit, e_ret, e_nrm, e_ret_exit, e_exit_ret, e_nrm_exit, e_nrm_ret, e_exit_nrm, e_ret_nrm, Nat.zero_add, Nat.reduceAdd, noslR, noslP, noslB, noslA, List.all_cons, List.all_nil]

def leadI (l : List Ct) : Nat → Nat → Option Nat
  | 0, _ => none
  | m + 1, k => if actB l k = true then some k else leadI l m (k + 1)
theorem lead_loop {l : List Ct} (h5 : l.length ≤ 5) : ∀ (m k : Nat), k + m = l.length →
    lp E (denC E) 19 0 [] 0 { vals := [AV.sl 3 (ctrs l), AV.int .i64 l.length, AV.int .i64 k], blks := [] } =
      some (match leadI l m k with | some z => (Ex.ret, { vals := [AV.int .i64 (z : Int)], blks := [] }) | none => (Ex.exit 0, { vals := [], blks := [] })) := by
  intro m
  induction m with
  | zero =>
    intro k hk
    rw [r19_0, ctl_dec, if_neg (by omega)]
    rfl
  | succ m ih =>
    intro k hk
    have hkl : k < l.length := by omega
    rw [r19_0, ctl_dec, if_pos (by omega), getE_ctrs hkl]
    simp only [bnd_some, ctl_true, ctl_false, ctl_and, ctl_or', ctl_or2, x_toPV, x_toCs, x_toCs2, x_toEs, x_bEs, x_bCs, x_aPV, x_aCs, x_int, x_bool, x_str, x_es, x_esn, nth_0, nth_1, nth_2, nth_3, nth_4, nth_5, nth_6, nth_7, nth_8, nth_9, y_nil, y_int, y_bool, y_str, y_sl, y_nils, y_agg, y_ownp, y_own, z_nil, z_int, z_bool, z_str, z_sl, z_nils, b_nil, b_arr, b_box1, b_box2, b_box3, b_box4, List.map_cons, List.map_nil, Bool.and_self, Bool.and_true, Bool.true_and, Bool.not_true, Bool.not_false, Bool.or_false, Bool.false_or, cond_true, cond_false, okPack, okPut, okPutBlks, okPutCells, q_isP, q_isAg, q_isBox, q_isArr, q_int, q_bool, q_str, q_sl, q_nils, e_exit, e_ret, e_nrm, e_ret_exit, e_exit_ret, e_nrm_exit, e_nrm_ret, e_exit_nrm, e_ret_nrm, Nat.zero_add, Nat.reduceAdd, noslR, noslP, noslB, noslA, List.all_cons, List.all_nil]
    rw [w64 (n := (k : Int) + 1) (by omega), succ_cast, show ((gt l k).st == 1) = actB l k from rfl]
    unfold leadI
    cases actB l k with
    | true => rfl
    | false => rw [ctl_false, ih (k + 1) (by omega)]; rfl
theorem lead_one {l : List Ct} {j : Nat} (hone : ∀ i, i < l.length → ((gt l i).st = 1 ↔ i = j)) : ∀ (m k : Nat), k + m = l.length → k ≤ j → j < l.length → leadI l m k = some j
  | 0, k, hk, hj, hl => by omega
  | m + 1, k, hk, hj, hl => by
    unfold leadI
    by_cases h : k = j
    · subst h
      rw [if_pos (by unfold actB; rw [(hone k hl).2 rfl]; rfl)]
    · rw [if_neg, lead_one hone m (k + 1) (by omega) (by omega) hl]
      intro ha
      unfold actB at ha
      exact h ((hone k (by omega)).1 (by simpa using ha))
theorem c_leader {l : List Ct} (h5 : l.length ≤ 5) {j : Nat} (hj : j < l.length) (hone : ∀ i, i < l.length → ((gt l i).st = 1 ↔ i = j)) : denC E 19 [AV.sl 3 (ctrs l)] [] = some ([RV.p (PV.int .i64 j)], []) := by
  have h := lead_loop h5 l.length 0 (by omega)
  rw [nc0, lead_one hone l.length 0 (by omega) (by omega) hj] at h
  rw [denC_eq, r19, ctrs_length, h]
  simp only [bnd_some, ctl_true, ctl_false, ctl_and, ctl_or', ctl_or2, x_toPV, x_toCs, x_toCs2, x_toEs, x_bEs, x_bCs, x_aPV, x_aCs, x_int, x_bool, x_str, x_es, x_esn, nth_0, nth_1, nth_2, nth_3, nth_4, nth_5, nth_6, nth_7, nth_8, nth_9, y_nil, y_int, y_bool, y_str, y_sl, y_nils, y_agg, y_ownp, y_own, z_nil, z_int, z_bool, z_str, z_sl, z_nils, b_nil, b_arr, b_box1, b_box2, b_box3, b_box4, List.map_cons, List.map_nil, Bool.and_self, Bool.and_true, Bool.true_and, Bool.not_true, Bool.not_false, Bool.or_false, Bool.false_or, cond_true, cond_false, okPack, okPut, okPutBlks, okPutCells, q_isP, q_isAg, q_isBox, q_isArr, q_int, q_bool, q_str, q_sl, q_nils, e_exit, e_ret, e_nrm, e_ret_exit, e_exit_ret, e_nrm_exit, e_nrm_ret, e_exit_nrm, e_ret_nrm, Nat.zero_add, Nat.reduceAdd, noslR, noslP, noslB, noslA, List.all_cons, List.all_nil]

theorem one_count {l : List Ct} {j : Nat} (hj : j < l.length) (hone : ∀ i, i < l.length → ((gt l i).st = 1 ↔ i = j)) : ((List.range' 0 l.length).filter (actB l)).length = 1 := by
  have : (List.range' 0 l.length).filter (actB l) = (List.range' 0 l.length).filter (fun i => i == j) := List.filter_congr fun i hi => by
    have hil : i < l.length := by simpa using hi
    unfold actB
    rw [Bool.eq_iff_iff]
    simp only [beq_iff_eq]
    exact hone i hil
  rw [this]
  have h2 : ((List.range' 0 l.length).filter (fun i => i == j)).length = (List.range' 0 l.length).count j := by rw [List.count, List.countP_eq_length_filter]
  rw [h2, List.Nodup.count List.nodup_range', if_pos (by simp; exact hj)]
theorem none_count {l : List Ct} (hn : ∀ i, i < l.length → (gt l i).st ≠ 1) : ((List.range' 0 l.length).filter (actB l)).length = 0 := by
  rw [List.length_eq_zero_iff, List.filter_eq_nil_iff]
  intro i hi h
  have hil : i < l.length := by simpa using hi
  unfold actB at h
  exact hn i hil (by simpa using h)

theorem up_loop {l : List Ct} (h5 : l.length ≤ 5) {d a : Int} : ∀ (m k : Nat) (x : Nat), k + m = l.length → x ≤ k →
    lp E (denC E) 4 0 [] 0 { vals := [AV.int .u8 d, AV.sl 3 (ctrs l), AV.int .i64 a, AV.int .i64 x, AV.sl 3 (ctrs l), AV.int .i64 l.length, AV.int .i64 k], blks := [] } =
      some (Ex.exit 0, { vals := [AV.int .u8 d, AV.sl 3 (ctrs l), AV.int .i64 a, AV.int .i64 (x + ((List.range' k m).filter (upB l)).length : Nat)], blks := [] }) := by
  intro m
  induction m with
  | zero =>
    intro k x hk hx
    rw [r4_0, ctl_dec, if_neg (by omega)]
    rfl
  | succ m ih =>
    intro k x hk hx
    have hkl : k < l.length := by omega
    rw [r4_0, ctl_dec, if_pos (by omega), getE_ctrs hkl]
    simp only [bnd_some, ctl_true, ctl_false, ctl_and, ctl_or', ctl_or2, x_toPV, x_toCs, x_toCs2, x_toEs, x_bEs, x_bCs, x_aPV, x_aCs, x_int, x_bool, x_str, x_es, x_esn, nth_0, nth_1, nth_2, nth_3, nth_4, nth_5, nth_6, nth_7, nth_8, nth_9, y_nil, y_int, y_bool, y_str, y_sl, y_nils, y_agg, y_ownp, y_own, z_nil, z_int, z_bool, z_str, z_sl, z_nils, b_nil, b_arr, b_box1, b_box2, b_box3, b_box4, List.map_cons, List.map_nil, Bool.and_self, Bool.and_true, Bool.true_and, Bool.not_true, Bool.not_false, Bool.or_false, Bool.false_or, cond_true, cond_false, okPack, okPut, okPutBlks, okPutCells, q_isP, q_isAg, q_isBox, q_isArr, q_int, q_bool, q_str, q_sl, q_nils, e_exit, e_ret, e_nrm, e_ret_exit, e_exit_ret, e_nrm_exit, e_nrm_ret, e_exit_nrm, e_ret_nrm, Nat.zero_add, Nat.reduceAdd, noslR, noslP, noslB, noslA, List.all_cons, List.all_nil]
    rw [w64 (n := (k : Int) + 1) (by omega), w64 (n := (x : Int) + 1) (by omega), succ_cast, succ_cast, show ((gt l k).st != 2) = upB l k from rfl, List.range'_succ, List.filter_cons]
    cases upB l k with
    | true =>
      rw [ctl_true, ih (k + 1) (x + 1) (by omega) (by omega), if_pos rfl, List.length_cons]
      rw [show x + 1 + ((List.range' (k + 1) m).filter (upB l)).length = x + (((List.range' (k + 1) m).filter (upB l)).length + 1) by omega]
    | false =>
      rw [ctl_false, ih (k + 1) x (by omega) (by omega), if_neg (by simp)]

/-- What holds behind a round, ahead of time k. -/
structure Aft (l : List Ct) (a T k : Nat) : Prop where
  eq : ∃ G, 0 ≤ G ∧ EQ l G
  no : maj l (ups l).length = false → ∀ i, i < l.length → (gt l i).st ≠ 1
  yes : maj l (ups l).length = true → (∃ j, j < l.length ∧ ∀ i, i < l.length → ((gt l i).st = 1 ↔ i = j)) ∨ ((∀ i, i < l.length → (gt l i).st ≠ 1) ∧ (∀ i, i < l.length → (gt l i).hd ≤ a) ∧ k ≤ a + T + 1)

theorem aft_step {l : List Ct} {R : List (List Bool)} {a T k : Nat} {M : Int} (hS : Sq l R) (hF : Full l.length R) (hV : Val l k) (hI : Inv l M) (hak : a ≤ k) (hk : k ≤ 1000) (hh : k = a ∨ Aft l a T k) {o : List Ct} (hst : Rnd l R o) (hVo : Val o k) (ho : electM (t3 l R k) R k T = some o) : Aft o a T (k + 1) := by
  have hu : ups o = ups l := ups_congr hst.len hst.up
  have hm : maj o (ups o).length = maj l (ups l).length := by rw [hu]; unfold maj; rw [hst.len]
  have h1 : ∀ i j, i < o.length → j < o.length → (gt o i).st = 1 → (gt o j).st = 1 → i = j := fun i j hi hj x1 x2 => one_active hI ho (by rw [← hst.len]; exact hi) (by rw [← hst.len]; exact hj) x1 x2
  have dec : (∃ j, j < o.length ∧ ∀ i, i < o.length → ((gt o i).st = 1 ↔ i = j)) ∨ ∀ i, i < o.length → (gt o i).st ≠ 1 := by
    by_cases h : ∃ j, j < o.length ∧ (gt o j).st = 1
    · obtain ⟨j, hj, hs⟩ := h
      exact .inl ⟨j, hj, fun i hi => ⟨fun hi1 => h1 i j hi hj hi1 hs, fun e => e ▸ hs⟩⟩
    · exact .inr fun i hi hs => h ⟨i, hi, hs⟩
  refine ⟨?_, fun hn i hi hs => ?_, fun hy => ?_⟩
  · obtain ⟨G, hG⟩ := round_eq hF ho
    by_cases h : ∃ i, i < o.length ∧ upB o i = true
    · obtain ⟨i, hi, hui⟩ := h
      exact ⟨G, by rw [← hG i hi hui]; exact (hVo.c i hi).2.1.1, hG⟩
    · exact ⟨0, Int.le_refl _, fun i hi hui => (h ⟨i, hi, hui⟩).elim⟩
  · rw [hst.len] at hi
    have hui : upB l i = true := by rw [← hst.up i]; unfold upB; rw [hs]; rfl
    have := hst.act i hi hs
    rw [hears_full hF hi hui, ← hm, hn] at this
    cases this
  · rw [hm] at hy
    rcases dec with h | h
    · exact .inl h
    · right
      rcases hh with rfl | hA
      · exact ⟨h, fun i hi => (hVo.c i hi).2.2.2, by omega⟩
      · rcases hA.yes hy with ⟨j, hj, hone⟩ | ⟨hn, hhd, _⟩
        · exfalso
          obtain ⟨G, hG0, hG⟩ := hA.eq
          obtain ⟨s1, s2⟩ := round_stay (t := (k : Int)) (d := (T : Int)) hF hG0 hG hy hj hone
          rw [s1] at ho
          cases ho
          exact h j (by rw [hst.len]; exact hj) ((s2 j hj).2 rfl)
        · obtain ⟨n3, h3⟩ := round_none (R := R) (t := (k : Int)) (d := (T : Int)) hF hn
          refine ⟨h, fun i hi => ?_, ?_⟩
          · rcases electM_cases (t3 l R k) R k T with ⟨_, hc⟩ | ⟨c, hc, _, hc2⟩
            · rw [hc] at ho
              cases ho
              rw [h3 i (by rw [← hst.len]; exact hi)]
              exact hhd i (by rw [← hst.len]; exact hi)
            · exfalso
              rw [hc2] at ho
              split at ho
              · cases ho
              cases ho
              exact h c (by rw [win_len]; exact cand_lt hc) (by rw [win_gt (cand_lt hc) VL_lt, if_pos rfl])
          · apply Classical.byContradiction
            intro hbig
            obtain ⟨j, hj, hs⟩ := round_elect hV hF hy hn (fun i hi => by have := hhd i hi; omega) ho
            exact h j hj hs

theorem lives_loop {R : List (List Bool)} {a T : Nat} (ha : a ≤ 10) (hT : T ≤ 10) {u : Int} {n : Nat} (hF : Full n R) (hR : R.length = n) (hR2 : ∀ i, i < n → (R.getD i []).length = n) : ∀ (m k : Nat) (l : List Ct) (M : Int), k + m = a + T + 2 → a ≤ k → l.length = n → Val l k → (∀ i, i < l.length → (gt l i).ep ≤ k) → Inv l M → (k = a ∨ Aft l a T k) → (m = 0 → Aft l a T k) →
    ∃ l' M', l'.length = n ∧ (∀ i, upB l' i = upB l i) ∧ Val l' (a + T + 2 : Nat) ∧ (∀ i, i < l'.length → (gt l' i).ep ≤ (a + T + 2 : Nat)) ∧ Inv l' M' ∧ Aft l' a T (a + T + 2) ∧
    lp E (denC E) 4 0 [] 2 { vals := [AV.sl 3 (ctrs l), AV.int .i64 a, AV.int .i64 u, AV.int .i64 T, AV.sl 1 (rch R), AV.int .i64 k], blks := [] } =
      some (Ex.exit 2, { vals := [AV.sl 3 (ctrs l'), AV.int .i64 u, AV.int .i64 T, AV.sl 1 (rch R), AV.int .i64 (a + T + 2 : Nat)], blks := [] }) := by
  intro m
  induction m with
  | zero =>
    intro k l M hk hak hl hV he hI hh h0
    obtain rfl : k = a + T + 2 := by omega
    rw [r4_2, w64 (n := (a : Int) + T) (by omega), w64 (n := (a : Int) + T + 1) (by omega), ctl_dec, if_neg (by omega)]
    exact ⟨l, M, hl, fun _ => rfl, hV, he, hI, h0 rfl, rfl⟩
  | succ m ih =>
    intro k l M hk hak hl hV he hI hh h0
    have hS : Sq l R := ⟨hV.n1, hV.n5, by rw [hl]; exact hR, by rw [hl]; exact hR2⟩
    obtain ⟨o, ho, hst, heo⟩ := tick_step (l := l) (R := R) (t := (k : Int)) (d := (T : Int)) (B := (k : Int)) (by omega) he
    obtain ⟨M', m1, m2, m3⟩ := tick_inv hI ho
    have hVo := tick_val hV (by omega) ho
    have hA := aft_step hS (by rw [hl]; exact hF) hV hI hak (by omega) hh hst hVo ho
    obtain ⟨l', M2, z1, z2, z3, z4, z5, z6, z7⟩ := ih (k + 1) o M' (by omega) (by omega) (by rw [hst.len]; exact hl) (hVo.mono (by omega)) (fun i hi => by have := heo i (by rw [← hst.len]; exact hi); omega) m2 (.inr hA) (fun _ => hA)
    refine ⟨l', M2, z1, fun i => (z2 i).trans (hst.up i), z3, z4, z5, z6, ?_⟩
    rw [r4_2, w64 (n := (a : Int) + T) (by omega), w64 (n := (a : Int) + T + 1) (by omega), ctl_dec, if_pos (by omega), c_Tick hV hS (by omega) (by omega), ho]
    simp only [bnd_some, ctl_true, ctl_false, ctl_and, ctl_or', ctl_or2, x_toPV, x_toCs, x_toCs2, x_toEs, x_bEs, x_bCs, x_aPV, x_aCs, x_int, x_bool, x_str, x_es, x_esn, nth_0, nth_1, nth_2, nth_3, nth_4, nth_5, nth_6, nth_7, nth_8, nth_9, y_nil, y_int, y_bool, y_str, y_sl, y_nils, y_agg, y_ownp, y_own, z_nil, z_int, z_bool, z_str, z_sl, z_nils, b_nil, b_arr, b_box1, b_box2, b_box3, b_box4, List.map_cons, List.map_nil, Bool.and_self, Bool.and_true, Bool.true_and, Bool.not_true, Bool.not_false, Bool.or_false, Bool.false_or, cond_true, cond_false, okPack, okPut, okPutBlks, okPutCells, q_isP, q_isAg, q_isBox, q_isArr, q_int, q_bool, q_str, q_sl, q_nils, e_exit, e_ret, e_nrm, e_ret_exit, e_exit_ret, e_nrm_exit, e_nrm_ret, e_exit_nrm, e_ret_nrm, Nat.zero_add, Nat.reduceAdd, noslR, noslP, noslB, noslA, List.all_cons, List.all_nil]
    rw [show ((0 : Int) != 0) = false from rfl, ctl_false, w64 (n := (k : Int) + 1) (by omega), succ_cast]
    exact z7

theorem d_FailoverLives (t : List Int) (_ : t.length ≤ maxLen) (_ : ∀ n ∈ t, -9223372036854775808 ≤ n ∧ n ≤ 9223372036854775807) (d : Int) (hd : 0 ≤ d ∧ d ≤ 255) :
    denC E 4 [AV.sl 1 (intsK .i64 t), AV.int .u8 d] [] = some ([RV.p (PV.bool true)], []) := by
  rw [denC_eq, r4, c_sane, intsK_length, ctl_dec]
  by_cases h : 600 < (t.length : Int)
  · rw [if_pos h]
    simp only [bnd_some, ctl_true, ctl_false, ctl_and, ctl_or', ctl_or2, x_toPV, x_toCs, x_toCs2, x_toEs, x_bEs, x_bCs, x_aPV, x_aCs, x_int, x_bool, x_str, x_es, x_esn, nth_0, nth_1, nth_2, nth_3, nth_4, nth_5, nth_6, nth_7, nth_8, nth_9, y_nil, y_int, y_bool, y_str, y_sl, y_nils, y_agg, y_ownp, y_own, z_nil, z_int, z_bool, z_str, z_sl, z_nils, b_nil, b_arr, b_box1, b_box2, b_box3, b_box4, List.map_cons, List.map_nil, Bool.and_self, Bool.and_true, Bool.true_and, Bool.not_true, Bool.not_false, Bool.or_false, Bool.false_or, cond_true, cond_false, okPack, okPut, okPutBlks, okPutCells, q_isP, q_isAg, q_isBox, q_isArr, q_int, q_bool, q_str, q_sl, q_nils, e_exit, e_ret, e_nrm, e_ret_exit, e_exit_ret, e_nrm_exit, e_nrm_ret, e_exit_nrm, e_ret_nrm, Nat.zero_add, Nat.reduceAdd, noslR, noslP, noslB, noslA, List.all_cons, List.all_nil]
  · have hL : (t.take 600).length ≤ 600 := by rw [List.length_take]; omega
    have b0 := vN_bounds (L := t.take 600) (k := 0) (n := 8) (by omega)
    have q0 := at'_le (k := 0) hL (by omega)
    obtain ⟨a, hn⟩ : ∃ n : Nat, vN (t.take 600) 0 8 = n := ⟨(vN (t.take 600) 0 8).toNat, by omega⟩
    have hd5 : 0 ≤ d.tmod 5 ∧ d.tmod 5 ≤ 4 := by rw [Int.tmod_eq_emod_of_nonneg hd.1]; omega
    obtain ⟨T, hTn⟩ : ∃ n : Nat, d.tmod 5 = n := ⟨(d.tmod 5).toNat, by omega⟩
    obtain ⟨l, M, q1, g1, hV, he, hI, hc⟩ := c_Elected hL q0 (n := a) (by omega)
    have h5 := hV.n5
    obtain ⟨R, r1, r2, hr⟩ := c_full h5
    have hF : Full l.length R := fun i k hi hk => by
      unfold rb
      rw [r2 i hi]
      simp [List.getD, List.getElem?_replicate, hk]
    have hup := up_loop h5 (d := d) (a := (a : Int)) l.length 0 0 (by omega) (by omega)
    rw [nc0, Nat.zero_add, show ((List.range' 0 l.length).filter (upB l)) = ups l from rfl] at hup
    have hul : (ups l).length ≤ l.length := by
      have := List.length_filter_le (upB l) (List.range' 0 l.length)
      simpa [ups] using this
    obtain ⟨l', M', z1, z2, z3, z4, z5, z6, z7⟩ := lives_loop (R := R) (a := a) (T := T) (by omega) (by omega) (u := ((ups l).length : Nat)) hF r1 (fun i hi => by rw [r2 i hi]; simp) (T + 2) a l M (by omega) (by omega) rfl hV he hI (.inl rfl) (by omega)
    have h5' : l'.length ≤ 5 := by omega
    have hS : Sq l' R := ⟨z3.n1, h5', by rw [z1]; exact r1, by rw [z1]; exact fun i hi => by rw [r2 i hi]; simp⟩
    obtain ⟨o, ho, hst, _⟩ := tick_step (l := l') (R := R) (t := ((a + T + 2 : Nat) : Int)) (d := (T : Int)) (B := ((a + T + 2 : Nat) : Int)) (by omega) z4
    have hu : ups l' = ups l := ups_congr z1 z2
    rw [if_neg h, c_New]
    simp only [bnd_some, ctl_true, ctl_false, ctl_and, ctl_or', ctl_or2, x_toPV, x_toCs, x_toCs2, x_toEs, x_bEs, x_bCs, x_aPV, x_aCs, x_int, x_bool, x_str, x_es, x_esn, nth_0, nth_1, nth_2, nth_3, nth_4, nth_5, nth_6, nth_7, nth_8, nth_9, y_nil, y_int, y_bool, y_str, y_sl, y_nils, y_agg, y_ownp, y_own, z_nil, z_int, z_bool, z_str, z_sl, z_nils, b_nil, b_arr, b_box1, b_box2, b_box3, b_box4, List.map_cons, List.map_nil, Bool.and_self, Bool.and_true, Bool.true_and, Bool.not_true, Bool.not_false, Bool.or_false, Bool.false_or, cond_true, cond_false, okPack, okPut, okPutBlks, okPutCells, q_isP, q_isAg, q_isBox, q_isArr, q_int, q_bool, q_str, q_sl, q_nils, e_exit, e_ret, e_nrm, e_ret_exit, e_exit_ret, e_nrm_exit, e_nrm_ret, e_exit_nrm, e_ret_nrm, Nat.zero_add, Nat.reduceAdd, noslR, noslP, noslB, noslA, List.all_cons, List.all_nil]
    rw [src_zero, c_N hL (by omega) 8 (by omega)]
    simp only [bnd_some, ctl_true, ctl_false, ctl_and, ctl_or', ctl_or2, x_toPV, x_toCs, x_toCs2, x_toEs, x_bEs, x_bCs, x_aPV, x_aCs, x_int, x_bool, x_str, x_es, x_esn, nth_0, nth_1, nth_2, nth_3, nth_4, nth_5, nth_6, nth_7, nth_8, nth_9, y_nil, y_int, y_bool, y_str, y_sl, y_nils, y_agg, y_ownp, y_own, z_nil, z_int, z_bool, z_str, z_sl, z_nils, b_nil, b_arr, b_box1, b_box2, b_box3, b_box4, List.map_cons, List.map_nil, Bool.and_self, Bool.and_true, Bool.true_and, Bool.not_true, Bool.not_false, Bool.or_false, Bool.false_or, cond_true, cond_false, okPack, okPut, okPutBlks, okPutCells, q_isP, q_isAg, q_isBox, q_isArr, q_int, q_bool, q_str, q_sl, q_nils, e_exit, e_ret, e_nrm, e_ret_exit, e_exit_ret, e_nrm_exit, e_nrm_ret, e_exit_nrm, e_ret_nrm, Nat.zero_add, Nat.reduceAdd, noslR, noslP, noslB, noslA, List.all_cons, List.all_nil]
    rw [hn, hc]
    simp only [bnd_some, ctl_true, ctl_false, ctl_and, ctl_or', ctl_or2, x_toPV, x_toCs, x_toCs2, x_toEs, x_bEs, x_bCs, x_aPV, x_aCs, x_int, x_bool, x_str, x_es, x_esn, nth_0, nth_1, nth_2, nth_3, nth_4, nth_5, nth_6, nth_7, nth_8, nth_9, y_nil, y_int, y_bool, y_str, y_sl, y_nils, y_agg, y_ownp, y_own, z_nil, z_int, z_bool, z_str, z_sl, z_nils, b_nil, b_arr, b_box1, b_box2, b_box3, b_box4, List.map_cons, List.map_nil, Bool.and_self, Bool.and_true, Bool.true_and, Bool.not_true, Bool.not_false, Bool.or_false, Bool.false_or, cond_true, cond_false, okPack, okPut, okPutBlks, okPutCells, q_isP, q_isAg, q_isBox, q_isArr, q_int, q_bool, q_str, q_sl, q_nils, e_exit, e_ret, e_nrm, e_ret_exit, e_exit_ret, e_nrm_exit, e_nrm_ret, e_exit_nrm, e_ret_nrm, Nat.zero_add, Nat.reduceAdd, noslR, noslP, noslB, noslA, List.all_cons, List.all_nil]
    rw [ctrs_length, hup]
    simp only [bnd_some, ctl_true, ctl_false, ctl_and, ctl_or', ctl_or2, x_toPV, x_toCs, x_toCs2, x_toEs, x_bEs, x_bCs, x_aPV, x_aCs, x_int, x_bool, x_str, x_es, x_esn, nth_0, nth_1, nth_2, nth_3, nth_4, nth_5, nth_6, nth_7, nth_8, nth_9, y_nil, y_int, y_bool, y_str, y_sl, y_nils, y_agg, y_ownp, y_own, z_nil, z_int, z_bool, z_str, z_sl, z_nils, b_nil, b_arr, b_box1, b_box2, b_box3, b_box4, List.map_cons, List.map_nil, Bool.and_self, Bool.and_true, Bool.true_and, Bool.not_true, Bool.not_false, Bool.or_false, Bool.false_or, cond_true, cond_false, okPack, okPut, okPutBlks, okPutCells, q_isP, q_isAg, q_isBox, q_isArr, q_int, q_bool, q_str, q_sl, q_nils, e_exit, e_ret, e_nrm, e_ret_exit, e_exit_ret, e_nrm_exit, e_nrm_ret, e_exit_nrm, e_ret_nrm, Nat.zero_add, Nat.reduceAdd, noslR, noslP, noslB, noslA, List.all_cons, List.all_nil]
    rw [ctrs_length, hr]
    simp only [bnd_some, ctl_true, ctl_false, ctl_and, ctl_or', ctl_or2, x_toPV, x_toCs, x_toCs2, x_toEs, x_bEs, x_bCs, x_aPV, x_aCs, x_int, x_bool, x_str, x_es, x_esn, nth_0, nth_1, nth_2, nth_3, nth_4, nth_5, nth_6, nth_7, nth_8, nth_9, y_nil, y_int, y_bool, y_str, y_sl, y_nils, y_agg, y_ownp, y_own, z_nil, z_int, z_bool, z_str, z_sl, z_nils, b_nil, b_arr, b_box1, b_box2, b_box3, b_box4, List.map_cons, List.map_nil, Bool.and_self, Bool.and_true, Bool.true_and, Bool.not_true, Bool.not_false, Bool.or_false, Bool.false_or, cond_true, cond_false, okPack, okPut, okPutBlks, okPutCells, q_isP, q_isAg, q_isBox, q_isArr, q_int, q_bool, q_str, q_sl, q_nils, e_exit, e_ret, e_nrm, e_ret_exit, e_exit_ret, e_nrm_exit, e_nrm_ret, e_exit_nrm, e_ret_nrm, Nat.zero_add, Nat.reduceAdd, noslR, noslP, noslB, noslA, List.all_cons, List.all_nil]
    rw [w64 (n := d) (by omega), hTn, z7]
    simp only [bnd_some, ctl_true, ctl_false, ctl_and, ctl_or', ctl_or2, x_toPV, x_toCs, x_toCs2, x_toEs, x_bEs, x_bCs, x_aPV, x_aCs, x_int, x_bool, x_str, x_es, x_esn, nth_0, nth_1, nth_2, nth_3, nth_4, nth_5, nth_6, nth_7, nth_8, nth_9, y_nil, y_int, y_bool, y_str, y_sl, y_nils, y_agg, y_ownp, y_own, z_nil, z_int, z_bool, z_str, z_sl, z_nils, b_nil, b_arr, b_box1, b_box2, b_box3, b_box4, List.map_cons, List.map_nil, Bool.and_self, Bool.and_true, Bool.true_and, Bool.not_true, Bool.not_false, Bool.or_false, Bool.false_or, cond_true, cond_false, okPack, okPut, okPutBlks, okPutCells, q_isP, q_isAg, q_isBox, q_isArr, q_int, q_bool, q_str, q_sl, q_nils, e_exit, e_ret, e_nrm, e_ret_exit, e_exit_ret, e_nrm_exit, e_nrm_ret, e_exit_nrm, e_ret_nrm, Nat.zero_add, Nat.reduceAdd, noslR, noslP, noslB, noslA, List.all_cons, List.all_nil]
    rw [c_Tick z3 hS (by omega) (by omega), ho]
    simp only [bnd_some, ctl_true, ctl_false, ctl_and, ctl_or', ctl_or2, x_toPV, x_toCs, x_toCs2, x_toEs, x_bEs, x_bCs, x_aPV, x_aCs, x_int, x_bool, x_str, x_es, x_esn, nth_0, nth_1, nth_2, nth_3, nth_4, nth_5, nth_6, nth_7, nth_8, nth_9, y_nil, y_int, y_bool, y_str, y_sl, y_nils, y_agg, y_ownp, y_own, z_nil, z_int, z_bool, z_str, z_sl, z_nils, b_nil, b_arr, b_box1, b_box2, b_box3, b_box4, List.map_cons, List.map_nil, Bool.and_self, Bool.and_true, Bool.true_and, Bool.not_true, Bool.not_false, Bool.or_false, Bool.false_or, cond_true, cond_false, okPack, okPut, okPutBlks, okPutCells, q_isP, q_isAg, q_isBox, q_isArr, q_int, q_bool, q_str, q_sl, q_nils, e_exit, e_ret, e_nrm, e_ret_exit, e_exit_ret, e_nrm_exit, e_nrm_ret, e_exit_nrm, e_ret_nrm, Nat.zero_add, Nat.reduceAdd, noslR, noslP, noslB, noslA, List.all_cons, List.all_nil]
    rw [c_isActive h5', ctrs_length, w64 (n := 2 * ((ups l).length : Int)) (by omega)]
    simp only [bnd_some, ctl_true, ctl_false, ctl_and, ctl_or', ctl_or2, x_toPV, x_toCs, x_toCs2, x_toEs, x_bEs, x_bCs, x_aPV, x_aCs, x_int, x_bool, x_str, x_es, x_esn, nth_0, nth_1, nth_2, nth_3, nth_4, nth_5, nth_6, nth_7, nth_8, nth_9, y_nil, y_int, y_bool, y_str, y_sl, y_nils, y_agg, y_ownp, y_own, z_nil, z_int, z_bool, z_str, z_sl, z_nils, b_nil, b_arr, b_box1, b_box2, b_box3, b_box4, List.map_cons, List.map_nil, Bool.and_self, Bool.and_true, Bool.true_and, Bool.not_true, Bool.not_false, Bool.or_false, Bool.false_or, cond_true, cond_false, okPack, okPut, okPutBlks, okPutCells, q_isP, q_isAg, q_isBox, q_isArr, q_int, q_bool, q_str, q_sl, q_nils, e_exit, e_ret, e_nrm, e_ret_exit, e_exit_ret, e_nrm_exit, e_nrm_ret, e_exit_nrm, e_ret_nrm, Nat.zero_add, Nat.reduceAdd, noslR, noslP, noslB, noslA, List.all_cons, List.all_nil]
    have hmj : maj l' (ups l').length = ltB (l'.length : Int) (2 * ((ups l).length : Int)) := by rw [hu]; rfl
    rw [← hmj, show ((0 : Int) == 0) = true from rfl]
    cases hm : maj l' (ups l').length with
    | false =>
      rw [none_count (z6.no hm)]
      rfl
    | true =>
      rcases z6.yes hm with ⟨j, hj, hone⟩ | ⟨_, _, hbad⟩
      · obtain ⟨G, hG0, hG⟩ := z6.eq
        obtain ⟨s1, s2⟩ := round_stay (t := ((a + T + 2 : Nat) : Int)) (d := (T : Int)) (by rw [z1]; exact hF) hG0 hG hm hj hone
        rw [s1] at ho
        cases ho
        have hl3 := t3_len l' R ((a + T + 2 : Nat) : Int)
        rw [one_count hj hone, c_leader h5' hj hone, c_leader (by rw [hl3]; exact h5') (j := j) (by rw [hl3]; exact hj) (fun i hi => s2 i (by rw [← hl3]; exact hi))]
        simp only [bnd_some, ctl_true, ctl_false, ctl_and, ctl_or', ctl_or2, x_toPV, x_toCs, x_toCs2, x_toEs, x_bEs, x_bCs, x_aPV, x_aCs, x_int, x_bool, x_str, x_es, x_esn, nth_0, nth_1, nth_2, nth_3, nth_4, nth_5, nth_6, nth_7, nth_8, nth_9, y_nil, y_int, y_bool, y_str, y_sl, y_nils, y_agg, y_ownp, y_own, z_nil, z_int, z_bool, z_str, z_sl, z_nils, b_nil, b_arr, b_box1, b_box2, b_box3, b_box4, List.map_cons, List.map_nil, Bool.and_self, Bool.and_true, Bool.true_and, Bool.not_true, Bool.not_false, Bool.or_false, Bool.false_or, cond_true, cond_false, okPack, okPut, okPutBlks, okPutCells, q_isP, q_isAg, q_isBox, q_isArr, q_int, q_bool, q_str, q_sl, q_nils, e_exit, e_ret, e_nrm, e_ret_exit, e_exit_ret, e_nrm_exit, e_nrm_ret, e_exit_nrm, e_ret_nrm, Nat.zero_add, Nat.reduceAdd, noslR, noslP, noslB, noslA, List.all_cons, List.all_nil, beq_self_eq_true]
        rfl
      · omega

end Go.Proofs.Ythmhnnppikdafaa.Vm
