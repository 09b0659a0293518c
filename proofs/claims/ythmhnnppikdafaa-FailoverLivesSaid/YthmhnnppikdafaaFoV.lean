import Derived.Test.YthmhnnppikdafaaFoM
/- Chapter 33: epochs over many rounds; Shaken. -/
namespace Go.Proofs.Ythmhnnppikdafaa.Vm
set_option linter.unusedVariables false
set_option linter.unusedSimpArgs false

theorem filter_mono {p q : Nat → Bool} : ∀ {l : List Nat}, (∀ x ∈ l, p x = true → q x = true) → (l.filter p).length ≤ (l.filter q).length
  | [], _ => by simp
  | x :: l, h => by
    have ih := filter_mono (p := p) (q := q) (l := l) fun y hy => h y (by simp [hy])
    have hx := h x (by simp)
    rw [List.filter_cons, List.filter_cons]
    cases hp : p x <;> cases hq : q x <;> simp_all <;> omega

def cnt (l : List Ct) (x : Int) : List Nat := (List.range' 0 l.length).filter fun k => decide (x ≤ (gt l k).ep)
structure Inv (l : List Ct) (most : Int) : Prop where
  m0 : 0 ≤ most
  mj : maj l (cnt l most).length = true
  le : ∀ i, i < l.length → (gt l i).st = 1 → (gt l i).ep ≤ most
  ne : ∀ i j, i < l.length → j < l.length → i ≠ j → (gt l i).st = 1 → (gt l j).st = 1 → (gt l i).ep ≠ (gt l j).ep
theorem cnt_up {l o : List Ct} {x : Int} (hl : o.length = l.length) (h : ∀ i, i < l.length → (gt l i).ep ≤ (gt o i).ep) (hm : maj l (cnt l x).length = true) : maj o (cnt o x).length = true := by
  have h1 : (l.length : Int) < 2 * ((cnt l x).length : Nat) := by simpa [maj] using hm
  have h2 : (cnt l x).length ≤ (cnt o x).length := by
    unfold cnt
    rw [hl]
    refine filter_mono fun y hy hx => ?_
    have hyl : y < l.length := by simpa using hy
    have := h y hyl
    simp only [decide_eq_true_eq] at hx ⊢
    omega
  unfold maj
  rw [hl]
  simp only [decide_eq_true_eq]
  omega

theorem act_t3 {l : List Ct} {R : List (List Bool)} {t : Int} {j : Nat} (hj : j < l.length) (h : (gt (t3 l R t) j).st = 1) : (gt l j).st = 1 ∧ (gt (t3 l R t) j).ep = (gt l j).ep := by
  have h1 := t2_act (R := R) hj (by rw [← t3_st hj]; exact h)
  have h2 := (step_t3 l R t).ep j hj
  have h3 := t3_ep (R := R) (t := t) hj
  exact ⟨h1.1, by omega⟩

theorem tick_inv {l : List Ct} {R : List (List Bool)} {t d most : Int} (hI : Inv l most) {o : List Ct} (ho : electM (t3 l R t) R t d = some o) : ∃ most', most ≤ most' ∧ Inv o most' ∧ ∀ j, j < l.length → (gt o j).st = 1 → (gt l j).st ≠ 1 → most < (gt o j).ep := by
  have hs := step_t3 l R t
  rcases electM_cases (t3 l R t) R t d with ⟨_, h⟩ | ⟨c, hc, hm, h⟩
  · rw [h] at ho
    cases ho
    refine ⟨most, Int.le_refl _, ⟨hI.m0, cnt_up hs.len hs.ep hI.mj, fun i hi h => ?_, fun i j hi hj hij h1 h2 => ?_⟩, fun j hj h1 h2 => (h2 (act_t3 hj h1).1).elim⟩
    · rw [hs.len] at hi
      obtain ⟨a, b⟩ := act_t3 hi h
      rw [b]; exact hI.le i hi a
    · rw [hs.len] at hi hj
      obtain ⟨a, b⟩ := act_t3 hi h1
      obtain ⟨a', b'⟩ := act_t3 hj h2
      rw [b, b']; exact hI.ne i j hi hj hij a a'
  · rw [h] at ho
    split at ho
    · cases ho
    cases ho
    have hcl : c < (t3 l R t).length := cand_lt hc
    have hcl' : c < l.length := by rw [← hs.len]; exact hcl
    obtain ⟨c1, _, _, _⟩ := cand_st hc
    have hg := win_gt (t := t) (e := 1 + great (t3 l R t) 0 (VL (t3 l R t) R t d c ++ [c])) hcl (VL_lt (l := t3 l R t) (R := R) (t := t) (d := d) (c := c))
    have hgm := great_mem (t3 l R t) (VL (t3 l R t) R t d c ++ [c]) 0
    generalize hE : 1 + great (t3 l R t) 0 (VL (t3 l R t) R t d c ++ [c]) = e at *
    have hst : Rnd l R (win (t3 l R t) t c (VL (t3 l R t) R t d c) e) := step_win hc fun i hi => by
      have := hgm i (by rcases hi with h | h <;> simp [h])
      omega
    -- who is active and was not is c
    have act : ∀ j, j < l.length → (gt (win (t3 l R t) t c (VL (t3 l R t) R t d c) e) j).st = 1 → j = c ∨ ((gt (t3 l R t) j).st = 1 ∧ gt (win (t3 l R t) t c (VL (t3 l R t) R t d c) e) j = gt (t3 l R t) j) := fun j hj h1 => by
      by_cases hjc : j = c
      · exact .inl hjc
      · rw [hg, if_neg hjc] at h1 ⊢
        by_cases hv : j ∈ VL (t3 l R t) R t d c
        · exfalso
          rw [if_pos hv] at h1
          have h1' : (gt (t3 l R t) j).st = 1 := h1
          have hjl : j < (t3 l R t).length := by rw [hs.len]; exact hj
          have hu : upB (t3 l R t) j = true := by unfold upB; rw [h1']; rfl
          have hld : leadsB (t3 l R t) R j = true := List.any_eq_true.2 ⟨j, hears_self hjl hu, by unfold actB; rw [h1']; rfl⟩
          have := (VL_mem.1 hv).2
          unfold votes at this
          rw [if_pos hld] at this
          cases this
        · rw [if_neg hv] at h1 ⊢
          exact .inr ⟨h1, rfl⟩
    -- V is a majority, and one of it had the most
    have hVm : (l.length : Int) < 2 * ((VL (t3 l R t) R t d c).length : Nat) := by rw [← hs.len]; simpa [maj] using hm
    have hme : most < e := by
      have h3 := cnt_up hs.len hs.ep hI.mj
      have h3' : (l.length : Int) < 2 * ((cnt (t3 l R t) most).length : Nat) := by rw [← hs.len]; simpa [maj] using h3
      unfold VL votesL at hVm
      unfold cnt at h3'
      rw [hs.len] at hVm h3'
      obtain ⟨x, hx, p1, p2⟩ := meet (by simp) hVm h3'
      have hxl : x < (t3 l R t).length := by rw [hs.len]; simpa using hx
      have hxv : x ∈ VL (t3 l R t) R t d c := VL_mem.2 ⟨hxl, by simpa using p1⟩
      have := hgm x (by simp [hxv])
      simp only [decide_eq_true_eq] at p2
      omega
    have hcnt : maj (win (t3 l R t) t c (VL (t3 l R t) R t d c) e) (cnt (win (t3 l R t) t c (VL (t3 l R t) R t d c) e) e).length = true := by
      have h2 : (VL (t3 l R t) R t d c).length ≤ (cnt (win (t3 l R t) t c (VL (t3 l R t) R t d c) e) e).length := by
        unfold cnt
        rw [win_len]
        refine filter_mono fun x hx hp => ?_
        have hxl : x < (t3 l R t).length := by simpa using hx
        have hxv : x ∈ VL (t3 l R t) R t d c := VL_mem.2 ⟨hxl, by simpa using hp⟩
        simp only [decide_eq_true_eq]
        rw [hg, if_pos hxv]
        split <;> exact Int.le_refl _
      unfold maj
      rw [win_len, hs.len]
      simp only [decide_eq_true_eq]
      omega
    have old : ∀ j, j < l.length → (gt (win (t3 l R t) t c (VL (t3 l R t) R t d c) e) j).st = 1 → j ≠ c → (gt l j).st = 1 ∧ (gt (win (t3 l R t) t c (VL (t3 l R t) R t d c) e) j).ep = (gt l j).ep := fun j hj h1 hjc => by
      rcases act j hj h1 with h | ⟨h3, h4⟩
      · exact (hjc h).elim
      · rw [h4]; exact act_t3 hj h3
    have hce : (gt (win (t3 l R t) t c (VL (t3 l R t) R t d c) e) c).ep = e := by rw [hg, if_pos rfl]
    have hm0 := hI.m0
    refine ⟨e, by omega, ⟨by omega, hcnt, fun i hi h1 => ?_, fun i j hi hj hij h1 h2 => ?_⟩, fun j hj h1 h2 => ?_⟩
    · rw [hst.len] at hi
      by_cases hic : i = c
      · subst hic; rw [hce]; exact Int.le_refl _
      · obtain ⟨a, b⟩ := old i hi h1 hic
        have := hI.le i hi a
        omega
    · rw [hst.len] at hi hj
      by_cases hic : i = c
      · subst hic
        obtain ⟨a, b⟩ := old j hj h2 (fun h => hij h.symm)
        have := hI.le j hj a
        omega
      · obtain ⟨a, b⟩ := old i hi h1 hic
        have h3 := hI.le i hi a
        by_cases hjc : j = c
        · subst hjc; omega
        · obtain ⟨a', b'⟩ := old j hj h2 hjc
          have := hI.ne i j hi hj hij a a'
          omega
    · by_cases hjc : j = c
      · subst hjc; omega
      · exact (h2 (old j hj h1 hjc).1).elim

theorem tick_val {l : List Ct} {R : List (List Bool)} {t d : Int} (hV : Val l t) (ht : 0 ≤ t ∧ t ≤ 2147483648) {o : List Ct} (ho : electM (t3 l R t) R t d = some o) : Val o t := by
  have h3 := hV.t3 (R := R) ht
  rcases electM_cases (t3 l R t) R t d with ⟨_, h⟩ | ⟨c, hc, hm, h⟩
  · rw [h] at ho
    cases ho
    exact h3
  · rw [h] at ho
    split at ho
    · cases ho
    rename_i hbig
    cases ho
    have hcl : c < (t3 l R t).length := cand_lt hc
    have hx : ∀ x ∈ VL (t3 l R t) R t d c ++ [c], x < (t3 l R t).length := fun x hx => by
      rcases List.mem_append.1 hx with h | h
      · exact VL_lt x h
      · rw [List.mem_singleton] at h; rw [h]; exact hcl
    have hgb := great_bd (h3.bd ht.2) _ 0 hx (by omega)
    refine ⟨by rw [win_len]; exact h3.n1, by rw [win_len]; exact h3.n5, fun i hi => ?_⟩
    rw [win_len] at hi
    have hci := h3.c i hi
    rw [win_gt hcl VL_lt]
    split
    · exact ⟨by simp, by simp; omega, by simp; omega⟩
    · split
      · exact ⟨hci.1, by simp; omega, hci.2.2⟩
      · exact hci

/-! ### Crashes and restarts -/
def restartL (l : List Ct) (i : Nat) (t : Int) : List Ct := l.set i ⟨0, (gt l i).ep, t⟩
theorem c_RCrash {l : List Ct} (h5 : l.length ≤ 1000) (i : Nat) : denC E 25 [AV.sl 3 (ctrs l), AV.int .i64 (i : Int)] [] =
    some (if i < l.length ∧ (gt l i).st ≠ 2 then ([RV.p (PV.sl 3 (ctrs (crashL l i))), RV.p (PV.int .i64 0)], []) else ([RV.p (PV.sl 3 []), RV.p (PV.int .i64 (if i < l.length then 11 else 10))], [])) := by
  have e1 : ltB (i : Int) 0 = false := by simp only [decide_eq_false_iff_not]; omega
  have e3 : leN (l.length * 24) 140737488355328 = true := by simp only [decide_eq_true_eq]; omega
  by_cases hi : i < l.length
  · have e2 : leB (l.length : Int) (i : Int) = false := by simp only [decide_eq_false_iff_not]; omega
    rw [denC_eq, r25, ctrs_length, e1, e2, e3, getE_ctrs hi]
    simp only [bnd_some, ctl_true, ctl_false, ctl_and, ctl_or', ctl_or2, x_toPV, x_toCs, x_toCs2, x_toEs, x_bEs, x_bCs, x_aPV, x_aCs, x_int, x_bool, x_str, x_es, x_esn, nth_0, nth_1, nth_2, nth_3, nth_4, nth_5, nth_6, nth_7, nth_8, nth_9, y_nil, y_int, y_bool, y_str, y_sl, y_nils, y_agg, y_ownp, y_own, z_nil, z_int, z_bool, z_str, z_sl, z_nils, b_nil, b_arr, b_box1, b_box2, b_box3, b_box4, List.map_cons, List.map_nil, Bool.and_self, Bool.and_true, Bool.true_and, Bool.not_true, Bool.not_false, Bool.or_false, Bool.false_or, cond_true, cond_false, okPack, okPut, okPutBlks, okPutCells, q_isP, q_isAg, q_isBox, q_isArr, q_int, q_bool, q_str, q_sl, q_nils, e_exit, e_ret, e_nrm, e_ret_exit, e_exit_ret, e_nrm_exit, e_nrm_ret, e_exit_nrm, e_ret_nrm, Nat.zero_add, Nat.reduceAdd, noslR, noslP, noslB, noslA, List.all_cons, List.all_nil]
    rw [in_len hi, Int.toNat_natCast, setEs_st hi]
    by_cases hs : (gt l i).st = 2
    · rw [if_neg (fun h => h.2 hs), if_pos hi, show ((gt l i).st == 2) = true by simpa using hs]
      rfl
    · rw [if_pos ⟨hi, hs⟩, show ((gt l i).st == 2) = false by simpa using hs]
      rfl
  · have e2 : leB (l.length : Int) (i : Int) = true := by simp only [decide_eq_true_eq]; omega
    rw [denC_eq, r25, ctrs_length, e1, e2, if_neg (fun h => hi h.1), if_neg hi]
    simp only [bnd_some, ctl_true, ctl_false, ctl_and, ctl_or', ctl_or2, x_toPV, x_toCs, x_toCs2, x_toEs, x_bEs, x_bCs, x_aPV, x_aCs, x_int, x_bool, x_str, x_es, x_esn, nth_0, nth_1, nth_2, nth_3, nth_4, nth_5, nth_6, nth_7, nth_8, nth_9, y_nil, y_int, y_bool, y_str, y_sl, y_nils, y_agg, y_ownp, y_own, z_nil, z_int, z_bool, z_str, z_sl, z_nils, b_nil, b_arr, b_box1, b_box2, b_box3, b_box4, List.map_cons, List.map_nil, Bool.and_self, Bool.and_true, Bool.true_and, Bool.not_true, Bool.not_false, Bool.or_false, Bool.false_or, cond_true, cond_false, okPack, okPut, okPutBlks, okPutCells, q_isP, q_isAg, q_isBox, q_isArr, q_int, q_bool, q_str, q_sl, q_nils, e_exit, e_ret, e_nrm, e_ret_exit, e_exit_ret, e_nrm_exit, e_nrm_ret, e_exit_nrm, e_ret_nrm, Nat.zero_add, Nat.reduceAdd, noslR, noslP, noslB, noslA, List.all_cons, List.all_nil]

theorem c_RRestart {l : List Ct} (h5 : l.length ≤ 1000) (i : Nat) (t : Int) : ∃ a e, denC E 26 [AV.sl 3 (ctrs l), AV.int .i64 (i : Int), AV.int .i64 t] [] = some ([RV.p (PV.sl 3 (ctrs a)), RV.p (PV.int .i64 e)], []) ∧
    (e ≠ 0 ∨ (i < l.length ∧ (gt l i).st = 2 ∧ (gt l i).hd ≤ t ∧ a = restartL l i t)) := by
  have e1 : ltB (i : Int) 0 = false := by simp only [decide_eq_false_iff_not]; omega
  have e3 : leN (l.length * 24) 140737488355328 = true := by simp only [decide_eq_true_eq]; omega
  by_cases hi : i < l.length
  · have e2 : leB (l.length : Int) (i : Int) = false := by simp only [decide_eq_false_iff_not]; omega
    rw [denC_eq, r26, ctrs_length, e1, e2, e3, getE_ctrs hi]
    simp only [bnd_some, ctl_true, ctl_false, ctl_and, ctl_or', ctl_or2, x_toPV, x_toCs, x_toCs2, x_toEs, x_bEs, x_bCs, x_aPV, x_aCs, x_int, x_bool, x_str, x_es, x_esn, nth_0, nth_1, nth_2, nth_3, nth_4, nth_5, nth_6, nth_7, nth_8, nth_9, y_nil, y_int, y_bool, y_str, y_sl, y_nils, y_agg, y_ownp, y_own, z_nil, z_int, z_bool, z_str, z_sl, z_nils, b_nil, b_arr, b_box1, b_box2, b_box3, b_box4, List.map_cons, List.map_nil, Bool.and_self, Bool.and_true, Bool.true_and, Bool.not_true, Bool.not_false, Bool.or_false, Bool.false_or, cond_true, cond_false, okPack, okPut, okPutBlks, okPutCells, q_isP, q_isAg, q_isBox, q_isArr, q_int, q_bool, q_str, q_sl, q_nils, e_exit, e_ret, e_nrm, e_ret_exit, e_exit_ret, e_nrm_exit, e_nrm_ret, e_exit_nrm, e_ret_nrm, Nat.zero_add, Nat.reduceAdd, noslR, noslP, noslB, noslA, List.all_cons, List.all_nil]
    rw [getE_ctrs hi]
    simp only [bnd_some, ctl_true, ctl_false, ctl_and, ctl_or', ctl_or2, x_toPV, x_toCs, x_toCs2, x_toEs, x_bEs, x_bCs, x_aPV, x_aCs, x_int, x_bool, x_str, x_es, x_esn, nth_0, nth_1, nth_2, nth_3, nth_4, nth_5, nth_6, nth_7, nth_8, nth_9, y_nil, y_int, y_bool, y_str, y_sl, y_nils, y_agg, y_ownp, y_own, z_nil, z_int, z_bool, z_str, z_sl, z_nils, b_nil, b_arr, b_box1, b_box2, b_box3, b_box4, List.map_cons, List.map_nil, Bool.and_self, Bool.and_true, Bool.true_and, Bool.not_true, Bool.not_false, Bool.or_false, Bool.false_or, cond_true, cond_false, okPack, okPut, okPutBlks, okPutCells, q_isP, q_isAg, q_isBox, q_isArr, q_int, q_bool, q_str, q_sl, q_nils, e_exit, e_ret, e_nrm, e_ret_exit, e_exit_ret, e_nrm_exit, e_nrm_ret, e_exit_nrm, e_ret_nrm, Nat.zero_add, Nat.reduceAdd, noslR, noslP, noslB, noslA, List.all_cons, List.all_nil]
    rw [in_len hi, Int.toNat_natCast, setEs_st hi, ctrs_length, List.length_set, in_len hi, setEs_hd (by simpa using hi)]
    by_cases hs : (gt l i).st = 2
    · rw [show ((gt l i).st != 2) = false by simpa using hs, ctl_false]
      by_cases ht : t < (gt l i).hd ∨ 2147483648 < t
      · refine ⟨[], 1, ?_, .inl (by decide)⟩
        have f : (ltB t (gt l i).hd || ltB 2147483648 t) = true := by simp only [Bool.or_eq_true, decide_eq_true_eq]; exact ht
        rw [f]
        rfl
      · have f1 : ltB t (gt l i).hd = false := by simp only [decide_eq_false_iff_not]; omega
        have f2 : ltB 2147483648 t = false := by simp only [decide_eq_false_iff_not]; omega
        rw [f1, f2]
        refine ⟨restartL l i t, 0, ?_, .inr ⟨hi, hs, by omega, rfl⟩⟩
        have hg : gt (l.set i ⟨0, (gt l i).ep, (gt l i).hd⟩) i = ⟨0, (gt l i).ep, (gt l i).hd⟩ := by rw [set_gt hi, if_pos rfl]
        rw [hg, List.set_set]
        rfl
    · rw [show ((gt l i).st != 2) = true by simpa using hs]
      exact ⟨[], 11, rfl, .inl (by decide)⟩
  · have e2 : leB (l.length : Int) (i : Int) = true := by simp only [decide_eq_true_eq]; omega
    rw [denC_eq, r26, ctrs_length, e1, e2]
    exact ⟨[], 10, rfl, .inl (by decide)⟩

/-- What may have happened to the controllers ahead of a round. -/
def Shk (l a : List Ct) (t : Int) : Prop := a = l ∨ (∃ i, i < l.length ∧ (gt l i).st ≠ 2 ∧ a = crashL l i) ∨ ∃ i, i < l.length ∧ (gt l i).st = 2 ∧ (gt l i).hd ≤ t ∧ a = restartL l i t
theorem Shk.len {l a : List Ct} {t : Int} (h : Shk l a t) : a.length = l.length := by
  rcases h with rfl | ⟨i, _, _, rfl⟩ | ⟨i, _, _, _, rfl⟩
  · rfl
  · simp [crashL]
  · simp [restartL]
theorem Shk.get {l a : List Ct} {t : Int} (h : Shk l a t) (j : Nat) : (gt a j).ep = (gt l j).ep ∧ ((gt a j).st = 1 → (gt l j).st = 1) ∧ ((gt a j).hd = (gt l j).hd ∨ ((gt a j).hd = t ∧ j < l.length)) ∧ ((gt a j).st = (gt l j).st ∨ (gt a j).st = 2 ∨ (gt a j).st = 0) := by
  rcases h with rfl | ⟨i, hi, _, rfl⟩ | ⟨i, hi, _, _, rfl⟩
  · exact ⟨rfl, id, .inl rfl, .inl rfl⟩
  · unfold crashL
    rw [set_gt hi]
    by_cases h : j = i
    · subst h; rw [if_pos rfl]; exact ⟨rfl, fun h => absurd h (by show ¬ (2 : Int) = 1; decide), .inl rfl, .inr (.inl rfl)⟩
    · rw [if_neg h]; exact ⟨rfl, id, .inl rfl, .inl rfl⟩
  · unfold restartL
    rw [set_gt hi]
    by_cases h : j = i
    · subst h; rw [if_pos rfl]; exact ⟨rfl, fun h => absurd h (by show ¬ (0 : Int) = 1; decide), .inr ⟨rfl, hi⟩, .inr (.inr rfl)⟩
    · rw [if_neg h]; exact ⟨rfl, id, .inl rfl, .inl rfl⟩
theorem Shk.val {l a : List Ct} {t : Int} (h : Shk l a t) (ht : 0 ≤ t) (hV : Val l t) : Val a t := by
  refine ⟨by rw [h.len]; exact hV.n1, by rw [h.len]; exact hV.n5, fun i hi => ?_⟩
  rw [h.len] at hi
  obtain ⟨h1, h2, h3⟩ := hV.c i hi
  obtain ⟨g1, _, g3, g4⟩ := h.get i
  exact ⟨by omega, by omega, by omega⟩
theorem Val.mono {l : List Ct} {t u : Int} (h : Val l t) (htu : t ≤ u) : Val l u := ⟨h.n1, h.n5, fun i hi => by have := h.c i hi; exact ⟨this.1, this.2.1, this.2.2.1, by have := this.2.2.2; omega⟩⟩
theorem Shk.inv {l a : List Ct} {t m : Int} (h : Shk l a t) (hI : Inv l m) : Inv a m := by
  refine ⟨hI.m0, cnt_up h.len (fun i _ => by rw [(h.get i).1]; exact Int.le_refl _) hI.mj, fun i hi h1 => ?_, fun i j hi hj hij h1 h2 => ?_⟩
  · rw [h.len] at hi
    rw [(h.get i).1]
    exact hI.le i hi ((h.get i).2.1 h1)
  · rw [h.len] at hi hj
    rw [(h.get i).1, (h.get j).1]
    exact hI.ne i j hi hj hij ((h.get i).2.1 h1) ((h.get j).2.1 h2)

theorem c_Shaken {L : List Int} {q : Nat} (hL : L.length ≤ 600) (hq : q ≤ 600) {l : List Ct} (h1 : 1 ≤ l.length) (h5 : l.length ≤ 5) (t : Int) : ∃ a, Shk l a t ∧
    denC E 12 [AV.t (.ptr 0 0), AV.sl 3 (ctrs l), AV.int .i64 t] [src L q] = some ([RV.p (PV.sl 3 (ctrs a))], [src L (at' L q)]) := by
  have hb := vN_bounds (L := L) (k := q) (n := 3 * (l.length : Int)) (by omega)
  have hN := c_N hL hq (3 * (l.length : Int)) (by omega)
  obtain ⟨k, hk⟩ : ∃ k : Nat, vN L q (3 * (l.length : Int)) = k := ⟨(vN L q (3 * (l.length : Int))).toNat, by omega⟩
  rw [hk] at hN
  rw [denC_eq, r12, ctrs_length, w64 (by omega), hN]
  simp only [bnd_some, ctl_true, ctl_false, ctl_and, ctl_or', ctl_or2, x_toPV, x_toCs, x_toCs2, x_toEs, x_bEs, x_bCs, x_aPV, x_aCs, x_int, x_bool, x_str, x_es, x_esn, nth_0, nth_1, nth_2, nth_3, nth_4, nth_5, nth_6, nth_7, nth_8, nth_9, y_nil, y_int, y_bool, y_str, y_sl, y_nils, y_agg, y_ownp, y_own, z_nil, z_int, z_bool, z_str, z_sl, z_nils, b_nil, b_arr, b_box1, b_box2, b_box3, b_box4, List.map_cons, List.map_nil, Bool.and_self, Bool.and_true, Bool.true_and, Bool.not_true, Bool.not_false, Bool.or_false, Bool.false_or, cond_true, cond_false, okPack, okPut, okPutBlks, okPutCells, q_isP, q_isAg, q_isBox, q_isArr, q_int, q_bool, q_str, q_sl, q_nils, e_exit, e_ret, e_nrm, e_ret_exit, e_exit_ret, e_nrm_exit, e_nrm_ret, e_exit_nrm, e_ret_nrm, Nat.zero_add, Nat.reduceAdd, noslR, noslP, noslB, noslA, List.all_cons, List.all_nil]
  rw [c_RCrash (by omega)]
  by_cases hc : k < l.length ∧ (gt l k).st ≠ 2
  · rw [if_pos hc]
    simp only [bnd_some, ctl_true, ctl_false, ctl_and, ctl_or', ctl_or2, x_toPV, x_toCs, x_toCs2, x_toEs, x_bEs, x_bCs, x_aPV, x_aCs, x_int, x_bool, x_str, x_es, x_esn, nth_0, nth_1, nth_2, nth_3, nth_4, nth_5, nth_6, nth_7, nth_8, nth_9, y_nil, y_int, y_bool, y_str, y_sl, y_nils, y_agg, y_ownp, y_own, z_nil, z_int, z_bool, z_str, z_sl, z_nils, b_nil, b_arr, b_box1, b_box2, b_box3, b_box4, List.map_cons, List.map_nil, Bool.and_self, Bool.and_true, Bool.true_and, Bool.not_true, Bool.not_false, Bool.or_false, Bool.false_or, cond_true, cond_false, okPack, okPut, okPutBlks, okPutCells, q_isP, q_isAg, q_isBox, q_isArr, q_int, q_bool, q_str, q_sl, q_nils, e_exit, e_ret, e_nrm, e_ret_exit, e_exit_ret, e_nrm_exit, e_nrm_ret, e_exit_nrm, e_ret_nrm, Nat.zero_add, Nat.reduceAdd, noslR, noslP, noslB, noslA, List.all_cons, List.all_nil, beq_self_eq_true]
    exact ⟨crashL l k, .inr (.inl ⟨k, hc.1, hc.2, rfl⟩), rfl⟩
  · rw [if_neg hc]
    simp only [bnd_some, ctl_true, ctl_false, ctl_and, ctl_or', ctl_or2, x_toPV, x_toCs, x_toCs2, x_toEs, x_bEs, x_bCs, x_aPV, x_aCs, x_int, x_bool, x_str, x_es, x_esn, nth_0, nth_1, nth_2, nth_3, nth_4, nth_5, nth_6, nth_7, nth_8, nth_9, y_nil, y_int, y_bool, y_str, y_sl, y_nils, y_agg, y_ownp, y_own, z_nil, z_int, z_bool, z_str, z_sl, z_nils, b_nil, b_arr, b_box1, b_box2, b_box3, b_box4, List.map_cons, List.map_nil, Bool.and_self, Bool.and_true, Bool.true_and, Bool.not_true, Bool.not_false, Bool.or_false, Bool.false_or, cond_true, cond_false, okPack, okPut, okPutBlks, okPutCells, q_isP, q_isAg, q_isBox, q_isArr, q_int, q_bool, q_str, q_sl, q_nils, e_exit, e_ret, e_nrm, e_ret_exit, e_exit_ret, e_nrm_exit, e_nrm_ret, e_exit_nrm, e_ret_nrm, Nat.zero_add, Nat.reduceAdd, noslR, noslP, noslB, noslA, List.all_cons, List.all_nil]
    have hne : (((if k < l.length then 11 else 10 : Int)) == 0) = false := by split <;> rfl
    obtain ⟨a, e, hr, he⟩ := c_RRestart (l := l) (by omega) k t
    rw [hne, hr]
    simp only [bnd_some, ctl_true, ctl_false, ctl_and, ctl_or', ctl_or2, x_toPV, x_toCs, x_toCs2, x_toEs, x_bEs, x_bCs, x_aPV, x_aCs, x_int, x_bool, x_str, x_es, x_esn, nth_0, nth_1, nth_2, nth_3, nth_4, nth_5, nth_6, nth_7, nth_8, nth_9, y_nil, y_int, y_bool, y_str, y_sl, y_nils, y_agg, y_ownp, y_own, z_nil, z_int, z_bool, z_str, z_sl, z_nils, b_nil, b_arr, b_box1, b_box2, b_box3, b_box4, List.map_cons, List.map_nil, Bool.and_self, Bool.and_true, Bool.true_and, Bool.not_true, Bool.not_false, Bool.or_false, Bool.false_or, cond_true, cond_false, okPack, okPut, okPutBlks, okPutCells, q_isP, q_isAg, q_isBox, q_isArr, q_int, q_bool, q_str, q_sl, q_nils, e_exit, e_ret, e_nrm, e_ret_exit, e_exit_ret, e_nrm_exit, e_nrm_ret, e_exit_nrm, e_ret_nrm, Nat.zero_add, Nat.reduceAdd, noslR, noslP, noslB, noslA, List.all_cons, List.all_nil]
    rcases he with he | ⟨g1, g2, g3, rfl⟩
    · by_cases h0 : e = 0
      · exact (he h0).elim
      · rw [show (e == 0) = false by simpa using h0]
        exact ⟨l, .inl rfl, rfl⟩
    · by_cases h0 : e = 0
      · rw [show (e == 0) = true by simpa using h0]
        exact ⟨_, .inr (.inr ⟨k, g1, g2, g3, rfl⟩), rfl⟩
      · rw [show (e == 0) = false by simpa using h0]
        exact ⟨l, .inl rfl, rfl⟩

end Go.Proofs.Ythmhnnppikdafaa.Vm

/- Chapter 33: contracts of the document's parts. -/
namespace Go.Proofs.Ythmhnnppikdafaa.Vm
set_option linter.unusedVariables false
set_option linter.unusedSimpArgs false

theorem c_in (x lo hi : Int) : denC E 54 [AV.int .i64 x, AV.int .i64 lo, AV.int .i64 hi] [] = some ([RV.p (PV.bool (leB lo x && leB x hi))], []) := by
  rw [denC_eq, r54]
  simp only [bnd_some, ctl_true, ctl_false, ctl_and, ctl_or', ctl_or2, x_toPV, x_toCs, x_toCs2, x_toEs, x_bEs, x_bCs, x_aPV, x_aCs, x_int, x_bool, x_str, x_es, x_esn, nth_0, nth_1, nth_2, nth_3, nth_4, nth_5, nth_6, nth_7, nth_8, nth_9, y_nil, y_int, y_bool, y_str, y_sl, y_nils, y_agg, y_ownp, y_own, z_nil, z_int, z_bool, z_str, z_sl, z_nils, b_nil, b_arr, b_box1, b_box2, b_box3, b_box4, List.map_cons, List.map_nil, Bool.and_self, Bool.and_true, Bool.true_and, Bool.not_true, Bool.not_false, Bool.or_false, Bool.false_or, cond_true, cond_false, okPack, okPut, okPutBlks, okPutCells, q_isP, q_isAg, q_isBox, q_isArr, q_int, q_bool, q_str, q_sl, q_nils, e_exit, e_ret, e_nrm, e_ret_exit, e_exit_ret, e_nrm_exit, e_nrm_ret, e_exit_nrm, e_ret_nrm, Nat.zero_add, Nat.reduceAdd, noslR, noslP, noslB, noslA, List.all_cons, List.all_nil, ctl_and]

theorem c_RMaj {l : List Ct} {n : Nat} (hn : n ≤ 1000) : denC E 57 [AV.sl 3 (ctrs l), AV.int .i64 (n : Int)] [] = some ([RV.p (PV.bool (maj l n))], []) := by
  rw [denC_eq, r57, w64 (by omega), ctrs_length]
  rfl

theorem square_loop {n : Nat} : ∀ (xs pre : List (List Bool)), pre.length + xs.length ≤ 1000 → (∀ r ∈ xs, r.length = n) →
    lp E (denC E) 65 0 [] 0 { vals := [AV.int .i64 n, AV.sl 1 (rch (pre ++ xs)), AV.int .i64 (pre ++ xs).length, AV.int .i64 pre.length], blks := [] } = some (Ex.exit 0, { vals := [], blks := [] }) := by
  intro xs
  induction xs with
  | nil =>
    intro pre hp hx
    rw [r65_0, ctl_dec, if_neg (by simp)]
  | cons x xs ih =>
    intro pre hp hx
    have hxl := hx x (by simp)
    have hg : (pre ++ x :: xs).getD pre.length [] = x := by simp [List.getD]
    simp only [List.length_cons] at hp
    have e1 : (pre.length : Int) + 1 = ((pre ++ [x]).length : Int) := by simp
    have e2 : pre ++ x :: xs = (pre ++ [x]) ++ xs := by simp
    rw [r65_0, ctl_dec, if_pos (by simp; omega), getE_rch (by simp), hg]
    simp only [bnd_some, ctl_true, ctl_false, ctl_and, ctl_or', ctl_or2, x_toPV, x_toCs, x_toCs2, x_toEs, x_bEs, x_bCs, x_aPV, x_aCs, x_int, x_bool, x_str, x_es, x_esn, nth_0, nth_1, nth_2, nth_3, nth_4, nth_5, nth_6, nth_7, nth_8, nth_9, y_nil, y_int, y_bool, y_str, y_sl, y_nils, y_agg, y_ownp, y_own, z_nil, z_int, z_bool, z_str, z_sl, z_nils, b_nil, b_arr, b_box1, b_box2, b_box3, b_box4, List.map_cons, List.map_nil, Bool.and_self, Bool.and_true, Bool.true_and, Bool.not_true, Bool.not_false, Bool.or_false, Bool.false_or, cond_true, cond_false, okPack, okPut, okPutBlks, okPutCells, q_isP, q_isAg, q_isBox, q_isArr, q_int, q_bool, q_str, q_sl, q_nils, e_exit, e_ret, e_nrm, e_ret_exit, e_exit_ret, e_nrm_exit, e_nrm_ret, e_exit_nrm, e_ret_nrm, Nat.zero_add, Nat.reduceAdd, noslR, noslP, noslB, noslA, List.all_cons, List.all_nil]
    rw [List.length_map, hxl, w64 (n := (pre.length : Int) + 1) (by omega), show ((n : Int) != (n : Int)) = false by simp, ctl_false, e1, e2]
    exact ih (pre ++ [x]) (by simp; omega) fun y hy => hx y (by simp [hy])

theorem c_square {l : List Ct} {R : List (List Bool)} (h : Sq l R) : denC E 65 [AV.sl 1 (rch R), AV.int .i64 l.length] [] = some ([RV.p (PV.bool true)], []) := by
  have h5 := h.n5
  have hl := square_loop (n := l.length) R [] (by have := h.r; simp; omega) h.rows
  rw [List.nil_append, List.length_nil, nc0] at hl
  rw [denC_eq, r65, rch_length, hl, h.r, show ((l.length : Int) != (l.length : Int)) = false by simp]
  simp only [bnd_some, ctl_true, ctl_false, ctl_and, ctl_or', ctl_or2, x_toPV, x_toCs, x_toCs2, x_toEs, x_bEs, x_bCs, x_aPV, x_aCs, x_int, x_bool, x_str, x_es, x_esn, nth_0, nth_1, nth_2, nth_3, nth_4, nth_5, nth_6, nth_7, nth_8, nth_9, y_nil, y_int, y_bool, y_str, y_sl, y_nils, y_agg, y_ownp, y_own, z_nil, z_int, z_bool, z_str, z_sl, z_nils, b_nil, b_arr, b_box1, b_box2, b_box3, b_box4, List.map_cons, List.map_nil, Bool.and_self, Bool.and_true, Bool.true_and, Bool.not_true, Bool.not_false, Bool.or_false, Bool.false_or, cond_true, cond_false, okPack, okPut, okPutBlks, okPutCells, q_isP, q_isAg, q_isBox, q_isArr, q_int, q_bool, q_str, q_sl, q_nils, e_exit, e_ret, e_nrm, e_ret_exit, e_exit_ret, e_nrm_exit, e_nrm_ret, e_exit_nrm, e_ret_nrm, Nat.zero_add, Nat.reduceAdd, noslR, noslP, noslB, noslA, List.all_cons, List.all_nil]

theorem rheard_loop {l : List Ct} {R : List (List Bool)} (hS : Sq l R) {i : Nat} (hi : i < l.length) (hu : upB l i = true) : ∀ (m k : Nat) (acc : List Nat), k + m = l.length → acc.length ≤ k →
    lp E (denC E) 56 0 [] 0 { vals := [AV.sl 1 (rch R), AV.int .i64 i, AV.sl 3 (ctrs l), AV.int .i64 l.length, AV.int .i64 k], blks := [Blk.arr 1 (ns acc)] } =
      some (Ex.exit 0, { vals := [], blks := [Blk.arr 1 (ns (acc ++ (List.range' k m).filter (hr l R i)))] }) := by
  have h5 := hS.n5
  intro m
  induction m with
  | zero =>
    intro k acc hk ha
    rw [r56_0, ctl_dec, if_neg (by omega)]
    simp
  | succ m ih =>
    intro k acc hk ha
    have hkl : k < l.length := by omega
    have hl : leN (((ns acc).length + 1) * 8) 140737488355328 = true := by rw [ns_length]; simp only [decide_eq_true_eq]; omega
    rw [r56_0, ctl_dec, if_pos (by omega), getE_ctrs hkl, w64 (n := (k : Int) + 1) (by omega), succ_cast]
    rw [getE_rch (by rw [hS.r]; exact hi), getE_rch (by rw [hS.r]; exact hkl)]
    simp only [bnd_some, ctl_true, ctl_false, ctl_and, ctl_or', ctl_or2, x_toPV, x_toCs, x_toCs2, x_toEs, x_bEs, x_bCs, x_aPV, x_aCs, x_int, x_bool, x_str, x_es, x_esn, nth_0, nth_1, nth_2, nth_3, nth_4, nth_5, nth_6, nth_7, nth_8, nth_9, y_nil, y_int, y_bool, y_str, y_sl, y_nils, y_agg, y_ownp, y_own, z_nil, z_int, z_bool, z_str, z_sl, z_nils, b_nil, b_arr, b_box1, b_box2, b_box3, b_box4, List.map_cons, List.map_nil, Bool.and_self, Bool.and_true, Bool.true_and, Bool.not_true, Bool.not_false, Bool.or_false, Bool.false_or, cond_true, cond_false, okPack, okPut, okPutBlks, okPutCells, q_isP, q_isAg, q_isBox, q_isArr, q_int, q_bool, q_str, q_sl, q_nils, e_exit, e_ret, e_nrm, e_ret_exit, e_exit_ret, e_nrm_exit, e_nrm_ret, e_exit_nrm, e_ret_nrm, Nat.zero_add, Nat.reduceAdd, noslR, noslP, noslB, noslA, List.all_cons, List.all_nil, getE_brow (L := R.getD i []) (i := k) (by rw [hS.c i hi]; exact hkl), getE_brow (L := R.getD k []) (i := i) (by rw [hS.c k hkl]; exact hi), ctl_and, ctl_or', hl]
    have e : (((gt l k).st != 2) && (((k : Int) == i) || (rb R i k || rb R k i))) = hr l R i k := by
      unfold hr
      rw [hu, Bool.true_and, show ((i : Int) == (k : Int)) = ((k : Int) == (i : Int)) by rw [Bool.eq_iff_iff]; simp; omega]
      rfl
    rw [e, List.range'_succ, List.filter_cons]
    cases hh : hr l R i k with
    | true =>
      have en : ns acc ++ [[PV.int IntKind.i64 (k : Int)]] = ns (acc ++ [k]) := by simp [ns]
      rw [ctl_true, en, ih (k + 1) (acc ++ [k]) (by omega) (by simp; omega)]
      simp
    | false =>
      rw [ctl_false, ih (k + 1) acc (by omega) (by omega)]
      simp

theorem hears_down {l : List Ct} {R : List (List Bool)} {i : Nat} (hu : upB l i = false) : hearsL l R i = [] := by
  unfold hearsL
  rw [List.filter_eq_nil_iff]
  intro x _ h
  have := (hr_up h).1
  rw [hu] at this
  cases this

theorem c_RHeard {l : List Ct} {R : List (List Bool)} (hS : Sq l R) {i : Nat} (hi : i < l.length) : denC E 56 [AV.sl 3 (ctrs l), AV.sl 1 (rch R), AV.int .i64 (i : Int)] [] = some ([RV.p (PV.sl 1 (ns (hearsL l R i)))], []) := by
  have e1 : ltB (i : Int) 0 = false := by simp only [decide_eq_false_iff_not]; omega
  have e2 : leB (l.length : Int) (i : Int) = false := by simp only [decide_eq_false_iff_not]; omega
  rw [denC_eq, r56, ctrs_length, e1, e2, c_square hS, getE_ctrs hi]
  simp only [bnd_some, ctl_true, ctl_false, ctl_and, ctl_or', ctl_or2, x_toPV, x_toCs, x_toCs2, x_toEs, x_bEs, x_bCs, x_aPV, x_aCs, x_int, x_bool, x_str, x_es, x_esn, nth_0, nth_1, nth_2, nth_3, nth_4, nth_5, nth_6, nth_7, nth_8, nth_9, y_nil, y_int, y_bool, y_str, y_sl, y_nils, y_agg, y_ownp, y_own, z_nil, z_int, z_bool, z_str, z_sl, z_nils, b_nil, b_arr, b_box1, b_box2, b_box3, b_box4, List.map_cons, List.map_nil, Bool.and_self, Bool.and_true, Bool.true_and, Bool.not_true, Bool.not_false, Bool.or_false, Bool.false_or, cond_true, cond_false, okPack, okPut, okPutBlks, okPutCells, q_isP, q_isAg, q_isBox, q_isArr, q_int, q_bool, q_str, q_sl, q_nils, e_exit, e_ret, e_nrm, e_ret_exit, e_exit_ret, e_nrm_exit, e_nrm_ret, e_exit_nrm, e_ret_nrm, Nat.zero_add, Nat.reduceAdd, noslR, noslP, noslB, noslA, List.all_cons, List.all_nil]
  cases hu : upB l i with
  | false =>
    have : ((gt l i).st == 2) = true := by unfold upB at hu; simpa using hu
    rw [this, hears_down hu]
    rfl
  | true =>
    have h2 : ((gt l i).st == 2) = false := by unfold upB at hu; simpa using hu
    have h := rheard_loop hS hi hu l.length 0 [] (by omega) (by simp)
    rw [show ns [] = [] from rfl, nc0, List.nil_append] at h
    rw [h2, h]
    simp only [bnd_some, ctl_true, ctl_false, ctl_and, ctl_or', ctl_or2, x_toPV, x_toCs, x_toCs2, x_toEs, x_bEs, x_bCs, x_aPV, x_aCs, x_int, x_bool, x_str, x_es, x_esn, nth_0, nth_1, nth_2, nth_3, nth_4, nth_5, nth_6, nth_7, nth_8, nth_9, y_nil, y_int, y_bool, y_str, y_sl, y_nils, y_agg, y_ownp, y_own, z_nil, z_int, z_bool, z_str, z_sl, z_nils, b_nil, b_arr, b_box1, b_box2, b_box3, b_box4, List.map_cons, List.map_nil, Bool.and_self, Bool.and_true, Bool.true_and, Bool.not_true, Bool.not_false, Bool.or_false, Bool.false_or, cond_true, cond_false, okPack, okPut, okPutBlks, okPutCells, q_isP, q_isAg, q_isBox, q_isArr, q_int, q_bool, q_str, q_sl, q_nils, e_exit, e_ret, e_nrm, e_ret_exit, e_exit_ret, e_nrm_exit, e_nrm_ret, e_exit_nrm, e_ret_nrm, Nat.zero_add, Nat.reduceAdd, noslR, noslP, noslB, noslA, List.all_cons, List.all_nil, iT_1]
    rfl

theorem rhears_loop {l : List Ct} : ∀ (xs pre : List Nat), pre.length + xs.length ≤ 1000 → (∀ x ∈ xs, x < l.length) →
    lp E (denC E) 58 0 [] 0 { vals := [AV.sl 3 (ctrs l), AV.sl 1 (ns (pre ++ xs)), AV.int .i64 (pre ++ xs).length, AV.int .i64 pre.length], blks := [] } =
      some (if xs.any (actB l) = true then (Ex.ret, { vals := [AV.bool true], blks := [] }) else (Ex.exit 0, { vals := [], blks := [] })) := by
  intro xs
  induction xs with
  | nil =>
    intro pre hp hx
    rw [r58_0, ctl_dec, if_neg (by simp)]
    rfl
  | cons x xs ih =>
    intro pre hp hx
    have hxl := hx x (by simp)
    have hg : (pre ++ x :: xs).getD pre.length 0 = x := by simp [List.getD]
    simp only [List.length_cons] at hp
    rw [r58_0, ctl_dec, if_pos (by simp; omega), getE_ns (by simp), hg]
    simp only [bnd_some, ctl_true, ctl_false, ctl_and, ctl_or', ctl_or2, x_toPV, x_toCs, x_toCs2, x_toEs, x_bEs, x_bCs, x_aPV, x_aCs, x_int, x_bool, x_str, x_es, x_esn, nth_0, nth_1, nth_2, nth_3, nth_4, nth_5, nth_6, nth_7, nth_8, nth_9, y_nil, y_int, y_bool, y_str, y_sl, y_nils, y_agg, y_ownp, y_own, z_nil, z_int, z_bool, z_str, z_sl, z_nils, b_nil, b_arr, b_box1, b_box2, b_box3, b_box4, List.map_cons, List.map_nil, Bool.and_self, Bool.and_true, Bool.true_and, Bool.not_true, Bool.not_false, Bool.or_false, Bool.false_or, cond_true, cond_false, okPack, okPut, okPutBlks, okPutCells, q_isP, q_isAg, q_isBox, q_isArr, q_int, q_bool, q_str, q_sl, q_nils, e_exit, e_ret, e_nrm, e_ret_exit, e_exit_ret, e_nrm_exit, e_nrm_ret, e_exit_nrm, e_ret_nrm, Nat.zero_add, Nat.reduceAdd, noslR, noslP, noslB, noslA, List.all_cons, List.all_nil]
    rw [getE_ctrs hxl, w64 (n := (pre.length : Int) + 1) (by omega)]
    simp only [bnd_some, ctl_true, ctl_false, ctl_and, ctl_or', ctl_or2, x_toPV, x_toCs, x_toCs2, x_toEs, x_bEs, x_bCs, x_aPV, x_aCs, x_int, x_bool, x_str, x_es, x_esn, nth_0, nth_1, nth_2, nth_3, nth_4, nth_5, nth_6, nth_7, nth_8, nth_9, y_nil, y_int, y_bool, y_str, y_sl, y_nils, y_agg, y_ownp, y_own, z_nil, z_int, z_bool, z_str, z_sl, z_nils, b_nil, b_arr, b_box1, b_box2, b_box3, b_box4, List.map_cons, List.map_nil, Bool.and_self, Bool.and_true, Bool.true_and, Bool.not_true, Bool.not_false, Bool.or_false, Bool.false_or, cond_true, cond_false, okPack, okPut, okPutBlks, okPutCells, q_isP, q_isAg, q_isBox, q_isArr, q_int, q_bool, q_str, q_sl, q_nils, e_exit, e_ret, e_nrm, e_ret_exit, e_exit_ret, e_nrm_exit, e_nrm_ret, e_exit_nrm, e_ret_nrm, Nat.zero_add, Nat.reduceAdd, noslR, noslP, noslB, noslA, List.all_cons, List.all_nil]
    rw [List.any_cons, show ((gt l x).st == 1) = actB l x from rfl]
    cases hb : actB l x with
    | true => rfl
    | false =>
      have e1 : (pre.length : Int) + 1 = ((pre ++ [x]).length : Int) := by simp
      have e2 : pre ++ x :: xs = (pre ++ [x]) ++ xs := by simp
      rw [ctl_false, e1, e2, ih (pre ++ [x]) (by simp; omega) fun y hy => hx y (by simp [hy])]
      simp

theorem c_Rhears {l : List Ct} {R : List (List Bool)} (hS : Sq l R) {i : Nat} (hi : i < l.length) : denC E 58 [AV.sl 3 (ctrs l), AV.sl 1 (rch R), AV.int .i64 (i : Int)] [] = some ([RV.p (PV.bool (leadsB l R i))], []) := by
  have h5 := hS.n5
  have hl := hears_len (l := l) (R := R) i
  have h := rhears_loop (l := l) (hearsL l R i) [] (by simp; omega) fun x hx => hears_lt hx
  rw [List.nil_append, List.length_nil, nc0] at h
  rw [denC_eq, r58, c_RHeard hS hi]
  simp only [bnd_some, ctl_true, ctl_false, ctl_and, ctl_or', ctl_or2, x_toPV, x_toCs, x_toCs2, x_toEs, x_bEs, x_bCs, x_aPV, x_aCs, x_int, x_bool, x_str, x_es, x_esn, nth_0, nth_1, nth_2, nth_3, nth_4, nth_5, nth_6, nth_7, nth_8, nth_9, y_nil, y_int, y_bool, y_str, y_sl, y_nils, y_agg, y_ownp, y_own, z_nil, z_int, z_bool, z_str, z_sl, z_nils, b_nil, b_arr, b_box1, b_box2, b_box3, b_box4, List.map_cons, List.map_nil, Bool.and_self, Bool.and_true, Bool.true_and, Bool.not_true, Bool.not_false, Bool.or_false, Bool.false_or, cond_true, cond_false, okPack, okPut, okPutBlks, okPutCells, q_isP, q_isAg, q_isBox, q_isArr, q_int, q_bool, q_str, q_sl, q_nils, e_exit, e_ret, e_nrm, e_ret_exit, e_exit_ret, e_nrm_exit, e_nrm_ret, e_exit_nrm, e_ret_nrm, Nat.zero_add, Nat.reduceAdd, noslR, noslP, noslB, noslA, List.all_cons, List.all_nil]
  rw [ns_length, h, show (hearsL l R i).any (actB l) = leadsB l R i from rfl]
  cases leadsB l R i <;> rfl

theorem rcand_loop {l : List Ct} {R : List (List Bool)} (hS : Sq l R) (hB : Bd l) {t d : Int} (ht : 0 ≤ t ∧ t ≤ 2147483648) : ∀ (m k : Nat) (acc : List Nat), k + m = l.length → acc.length ≤ k →
    lp E (denC E) 59 0 [] 0 { vals := [AV.sl 3 (ctrs l), AV.sl 1 (rch R), AV.int .i64 t, AV.int .i64 d, AV.sl 3 (ctrs l), AV.int .i64 l.length, AV.int .i64 k], blks := [Blk.arr 1 (ns acc)] } =
      some (Ex.exit 0, { vals := [], blks := [Blk.arr 1 (ns (acc ++ (List.range' k m).filter (candB l R t d)))] }) := by
  have h5 := hS.n5
  intro m
  induction m with
  | zero =>
    intro k acc hk ha
    rw [r59_0, ctl_dec, if_neg (by omega)]
    simp
  | succ m ih =>
    intro k acc hk ha
    have hkl : k < l.length := by omega
    have b1 := hB.hd0 k hkl
    have b2 := hB.hd k hkl
    have hh := hears_len (l := l) (R := R) k
    have hl : leN (((ns acc).length + 1) * 8) 140737488355328 = true := by rw [ns_length]; simp only [decide_eq_true_eq]; omega
    rw [r59_0, ctl_dec, if_pos (by omega), getE_ctrs hkl]
    simp only [bnd_some, ctl_true, ctl_false, ctl_and, ctl_or', ctl_or2, x_toPV, x_toCs, x_toCs2, x_toEs, x_bEs, x_bCs, x_aPV, x_aCs, x_int, x_bool, x_str, x_es, x_esn, nth_0, nth_1, nth_2, nth_3, nth_4, nth_5, nth_6, nth_7, nth_8, nth_9, y_nil, y_int, y_bool, y_str, y_sl, y_nils, y_agg, y_ownp, y_own, z_nil, z_int, z_bool, z_str, z_sl, z_nils, b_nil, b_arr, b_box1, b_box2, b_box3, b_box4, List.map_cons, List.map_nil, Bool.and_self, Bool.and_true, Bool.true_and, Bool.not_true, Bool.not_false, Bool.or_false, Bool.false_or, cond_true, cond_false, okPack, okPut, okPutBlks, okPutCells, q_isP, q_isAg, q_isBox, q_isArr, q_int, q_bool, q_str, q_sl, q_nils, e_exit, e_ret, e_nrm, e_ret_exit, e_exit_ret, e_nrm_exit, e_nrm_ret, e_exit_nrm, e_ret_nrm, Nat.zero_add, Nat.reduceAdd, noslR, noslP, noslB, noslA, List.all_cons, List.all_nil]
    rw [c_RHeard hS hkl, c_Rhears hS hkl, w64 (n := (k : Int) + 1) (by omega), w64 (n := t - (gt l k).hd) (by omega), succ_cast]
    simp only [bnd_some, ctl_true, ctl_false, ctl_and, ctl_or', ctl_or2, x_toPV, x_toCs, x_toCs2, x_toEs, x_bEs, x_bCs, x_aPV, x_aCs, x_int, x_bool, x_str, x_es, x_esn, nth_0, nth_1, nth_2, nth_3, nth_4, nth_5, nth_6, nth_7, nth_8, nth_9, y_nil, y_int, y_bool, y_str, y_sl, y_nils, y_agg, y_ownp, y_own, z_nil, z_int, z_bool, z_str, z_sl, z_nils, b_nil, b_arr, b_box1, b_box2, b_box3, b_box4, List.map_cons, List.map_nil, Bool.and_self, Bool.and_true, Bool.true_and, Bool.not_true, Bool.not_false, Bool.or_false, Bool.false_or, cond_true, cond_false, okPack, okPut, okPutBlks, okPutCells, q_isP, q_isAg, q_isBox, q_isArr, q_int, q_bool, q_str, q_sl, q_nils, e_exit, e_ret, e_nrm, e_ret_exit, e_exit_ret, e_nrm_exit, e_nrm_ret, e_exit_nrm, e_ret_nrm, Nat.zero_add, Nat.reduceAdd, noslR, noslP, noslB, noslA, List.all_cons, List.all_nil]
    rw [ns_length, c_RMaj (by omega)]
    simp only [bnd_some, ctl_true, ctl_false, ctl_and, ctl_or', ctl_or2, x_toPV, x_toCs, x_toCs2, x_toEs, x_bEs, x_bCs, x_aPV, x_aCs, x_int, x_bool, x_str, x_es, x_esn, nth_0, nth_1, nth_2, nth_3, nth_4, nth_5, nth_6, nth_7, nth_8, nth_9, y_nil, y_int, y_bool, y_str, y_sl, y_nils, y_agg, y_ownp, y_own, z_nil, z_int, z_bool, z_str, z_sl, z_nils, b_nil, b_arr, b_box1, b_box2, b_box3, b_box4, List.map_cons, List.map_nil, Bool.and_self, Bool.and_true, Bool.true_and, Bool.not_true, Bool.not_false, Bool.or_false, Bool.false_or, cond_true, cond_false, okPack, okPut, okPutBlks, okPutCells, q_isP, q_isAg, q_isBox, q_isArr, q_int, q_bool, q_str, q_sl, q_nils, e_exit, e_ret, e_nrm, e_ret_exit, e_exit_ret, e_nrm_exit, e_nrm_ret, e_exit_nrm, e_ret_nrm, Nat.zero_add, Nat.reduceAdd, noslR, noslP, noslB, noslA, List.all_cons, List.all_nil, ctl_and, hl]
    rw [List.range'_succ, List.filter_cons]
    have e : candB l R t d k = ((gt l k).st == 0 && ((maj l (hearsL l R k).length && !leadsB l R k) && leB d (t - (gt l k).hd))) := by
      unfold candB
      cases (gt l k).st == 0 <;> rfl
    have en : ns acc ++ [[PV.int IntKind.i64 (k : Int)]] = ns (acc ++ [k]) := by simp [ns]
    rw [e]
    cases h0 : ((gt l k).st == 0) with
    | false =>
      rw [ctl_false, ih (k + 1) acc (by omega) (by omega)]
      simp
    | true =>
      rw [ctl_true, Bool.true_and]
      cases hc : ((maj l (hearsL l R k).length && !leadsB l R k) && leB d (t - (gt l k).hd)) with
      | true =>
        rw [ctl_true, en, ih (k + 1) (acc ++ [k]) (by omega) (by simp; omega)]
        simp
      | false =>
        rw [ctl_false, ih (k + 1) acc (by omega) (by omega)]
        simp

theorem c_Rcand {l : List Ct} {R : List (List Bool)} (hS : Sq l R) (hB : Bd l) {t d : Int} (ht : 0 ≤ t ∧ t ≤ 2147483648) : denC E 59 [AV.sl 3 (ctrs l), AV.sl 1 (rch R), AV.int .i64 t, AV.int .i64 d] [] = some ([RV.p (PV.sl 1 (ns (candL l R t d)))], []) := by
  have h := rcand_loop hS hB (d := d) ht l.length 0 [] (by omega) (by simp)
  rw [show ns [] = [] from rfl, nc0, List.nil_append] at h
  rw [denC_eq, r59, ctrs_length, h]
  simp only [bnd_some, ctl_true, ctl_false, ctl_and, ctl_or', ctl_or2, x_toPV, x_toCs, x_toCs2, x_toEs, x_bEs, x_bCs, x_aPV, x_aCs, x_int, x_bool, x_str, x_es, x_esn, nth_0, nth_1, nth_2, nth_3, nth_4, nth_5, nth_6, nth_7, nth_8, nth_9, y_nil, y_int, y_bool, y_str, y_sl, y_nils, y_agg, y_ownp, y_own, z_nil, z_int, z_bool, z_str, z_sl, z_nils, b_nil, b_arr, b_box1, b_box2, b_box3, b_box4, List.map_cons, List.map_nil, Bool.and_self, Bool.and_true, Bool.true_and, Bool.not_true, Bool.not_false, Bool.or_false, Bool.false_or, cond_true, cond_false, okPack, okPut, okPutBlks, okPutCells, q_isP, q_isAg, q_isBox, q_isArr, q_int, q_bool, q_str, q_sl, q_nils, e_exit, e_ret, e_nrm, e_ret_exit, e_exit_ret, e_nrm_exit, e_nrm_ret, e_exit_nrm, e_ret_nrm, Nat.zero_add, Nat.reduceAdd, noslR, noslP, noslB, noslA, List.all_cons, List.all_nil, iT_1]
  rfl

theorem has_loop {v : Nat} : ∀ (xs pre : List Nat), pre.length + xs.length ≤ 1000 →
    lp E (denC E) 60 0 [] 0 { vals := [AV.int .i64 (v : Int), AV.sl 1 (ns (pre ++ xs)), AV.int .i64 (pre ++ xs).length, AV.int .i64 pre.length], blks := [] } =
      some (if xs.contains v = true then (Ex.ret, { vals := [AV.bool true], blks := [] }) else (Ex.exit 0, { vals := [], blks := [] })) := by
  intro xs
  induction xs with
  | nil =>
    intro pre hp
    rw [r60_0, ctl_dec, if_neg (by simp)]
    rfl
  | cons x xs ih =>
    intro pre hp
    have hg : (pre ++ x :: xs).getD pre.length 0 = x := by simp [List.getD]
    simp only [List.length_cons] at hp
    rw [r60_0, ctl_dec, if_pos (by simp; omega), getE_ns (by simp), hg]
    simp only [bnd_some, ctl_true, ctl_false, ctl_and, ctl_or', ctl_or2, x_toPV, x_toCs, x_toCs2, x_toEs, x_bEs, x_bCs, x_aPV, x_aCs, x_int, x_bool, x_str, x_es, x_esn, nth_0, nth_1, nth_2, nth_3, nth_4, nth_5, nth_6, nth_7, nth_8, nth_9, y_nil, y_int, y_bool, y_str, y_sl, y_nils, y_agg, y_ownp, y_own, z_nil, z_int, z_bool, z_str, z_sl, z_nils, b_nil, b_arr, b_box1, b_box2, b_box3, b_box4, List.map_cons, List.map_nil, Bool.and_self, Bool.and_true, Bool.true_and, Bool.not_true, Bool.not_false, Bool.or_false, Bool.false_or, cond_true, cond_false, okPack, okPut, okPutBlks, okPutCells, q_isP, q_isAg, q_isBox, q_isArr, q_int, q_bool, q_str, q_sl, q_nils, e_exit, e_ret, e_nrm, e_ret_exit, e_exit_ret, e_nrm_exit, e_nrm_ret, e_exit_nrm, e_ret_nrm, Nat.zero_add, Nat.reduceAdd, noslR, noslP, noslB, noslA, List.all_cons, List.all_nil]
    rw [w64 (n := (pre.length : Int) + 1) (by omega)]
    have ev : ((x : Int) == (v : Int)) = (v == x) := by
      rw [Bool.eq_iff_iff]; simp; omega
    rw [ev, List.contains_cons]
    cases hb : (v == x) with
    | true => rfl
    | false =>
      have e1 : (pre.length : Int) + 1 = ((pre ++ [x]).length : Int) := by simp
      have e2 : pre ++ x :: xs = (pre ++ [x]) ++ xs := by simp
      rw [ctl_false, e1, e2, ih (pre ++ [x]) (by simp; omega)]
      simp

theorem c_has (xs : List Nat) (hn : xs.length ≤ 1000) (v : Nat) : denC E 60 [AV.sl 1 (ns xs), AV.int .i64 (v : Int)] [] = some ([RV.p (PV.bool (xs.contains v))], []) := by
  have h := has_loop (v := v) xs [] (by simpa using hn)
  rw [List.nil_append, List.length_nil, nc0] at h
  rw [denC_eq, r60, ns_length, h]
  cases xs.contains v <;> rfl

theorem rcheck_loop {l : List Ct} {t : Int} (hV : Val l t) : ∀ (m k : Nat), k + m = l.length →
    lp E (denC E) 64 0 [] 0 { vals := [AV.int .i64 t, AV.sl 3 (ctrs l), AV.int .i64 l.length, AV.int .i64 k], blks := [] } = some (Ex.exit 0, { vals := [], blks := [] }) := by
  have h5 := hV.n5
  intro m
  induction m with
  | zero =>
    intro k hk
    rw [r64_0, ctl_dec, if_neg (by omega)]
  | succ m ih =>
    intro k hk
    have hkl : k < l.length := by omega
    obtain ⟨h1, h2, h3⟩ := hV.c k hkl
    have f1 : (leB 0 (gt l k).st && leB (gt l k).st 2) = true := by simp only [Bool.and_eq_true, decide_eq_true_eq]; omega
    have f2 : (leB 0 (gt l k).ep && leB (gt l k).ep 2147483648) = true := by simp only [Bool.and_eq_true, decide_eq_true_eq]; omega
    have f3 : (leB 0 (gt l k).hd && leB (gt l k).hd t) = true := by simp only [Bool.and_eq_true, decide_eq_true_eq]; omega
    rw [r64_0, ctl_dec, if_pos (by omega), getE_ctrs hkl]
    simp only [bnd_some, ctl_true, ctl_false, ctl_and, ctl_or', ctl_or2, x_toPV, x_toCs, x_toCs2, x_toEs, x_bEs, x_bCs, x_aPV, x_aCs, x_int, x_bool, x_str, x_es, x_esn, nth_0, nth_1, nth_2, nth_3, nth_4, nth_5, nth_6, nth_7, nth_8, nth_9, y_nil, y_int, y_bool, y_str, y_sl, y_nils, y_agg, y_ownp, y_own, z_nil, z_int, z_bool, z_str, z_sl, z_nils, b_nil, b_arr, b_box1, b_box2, b_box3, b_box4, List.map_cons, List.map_nil, Bool.and_self, Bool.and_true, Bool.true_and, Bool.not_true, Bool.not_false, Bool.or_false, Bool.false_or, cond_true, cond_false, okPack, okPut, okPutBlks, okPutCells, q_isP, q_isAg, q_isBox, q_isArr, q_int, q_bool, q_str, q_sl, q_nils, e_exit, e_ret, e_nrm, e_ret_exit, e_exit_ret, e_nrm_exit, e_nrm_ret, e_exit_nrm, e_ret_nrm, Nat.zero_add, Nat.reduceAdd, noslR, noslP, noslB, noslA, List.all_cons, List.all_nil, c_in]
    rw [f1, f2, f3, w64 (n := (k : Int) + 1) (by omega), succ_cast]
    exact ih (k + 1) (by omega)

theorem c_before {l : List Ct} {R : List (List Bool)} {t d : Int} (hV : Val l t) (hS : Sq l R) (ht : 0 ≤ t ∧ t ≤ 2147483648) (hd : 0 ≤ d ∧ d ≤ 600) : denC E 55 [AV.sl 3 (ctrs l), AV.sl 1 (rch R), AV.int .i64 t, AV.int .i64 d] [] = some ([RV.p (PV.int .i64 0)], []) := by
  have h := rcheck_loop hV l.length 0 (by omega)
  have h1 := hV.n1
  have h5 := hV.n5
  rw [nc0] at h
  have f0 : (leB 1 (l.length : Int) && leB (l.length : Int) 5) = true := by simp only [Bool.and_eq_true, decide_eq_true_eq]; omega
  have f1 : (leB 0 t && leB t 2147483648) = true := by simp only [Bool.and_eq_true, decide_eq_true_eq]; omega
  have f2 : (leB 0 d && leB d 600) = true := by simp only [Bool.and_eq_true, decide_eq_true_eq]; omega
  have hc : denC E 64 [AV.sl 3 (ctrs l), AV.int .i64 t] [] = some ([RV.p (PV.int .i64 0)], []) := by
    rw [denC_eq, r64, ctrs_length, c_in, f0, h]
    simp only [bnd_some, ctl_true, ctl_false, ctl_and, ctl_or', ctl_or2, x_toPV, x_toCs, x_toCs2, x_toEs, x_bEs, x_bCs, x_aPV, x_aCs, x_int, x_bool, x_str, x_es, x_esn, nth_0, nth_1, nth_2, nth_3, nth_4, nth_5, nth_6, nth_7, nth_8, nth_9, y_nil, y_int, y_bool, y_str, y_sl, y_nils, y_agg, y_ownp, y_own, z_nil, z_int, z_bool, z_str, z_sl, z_nils, b_nil, b_arr, b_box1, b_box2, b_box3, b_box4, List.map_cons, List.map_nil, Bool.and_self, Bool.and_true, Bool.true_and, Bool.not_true, Bool.not_false, Bool.or_false, Bool.false_or, cond_true, cond_false, okPack, okPut, okPutBlks, okPutCells, q_isP, q_isAg, q_isBox, q_isArr, q_int, q_bool, q_str, q_sl, q_nils, e_exit, e_ret, e_nrm, e_ret_exit, e_exit_ret, e_nrm_exit, e_nrm_ret, e_exit_nrm, e_ret_nrm, Nat.zero_add, Nat.reduceAdd, noslR, noslP, noslB, noslA, List.all_cons, List.all_nil]
  rw [denC_eq, r55, hc, ctrs_length, c_square hS, c_in, c_in, f1, f2]
  rfl

theorem c_RNew {n : Nat} (h : 1 ≤ n ∧ n ≤ 5) : denC E 33 [AV.int .i64 (n : Int)] [] = some ([RV.p (PV.sl 3 (ctrs (new n))), RV.p (PV.int .i64 0)], []) := by
  have f0 : (leB 1 (n : Int) && leB (n : Int) 5) = true := by simp only [Bool.and_eq_true, decide_eq_true_eq]; omega
  have er : reps [PV.int .i64 0, PV.int .i64 0, PV.int .i64 0] n = ctrs (new n) := by rw [reps_eq]; simp [new, ctrs]
  rw [denC_eq, r33, c_in, f0]
  simp only [bnd_some, ctl_true, ctl_false, ctl_and, ctl_or', ctl_or2, x_toPV, x_toCs, x_toCs2, x_toEs, x_bEs, x_bCs, x_aPV, x_aCs, x_int, x_bool, x_str, x_es, x_esn, nth_0, nth_1, nth_2, nth_3, nth_4, nth_5, nth_6, nth_7, nth_8, nth_9, y_nil, y_int, y_bool, y_str, y_sl, y_nils, y_agg, y_ownp, y_own, z_nil, z_int, z_bool, z_str, z_sl, z_nils, b_nil, b_arr, b_box1, b_box2, b_box3, b_box4, List.map_cons, List.map_nil, Bool.and_self, Bool.and_true, Bool.true_and, Bool.not_true, Bool.not_false, Bool.or_false, Bool.false_or, cond_true, cond_false, okPack, okPut, okPutBlks, okPutCells, q_isP, q_isAg, q_isBox, q_isArr, q_int, q_bool, q_str, q_sl, q_nils, e_exit, e_ret, e_nrm, e_ret_exit, e_exit_ret, e_nrm_exit, e_nrm_ret, e_exit_nrm, e_ret_nrm, Nat.zero_add, Nat.reduceAdd, noslR, noslP, noslB, noslA, List.all_cons, List.all_nil]
  have h1 : (leB 0 (n : Int) && (leB (n : Int) n && (leB (n : Int) 9223372036854775807 && leB ((n : Int) * 24) 140737488355328))) = true := by
    simp only [Bool.and_eq_true, decide_eq_true_eq]; omega
  rw [h1, ctl_true, Int.toNat_natCast, er]

end Go.Proofs.Ythmhnnppikdafaa.Vm

/- Chapter 33: the document's Tick, parts 1 to 3. -/
namespace Go.Proofs.Ythmhnnppikdafaa.Vm
set_option linter.unusedVariables false
set_option linter.unusedSimpArgs false

theorem nth_ctrs {X : List Ct} {i : Nat} (hi : i < X.length) : nth [] (ctrs X) i = ctr (gt X i) := by
  rw [nth_eq]; simp [ctrs, List.getD, hi, gt, ctr]
theorem gt_mid {l D : List Ct} {k : Nat} (hk : k < l.length) (hD : D.length = k) : gt (D ++ l.drop k) k = gt l k := by
  rw [drop_gt hk]
  subst hD
  simp [gt, List.getD]
theorem great_max (l : List Ct) : ∀ (xs : List Nat) (o p : Int), o ≤ p → great l p xs = (if great l o xs < p then p else great l o xs)
  | [], o, p, h => by
    show p = if o < p then p else o
    split <;> omega
  | x :: xs, o, p, h => by
    show great l (maxI (gt l x).ep p) xs = if great l (maxI (gt l x).ep o) xs < p then p else great l (maxI (gt l x).ep o) xs
    have h1 := great_o l xs (maxI (gt l x).ep o)
    by_cases hp : (gt l x).ep > p
    · have e1 : maxI (gt l x).ep p = (gt l x).ep := by unfold maxI; rw [if_pos hp]
      have e2 : maxI (gt l x).ep o = (gt l x).ep := by unfold maxI; rw [if_pos (by omega)]
      rw [e1, e2]
      rw [e2] at h1
      rw [if_neg (by omega)]
    · have e1 : maxI (gt l x).ep p = p := by unfold maxI; rw [if_neg hp]
      rw [e1]
      exact great_max l xs (maxI (gt l x).ep o) p (by unfold maxI; split <;> omega)

theorem learn_in {l : List Ct} {R : List (List Bool)} {t d : Int} {i : Nat} {y z : Int} : ∀ (xs pre : List Nat) (X : List Ct), pre.length + xs.length ≤ 1000 → (∀ x ∈ xs, x < l.length) → i < X.length →
    lp E (denC E) 34 0 [] 2 { vals := [AV.sl 3 (ctrs l), AV.sl 1 (rch R), AV.int .i64 t, AV.int .i64 d, AV.int .i64 i, AV.int .i64 y, AV.int .i64 z, AV.sl 1 (ns (pre ++ xs)), AV.int .i64 (pre ++ xs).length, AV.int .i64 pre.length], blks := [Blk.arr 3 (ctrs X)] } =
      some (Ex.exit 2, { vals := [AV.sl 3 (ctrs l), AV.sl 1 (rch R), AV.int .i64 t, AV.int .i64 d, AV.int .i64 y, AV.int .i64 z], blks := [Blk.arr 3 (ctrs (X.set i ⟨(gt X i).st, great l (gt X i).ep xs, (gt X i).hd⟩))] }) := by
  intro xs
  induction xs with
  | nil =>
    intro pre X hp hx hi
    rw [r34_2, ctl_dec, if_neg (by simp)]
    have : X.set i ⟨(gt X i).st, great l (gt X i).ep [], (gt X i).hd⟩ = X := by
      show X.set i (gt X i) = X
      simp [gt, List.getD, hi]
    rw [this]
  | cons x xs ih =>
    intro pre X hp hx hi
    have hxl := hx x (by simp)
    have hg : (pre ++ x :: xs).getD pre.length 0 = x := by simp [List.getD]
    simp only [List.length_cons] at hp
    have e1 : (pre.length : Int) + 1 = ((pre ++ [x]).length : Int) := by simp
    have e2 : pre ++ x :: xs = (pre ++ [x]) ++ xs := by simp
    rw [r34_2, ctl_dec, if_pos (by simp; omega), getE_ns (by simp), hg]
    simp only [bnd_some, ctl_true, ctl_false, ctl_and, ctl_or', ctl_or2, x_toPV, x_toCs, x_toCs2, x_toEs, x_bEs, x_bCs, x_aPV, x_aCs, x_int, x_bool, x_str, x_es, x_esn, nth_0, nth_1, nth_2, nth_3, nth_4, nth_5, nth_6, nth_7, nth_8, nth_9, y_nil, y_int, y_bool, y_str, y_sl, y_nils, y_agg, y_ownp, y_own, z_nil, z_int, z_bool, z_str, z_sl, z_nils, b_nil, b_arr, b_box1, b_box2, b_box3, b_box4, List.map_cons, List.map_nil, Bool.and_self, Bool.and_true, Bool.true_and, Bool.not_true, Bool.not_false, Bool.or_false, Bool.false_or, cond_true, cond_false, okPack, okPut, okPutBlks, okPutCells, q_isP, q_isAg, q_isBox, q_isArr, q_int, q_bool, q_str, q_sl, q_nils, e_exit, e_ret, e_nrm, e_ret_exit, e_exit_ret, e_nrm_exit, e_nrm_ret, e_exit_nrm, e_ret_nrm, Nat.zero_add, Nat.reduceAdd, noslR, noslP, noslB, noslA, List.all_cons, List.all_nil]
    rw [ctrs_length, in_len hi, Int.toNat_natCast, nth_ctrs hi, getE_ctrs hxl]
    simp only [bnd_some, ctl_true, ctl_false, ctl_and, ctl_or', ctl_or2, x_toPV, x_toCs, x_toCs2, x_toEs, x_bEs, x_bCs, x_aPV, x_aCs, x_int, x_bool, x_str, x_es, x_esn, nth_0, nth_1, nth_2, nth_3, nth_4, nth_5, nth_6, nth_7, nth_8, nth_9, y_nil, y_int, y_bool, y_str, y_sl, y_nils, y_agg, y_ownp, y_own, z_nil, z_int, z_bool, z_str, z_sl, z_nils, b_nil, b_arr, b_box1, b_box2, b_box3, b_box4, List.map_cons, List.map_nil, Bool.and_self, Bool.and_true, Bool.true_and, Bool.not_true, Bool.not_false, Bool.or_false, Bool.false_or, cond_true, cond_false, okPack, okPut, okPutBlks, okPutCells, q_isP, q_isAg, q_isBox, q_isArr, q_int, q_bool, q_str, q_sl, q_nils, e_exit, e_ret, e_nrm, e_ret_exit, e_exit_ret, e_nrm_exit, e_nrm_ret, e_exit_nrm, e_ret_nrm, Nat.zero_add, Nat.reduceAdd, noslR, noslP, noslB, noslA, List.all_cons, List.all_nil, List.drop_succ_cons, List.drop_zero, List.take_succ_cons, List.take_zero]
    rw [setEs_ep hi, w64 (n := (pre.length : Int) + 1) (by omega), e1, e2, ih (pre ++ [x]) _ (by simp; omega) (fun y hy => hx y (by simp [hy])) (by simpa using hi)]
    rw [set_gt hi, if_pos rfl, List.set_set]
    rfl

theorem t1_map (l : List Ct) (R : List (List Bool)) : t1 l R = (List.range' 0 l.length).map (eachC l (learnC l R)) := rfl

theorem learn_out {l : List Ct} {R : List (List Bool)} (hS : Sq l R) (hB : Bd l) {t d : Int} : ∀ (m k : Nat) (D : List Ct), k + m = l.length → D.length = k →
    lp E (denC E) 34 0 [] 0 { vals := [AV.sl 3 (ctrs l), AV.sl 1 (rch R), AV.int .i64 t, AV.int .i64 d, AV.int .i64 l.length, AV.int .i64 k], blks := [Blk.arr 3 (ctrs (D ++ l.drop k))] } =
      some (Ex.exit 0, { vals := [AV.sl 3 (ctrs l), AV.sl 1 (rch R), AV.int .i64 t, AV.int .i64 d], blks := [Blk.arr 3 (ctrs (D ++ (List.range' k m).map (eachC l (learnC l R))))] }) := by
  have h5 := hS.n5
  intro m
  induction m with
  | zero =>
    intro k D hk hD
    rw [r34_0, ctl_dec, if_neg (by omega), List.drop_eq_nil_of_le (by omega)]
    simp
  | succ m ih =>
    intro k D hk hD
    have hkl : k < l.length := by omega
    have hkX : k < (D ++ l.drop k).length := by simp; omega
    have hlen := hears_len (l := l) (R := R) k
    have h := learn_in (l := l) (R := R) (t := t) (d := d) (i := k) (y := (l.length : Int)) (z := (k : Int)) (hearsL l R k) [] (D ++ l.drop k) (by simp; omega) (fun x hx => hears_lt hx) hkX
    rw [List.nil_append, List.length_nil, nc0, gt_mid hkl hD, each_set hkl hD] at h
    have he : (⟨(gt l k).st, great l (gt l k).ep (hearsL l R k), (gt l k).hd⟩ : Ct) = eachC l (learnC l R) k := by
      unfold eachC
      cases hu : upB l k with
      | false => rw [if_neg (by simp), hears_down hu]; rfl
      | true =>
        rw [if_pos rfl]
        unfold learnC
        have h0 := hB.ep0 k hkl
        have h1 := great_mem l (hearsL l R k) 0 k (hears_self hkl hu)
        rw [great_max l _ 0 _ h0, if_neg (by omega)]
    rw [r34_0, ctl_dec, if_pos (by omega), c_RHeard hS hkl]
    simp only [bnd_some, ctl_true, ctl_false, ctl_and, ctl_or', ctl_or2, x_toPV, x_toCs, x_toCs2, x_toEs, x_bEs, x_bCs, x_aPV, x_aCs, x_int, x_bool, x_str, x_es, x_esn, nth_0, nth_1, nth_2, nth_3, nth_4, nth_5, nth_6, nth_7, nth_8, nth_9, y_nil, y_int, y_bool, y_str, y_sl, y_nils, y_agg, y_ownp, y_own, z_nil, z_int, z_bool, z_str, z_sl, z_nils, b_nil, b_arr, b_box1, b_box2, b_box3, b_box4, List.map_cons, List.map_nil, Bool.and_self, Bool.and_true, Bool.true_and, Bool.not_true, Bool.not_false, Bool.or_false, Bool.false_or, cond_true, cond_false, okPack, okPut, okPutBlks, okPutCells, q_isP, q_isAg, q_isBox, q_isArr, q_int, q_bool, q_str, q_sl, q_nils, e_exit, e_ret, e_nrm, e_ret_exit, e_exit_ret, e_nrm_exit, e_nrm_ret, e_exit_nrm, e_ret_nrm, Nat.zero_add, Nat.reduceAdd, noslR, noslP, noslB, noslA, List.all_cons, List.all_nil]
    rw [ns_length, h]
    simp only [bnd_some, ctl_true, ctl_false, ctl_and, ctl_or', ctl_or2, x_toPV, x_toCs, x_toCs2, x_toEs, x_bEs, x_bCs, x_aPV, x_aCs, x_int, x_bool, x_str, x_es, x_esn, nth_0, nth_1, nth_2, nth_3, nth_4, nth_5, nth_6, nth_7, nth_8, nth_9, y_nil, y_int, y_bool, y_str, y_sl, y_nils, y_agg, y_ownp, y_own, z_nil, z_int, z_bool, z_str, z_sl, z_nils, b_nil, b_arr, b_box1, b_box2, b_box3, b_box4, List.map_cons, List.map_nil, Bool.and_self, Bool.and_true, Bool.true_and, Bool.not_true, Bool.not_false, Bool.or_false, Bool.false_or, cond_true, cond_false, okPack, okPut, okPutBlks, okPutCells, q_isP, q_isAg, q_isBox, q_isArr, q_int, q_bool, q_str, q_sl, q_nils, e_exit, e_ret, e_nrm, e_ret_exit, e_exit_ret, e_nrm_exit, e_nrm_ret, e_exit_nrm, e_ret_nrm, Nat.zero_add, Nat.reduceAdd, noslR, noslP, noslB, noslA, List.all_cons, List.all_nil, iT_3]
    rw [w64 (n := (k : Int) + 1) (by omega), succ_cast, he, ih (k + 1) _ (by omega) (by simp; omega), List.range'_succ, List.map_cons]
    simp

theorem down_loop {l o X : List Ct} {R : List (List Bool)} {t d : Int} {i : Nat} {c : Ct} {y z : Int} (ho : o.length ≤ 5) : ∀ (xs pre : List Nat) (b : Bool), pre.length + xs.length ≤ 1000 → (∀ x ∈ xs, x < o.length) →
    lp E (denC E) 34 0 [] 6 { vals := [AV.sl 3 (ctrs l), AV.sl 1 (rch R), AV.int .i64 t, AV.int .i64 d, AV.sl 3 (ctrs o), AV.int .i64 i, AV.bool b, AV.sl 3 (ctrs o), AV.int .i64 y, AV.int .i64 z, AV.sl 1 (ns (pre ++ xs)), AV.int .i64 (pre ++ xs).length, AV.int .i64 pre.length], blks := [Blk.arr 3 (ctrs X), Blk.box [AV.int .i64 c.st, AV.int .i64 c.ep, AV.int .i64 c.hd]] } =
      some (Ex.exit 6, { vals := [AV.sl 3 (ctrs l), AV.sl 1 (rch R), AV.int .i64 t, AV.int .i64 d, AV.sl 3 (ctrs o), AV.int .i64 i, AV.bool (b || xs.any (rival o i c)), AV.sl 3 (ctrs o), AV.int .i64 y, AV.int .i64 z], blks := [Blk.arr 3 (ctrs X)] }) := by
  intro xs
  induction xs with
  | nil =>
    intro pre b hp hx
    rw [r34_6, ctl_dec, if_neg (by simp)]
    simp
  | cons x xs ih =>
    intro pre b hp hx
    have hxl := hx x (by simp)
    have hg : (pre ++ x :: xs).getD pre.length 0 = x := by simp [List.getD]
    simp only [List.length_cons] at hp
    have e1 : (pre.length : Int) + 1 = ((pre ++ [x]).length : Int) := by simp
    have e2 : pre ++ x :: xs = (pre ++ [x]) ++ xs := by simp
    rw [r34_6, ctl_dec, if_pos (by simp; omega), getE_ns (by simp), hg]
    simp only [bnd_some, ctl_true, ctl_false, ctl_and, ctl_or', ctl_or2, x_toPV, x_toCs, x_toCs2, x_toEs, x_bEs, x_bCs, x_aPV, x_aCs, x_int, x_bool, x_str, x_es, x_esn, nth_0, nth_1, nth_2, nth_3, nth_4, nth_5, nth_6, nth_7, nth_8, nth_9, y_nil, y_int, y_bool, y_str, y_sl, y_nils, y_agg, y_ownp, y_own, z_nil, z_int, z_bool, z_str, z_sl, z_nils, b_nil, b_arr, b_box1, b_box2, b_box3, b_box4, List.map_cons, List.map_nil, Bool.and_self, Bool.and_true, Bool.true_and, Bool.not_true, Bool.not_false, Bool.or_false, Bool.false_or, cond_true, cond_false, okPack, okPut, okPutBlks, okPutCells, q_isP, q_isAg, q_isBox, q_isArr, q_int, q_bool, q_str, q_sl, q_nils, e_exit, e_ret, e_nrm, e_ret_exit, e_exit_ret, e_nrm_exit, e_nrm_ret, e_exit_nrm, e_ret_nrm, Nat.zero_add, Nat.reduceAdd, noslR, noslP, noslB, noslA, List.all_cons, List.all_nil]
    rw [getE_ctrs hxl]
    simp only [bnd_some, ctl_true, ctl_false, ctl_and, ctl_or', ctl_or2, x_toPV, x_toCs, x_toCs2, x_toEs, x_bEs, x_bCs, x_aPV, x_aCs, x_int, x_bool, x_str, x_es, x_esn, nth_0, nth_1, nth_2, nth_3, nth_4, nth_5, nth_6, nth_7, nth_8, nth_9, y_nil, y_int, y_bool, y_str, y_sl, y_nils, y_agg, y_ownp, y_own, z_nil, z_int, z_bool, z_str, z_sl, z_nils, b_nil, b_arr, b_box1, b_box2, b_box3, b_box4, List.map_cons, List.map_nil, Bool.and_self, Bool.and_true, Bool.true_and, Bool.not_true, Bool.not_false, Bool.or_false, Bool.false_or, cond_true, cond_false, okPack, okPut, okPutBlks, okPutCells, q_isP, q_isAg, q_isBox, q_isArr, q_int, q_bool, q_str, q_sl, q_nils, e_exit, e_ret, e_nrm, e_ret_exit, e_exit_ret, e_nrm_exit, e_nrm_ret, e_exit_nrm, e_ret_nrm, Nat.zero_add, Nat.reduceAdd, noslR, noslP, noslB, noslA, List.all_cons, List.all_nil]
    rw [getE_ctrs hxl]
    simp only [bnd_some, ctl_true, ctl_false, ctl_and, ctl_or', ctl_or2, x_toPV, x_toCs, x_toCs2, x_toEs, x_bEs, x_bCs, x_aPV, x_aCs, x_int, x_bool, x_str, x_es, x_esn, nth_0, nth_1, nth_2, nth_3, nth_4, nth_5, nth_6, nth_7, nth_8, nth_9, y_nil, y_int, y_bool, y_str, y_sl, y_nils, y_agg, y_ownp, y_own, z_nil, z_int, z_bool, z_str, z_sl, z_nils, b_nil, b_arr, b_box1, b_box2, b_box3, b_box4, List.map_cons, List.map_nil, Bool.and_self, Bool.and_true, Bool.true_and, Bool.not_true, Bool.not_false, Bool.or_false, Bool.false_or, cond_true, cond_false, okPack, okPut, okPutBlks, okPutCells, q_isP, q_isAg, q_isBox, q_isArr, q_int, q_bool, q_str, q_sl, q_nils, e_exit, e_ret, e_nrm, e_ret_exit, e_exit_ret, e_nrm_exit, e_nrm_ret, e_exit_nrm, e_ret_nrm, Nat.zero_add, Nat.reduceAdd, noslR, noslP, noslB, noslA, List.all_cons, List.all_nil, ctl_and, ctl_or']
    have er : (ltB (x : Int) i && ((gt o x).st == 1 && (gt o x).ep == c.ep)) = rival o i c x := by
      unfold rival actB
      rw [Bool.and_assoc]
    rw [er, w64 (n := (pre.length : Int) + 1) (by omega), e1, e2, ih (pre ++ [x]) _ (by simp; omega) fun y hy => hx y (by simp [hy]), List.any_cons, Bool.or_assoc]

theorem yield_out {l o : List Ct} {R : List (List Bool)} (hS : Sq o R) (hl : l.length = o.length) {t d : Int} : ∀ (m k : Nat) (D : List Ct), k + m = o.length → D.length = k →
    lp E (denC E) 34 0 [] 4 { vals := [AV.sl 3 (ctrs l), AV.sl 1 (rch R), AV.int .i64 t, AV.int .i64 d, AV.sl 3 (ctrs o), AV.sl 3 (ctrs o), AV.int .i64 o.length, AV.int .i64 k], blks := [Blk.arr 3 (ctrs (D ++ o.drop k))] } =
      some (Ex.exit 4, { vals := [AV.sl 3 (ctrs l), AV.sl 1 (rch R), AV.int .i64 t, AV.int .i64 d], blks := [Blk.arr 3 (ctrs (D ++ (List.range' k m).map (eachC o (yieldC o R l))))] }) := by
  have h5 := hS.n5
  intro m
  induction m with
  | zero =>
    intro k D hk hD
    rw [r34_4, ctl_dec, if_neg (by omega), List.drop_eq_nil_of_le (by omega)]
    simp
  | succ m ih =>
    intro k D hk hD
    have hkl : k < o.length := by omega
    have hkX : k < (D ++ o.drop k).length := by simp; omega
    have hlen := hears_len (l := o) (R := R) k
    have hm : ∀ n, maj l n = maj o n := fun n => by unfold maj; rw [hl]
    rw [r34_4, ctl_dec, if_pos (by omega), getE_ctrs hkl]
    simp only [bnd_some, ctl_true, ctl_false, ctl_and, ctl_or', ctl_or2, x_toPV, x_toCs, x_toCs2, x_toEs, x_bEs, x_bCs, x_aPV, x_aCs, x_int, x_bool, x_str, x_es, x_esn, nth_0, nth_1, nth_2, nth_3, nth_4, nth_5, nth_6, nth_7, nth_8, nth_9, y_nil, y_int, y_bool, y_str, y_sl, y_nils, y_agg, y_ownp, y_own, z_nil, z_int, z_bool, z_str, z_sl, z_nils, b_nil, b_arr, b_box1, b_box2, b_box3, b_box4, List.map_cons, List.map_nil, Bool.and_self, Bool.and_true, Bool.true_and, Bool.not_true, Bool.not_false, Bool.or_false, Bool.false_or, cond_true, cond_false, okPack, okPut, okPutBlks, okPutCells, q_isP, q_isAg, q_isBox, q_isArr, q_int, q_bool, q_str, q_sl, q_nils, e_exit, e_ret, e_nrm, e_ret_exit, e_exit_ret, e_nrm_exit, e_nrm_ret, e_exit_nrm, e_ret_nrm, Nat.zero_add, Nat.reduceAdd, noslR, noslP, noslB, noslA, List.all_cons, List.all_nil]
    rw [w64 (n := (k : Int) + 1) (by omega), succ_cast, List.range'_succ, List.map_cons]
    by_cases hst : (gt o k).st = 1
    · have hu : upB o k = true := by unfold upB; rw [hst]; rfl
      have ha : actB o k = true := by unfold actB; rw [hst]; rfl
      rw [show ((gt o k).st != 1) = false by rw [hst]; rfl, ctl_false, c_RHeard hS hkl]
      simp only [bnd_some, ctl_true, ctl_false, ctl_and, ctl_or', ctl_or2, x_toPV, x_toCs, x_toCs2, x_toEs, x_bEs, x_bCs, x_aPV, x_aCs, x_int, x_bool, x_str, x_es, x_esn, nth_0, nth_1, nth_2, nth_3, nth_4, nth_5, nth_6, nth_7, nth_8, nth_9, y_nil, y_int, y_bool, y_str, y_sl, y_nils, y_agg, y_ownp, y_own, z_nil, z_int, z_bool, z_str, z_sl, z_nils, b_nil, b_arr, b_box1, b_box2, b_box3, b_box4, List.map_cons, List.map_nil, Bool.and_self, Bool.and_true, Bool.true_and, Bool.not_true, Bool.not_false, Bool.or_false, Bool.false_or, cond_true, cond_false, okPack, okPut, okPutBlks, okPutCells, q_isP, q_isAg, q_isBox, q_isArr, q_int, q_bool, q_str, q_sl, q_nils, e_exit, e_ret, e_nrm, e_ret_exit, e_exit_ret, e_nrm_exit, e_nrm_ret, e_exit_nrm, e_ret_nrm, Nat.zero_add, Nat.reduceAdd, noslR, noslP, noslB, noslA, List.all_cons, List.all_nil]
      rw [ns_length, c_RMaj (by omega), hm, getE_ctrs (by omega)]
      simp only [bnd_some, ctl_true, ctl_false, ctl_and, ctl_or', ctl_or2, x_toPV, x_toCs, x_toCs2, x_toEs, x_bEs, x_bCs, x_aPV, x_aCs, x_int, x_bool, x_str, x_es, x_esn, nth_0, nth_1, nth_2, nth_3, nth_4, nth_5, nth_6, nth_7, nth_8, nth_9, y_nil, y_int, y_bool, y_str, y_sl, y_nils, y_agg, y_ownp, y_own, z_nil, z_int, z_bool, z_str, z_sl, z_nils, b_nil, b_arr, b_box1, b_box2, b_box3, b_box4, List.map_cons, List.map_nil, Bool.and_self, Bool.and_true, Bool.true_and, Bool.not_true, Bool.not_false, Bool.or_false, Bool.false_or, cond_true, cond_false, okPack, okPut, okPutBlks, okPutCells, q_isP, q_isAg, q_isBox, q_isArr, q_int, q_bool, q_str, q_sl, q_nils, e_exit, e_ret, e_nrm, e_ret_exit, e_exit_ret, e_nrm_exit, e_nrm_ret, e_exit_nrm, e_ret_nrm, Nat.zero_add, Nat.reduceAdd, noslR, noslP, noslB, noslA, List.all_cons, List.all_nil, Bool.not_not, ctl_or']
      have hd := down_loop (l := l) (o := o) (X := D ++ o.drop k) (R := R) (t := t) (d := d) (i := k) (c := gt o k) (y := (o.length : Int)) (z := (k : Int)) h5 (hearsL o R k) [] (!maj o (hearsL o R k).length || ltB (gt l k).ep (gt o k).ep) (by simp; omega) fun x hx => hears_lt hx
      rw [List.nil_append, List.length_nil, nc0] at hd
      have ey : ((!maj o (hearsL o R k).length || ltB (gt l k).ep (gt o k).ep) || (hearsL o R k).any (rival o k (gt o k))) = yieldB o R l k (gt o k) := by
        unfold yieldB
        rw [ha, Bool.true_and, Bool.or_assoc]
      rw [ey] at hd
      have hc2 : (ctl (maj o (hearsL o R k).length) (some (ltB (gt l k).ep (gt o k).ep)) (some true)) = some (!maj o (hearsL o R k).length || ltB (gt l k).ep (gt o k).ep) := by
        cases maj o (hearsL o R k).length <;> rfl
      first | rw [hc2] | skip
      simp only [bnd_some, ctl_true, ctl_false, ctl_and, ctl_or', ctl_or2, x_toPV, x_toCs, x_toCs2, x_toEs, x_bEs, x_bCs, x_aPV, x_aCs, x_int, x_bool, x_str, x_es, x_esn, nth_0, nth_1, nth_2, nth_3, nth_4, nth_5, nth_6, nth_7, nth_8, nth_9, y_nil, y_int, y_bool, y_str, y_sl, y_nils, y_agg, y_ownp, y_own, z_nil, z_int, z_bool, z_str, z_sl, z_nils, b_nil, b_arr, b_box1, b_box2, b_box3, b_box4, List.map_cons, List.map_nil, Bool.and_self, Bool.and_true, Bool.true_and, Bool.not_true, Bool.not_false, Bool.or_false, Bool.false_or, cond_true, cond_false, okPack, okPut, okPutBlks, okPutCells, q_isP, q_isAg, q_isBox, q_isArr, q_int, q_bool, q_str, q_sl, q_nils, e_exit, e_ret, e_nrm, e_ret_exit, e_exit_ret, e_nrm_exit, e_nrm_ret, e_exit_nrm, e_ret_nrm, Nat.zero_add, Nat.reduceAdd, noslR, noslP, noslB, noslA, List.all_cons, List.all_nil]
      rw [hd]
      simp only [bnd_some, ctl_true, ctl_false, ctl_and, ctl_or', ctl_or2, x_toPV, x_toCs, x_toCs2, x_toEs, x_bEs, x_bCs, x_aPV, x_aCs, x_int, x_bool, x_str, x_es, x_esn, nth_0, nth_1, nth_2, nth_3, nth_4, nth_5, nth_6, nth_7, nth_8, nth_9, y_nil, y_int, y_bool, y_str, y_sl, y_nils, y_agg, y_ownp, y_own, z_nil, z_int, z_bool, z_str, z_sl, z_nils, b_nil, b_arr, b_box1, b_box2, b_box3, b_box4, List.map_cons, List.map_nil, Bool.and_self, Bool.and_true, Bool.true_and, Bool.not_true, Bool.not_false, Bool.or_false, Bool.false_or, cond_true, cond_false, okPack, okPut, okPutBlks, okPutCells, q_isP, q_isAg, q_isBox, q_isArr, q_int, q_bool, q_str, q_sl, q_nils, e_exit, e_ret, e_nrm, e_ret_exit, e_exit_ret, e_nrm_exit, e_nrm_ret, e_exit_nrm, e_ret_nrm, Nat.zero_add, Nat.reduceAdd, noslR, noslP, noslB, noslA, List.all_cons, List.all_nil, iT_3]
      rw [ctrs_length, in_len hkX, Int.toNat_natCast, setEs_st hkX, gt_mid hkl hD, each_set hkl hD, w64 (n := (k : Int) + 1) (by omega), succ_cast, ctl_true]
      have e0 : eachC o (yieldC o R l) k = if yieldB o R l k (gt o k) = true then ⟨0, (gt o k).ep, (gt o k).hd⟩ else gt o k := by
        unfold eachC yieldC
        rw [if_pos hu]
      rw [e0]
      cases yieldB o R l k (gt o k) with
      | true =>
        rw [ctl_true, if_pos rfl, ih (k + 1) _ (by omega) (by simp; omega)]
        simp
      | false =>
        rw [ctl_false, if_neg (by simp), each_skip hkl, ih (k + 1) _ (by omega) (by simp; omega)]
        simp
    · have e0 : eachC o (yieldC o R l) k = gt o k := by
        unfold eachC
        split
        · unfold yieldC yieldB
          rw [show actB o k = false by unfold actB; simpa using hst, Bool.false_and, if_neg (by simp)]
        · rfl
      rw [show ((gt o k).st != 1) = true by simpa using hst, ctl_true, e0, each_skip hkl, ih (k + 1) _ (by omega) (by simp; omega)]
      simp

theorem listen_out {l o : List Ct} {R : List (List Bool)} (hS : Sq o R) {t d : Int} : ∀ (m k : Nat) (D : List Ct), k + m = o.length → D.length = k →
    lp E (denC E) 34 0 [] 8 { vals := [AV.sl 3 (ctrs l), AV.sl 1 (rch R), AV.int .i64 t, AV.int .i64 d, AV.sl 3 (ctrs o), AV.int .i64 o.length, AV.int .i64 k], blks := [Blk.arr 3 (ctrs (D ++ o.drop k))] } =
      some (Ex.exit 8, { vals := [AV.sl 3 (ctrs l), AV.sl 1 (rch R), AV.int .i64 t, AV.int .i64 d], blks := [Blk.arr 3 (ctrs (D ++ (List.range' k m).map (eachC o (listenC o R t))))] }) := by
  have h5 := hS.n5
  intro m
  induction m with
  | zero =>
    intro k D hk hD
    rw [r34_8, ctl_dec, if_neg (by omega), List.drop_eq_nil_of_le (by omega)]
    simp
  | succ m ih =>
    intro k D hk hD
    have hkl : k < o.length := by omega
    have hkX : k < (D ++ o.drop k).length := by simp; omega
    have e0 : eachC o (listenC o R t) k = if leadsB o R k = true then ⟨(gt o k).st, (gt o k).ep, t⟩ else gt o k := by
      unfold eachC listenC
      cases hu : upB o k with
      | true => rw [if_pos rfl]
      | false =>
        have : leadsB o R k = false := by unfold leadsB; rw [hears_down hu]; rfl
        rw [if_neg (by simp), this, if_neg (by simp)]
    rw [r34_8, ctl_dec, if_pos (by omega), c_Rhears hS hkl]
    simp only [bnd_some, ctl_true, ctl_false, ctl_and, ctl_or', ctl_or2, x_toPV, x_toCs, x_toCs2, x_toEs, x_bEs, x_bCs, x_aPV, x_aCs, x_int, x_bool, x_str, x_es, x_esn, nth_0, nth_1, nth_2, nth_3, nth_4, nth_5, nth_6, nth_7, nth_8, nth_9, y_nil, y_int, y_bool, y_str, y_sl, y_nils, y_agg, y_ownp, y_own, z_nil, z_int, z_bool, z_str, z_sl, z_nils, b_nil, b_arr, b_box1, b_box2, b_box3, b_box4, List.map_cons, List.map_nil, Bool.and_self, Bool.and_true, Bool.true_and, Bool.not_true, Bool.not_false, Bool.or_false, Bool.false_or, cond_true, cond_false, okPack, okPut, okPutBlks, okPutCells, q_isP, q_isAg, q_isBox, q_isArr, q_int, q_bool, q_str, q_sl, q_nils, e_exit, e_ret, e_nrm, e_ret_exit, e_exit_ret, e_nrm_exit, e_nrm_ret, e_exit_nrm, e_ret_nrm, Nat.zero_add, Nat.reduceAdd, noslR, noslP, noslB, noslA, List.all_cons, List.all_nil]
    rw [w64 (n := (k : Int) + 1) (by omega), succ_cast, List.range'_succ, List.map_cons, ctrs_length, in_len hkX, Int.toNat_natCast, setEs_hd hkX, gt_mid hkl hD, each_set hkl hD, ctl_true, e0]
    cases leadsB o R k with
    | true =>
      rw [ctl_true, if_pos rfl, ih (k + 1) _ (by omega) (by simp; omega)]
      simp
    | false =>
      rw [ctl_false, if_neg (by simp), each_skip hkl, ih (k + 1) _ (by omega) (by simp; omega)]
      simp

end Go.Proofs.Ythmhnnppikdafaa.Vm

/- Chapter 33: the document's Tick: votes and election. -/
namespace Go.Proofs.Ythmhnnppikdafaa.Vm
set_option linter.unusedVariables false
set_option linter.unusedSimpArgs false

def tabV (X : List (List Nat)) : List (Int × MV) := X.map fun v => ((0 : Int), MV.row (ns v))
theorem tabV_length (X) : (tabV X).length = X.length := by simp [tabV]
theorem tabV_get {X : List (List Nat)} {i : Nat} (h : i < X.length) : nth (0, MV.gone) (tabV X) i = ((0 : Int), MV.row (ns (X.getD i []))) := by
  rw [nth_eq]; simp [tabV, List.getD, h]
theorem tabVs {X : List (List Nat)} {i : Nat} (r : List Nat) : upd (0, MV.row (ns r)) (upd (0, MV.gone) (tabV X) i) i = tabV (X.set i r) := by
  rw [upd_eq, upd_eq, List.set_set]; simp [tabV, List.map_set]
theorem tabV_new (n : Nat) : reps ((0 : Int), MV.row []) n = tabV (List.replicate n []) := by rw [reps_eq]; simp [tabV, ns]
def vrows (X : List (List Nat)) : List (List PV) := X.map fun v => [PV.sl 1 (ns v)]
theorem vrows_length (X) : (vrows X).length = X.length := by simp [vrows]
theorem tabV_frz (X : List (List Nat)) : List.map (fun (x : Int × MV) => [MV.frz 1 x.snd]) (tabV X) = vrows X := by simp [tabV, vrows, MV.frz]
theorem getE_vrows {α : Type} {L : List (List Nat)} {i : Nat} (hi : i < L.length) (K : List PV → Option α) : getE (vrows L) (i : Int) K = K [PV.sl 1 (ns (L.getD i []))] := getE_map (fun v => [PV.sl 1 (ns v)]) [] hi K
theorem setN_eq {X : List (List Nat)} {i : Nat} {r : List Nat} (h : i < X.length) : (X.set i r).getD i [] = r := by simp [List.getD, h]
theorem setN_ne {X : List (List Nat)} {i j : Nat} {r : List Nat} (h : i ≠ j) : (X.set i r).getD j [] = X.getD j [] := by simp [List.getD, List.getElem?_set, h]

def voteIn (hs : List Nat) (i : Nat) (xs : List Nat) (X : List (List Nat)) : List (List Nat) := match xs.find? (hasB hs) with | some c => X.set c (X.getD c [] ++ [i]) | none => X

theorem vote_in {l o : List Ct} {R : List (List Bool)} (hS : Sq o R) {t : Int} {i : Nat} (hi : i < o.length) {all : List Nat} {y z : Int} {X : List (List Nat)} (hX : X.length = o.length) (hX5 : ∀ c, c < o.length → (X.getD c []).length ≤ 100) : ∀ (xs pre : List Nat), pre.length + xs.length ≤ 1000 → (∀ x ∈ xs, x < o.length) →
    lp E (denC E) 34 0 [] 12 { vals := [AV.sl 3 (ctrs l), AV.sl 1 (rch R), AV.int .i64 t, AV.sl 3 (ctrs o), AV.sl 1 (ns all), AV.int .i64 i, AV.int .i64 y, AV.int .i64 z, AV.sl 1 (ns (pre ++ xs)), AV.int .i64 (pre ++ xs).length, AV.int .i64 pre.length], blks := [Blk.tab false 1 (tabV X)] } =
      some (Ex.exit 12, { vals := [AV.sl 3 (ctrs l), AV.sl 1 (rch R), AV.int .i64 t, AV.sl 3 (ctrs o), AV.sl 1 (ns all), AV.int .i64 y, AV.int .i64 z], blks := [Blk.tab false 1 (tabV (voteIn (hearsL o R i) i xs X))] }) := by
  have h5 := hS.n5
  have hlen := hears_len (l := o) (R := R) i
  intro xs
  induction xs with
  | nil =>
    intro pre hp hx
    rw [r34_12, ctl_dec, if_neg (by simp)]
    rfl
  | cons x xs ih =>
    intro pre hp hx
    have hxl := hx x (by simp)
    have hxX : x < X.length := by omega
    have hg : (pre ++ x :: xs).getD pre.length 0 = x := by simp [List.getD]
    simp only [List.length_cons] at hp
    have e1 : (pre.length : Int) + 1 = ((pre ++ [x]).length : Int) := by simp
    have e2 : pre ++ x :: xs = (pre ++ [x]) ++ xs := by simp
    have f1 : (leB 0 (x : Int) && ltB (x : Int) ((tabV X).length : Int)) = true := by rw [tabV_length]; exact in_len hxX
    have f2 : (leB 0 (x : Int) && ltB (x : Int) ((upd (0, MV.gone) (tabV X) x).length : Int)) = true := by rw [upd_eq, List.length_set, tabV_length]; exact in_len hxX
    have f3 : leN (((ns (X.getD x [])).length + 1) * 8) 140737488355328 = true := by have := hX5 x hxl; rw [ns_length]; simp only [decide_eq_true_eq]; omega
    have en : ns (X.getD x []) ++ [[PV.int IntKind.i64 (i : Int)]] = ns (X.getD x [] ++ [i]) := by simp [ns]
    rw [r34_12, ctl_dec, if_pos (by simp; omega), getE_ns (by simp), hg]
    simp only [bnd_some, ctl_true, ctl_false, ctl_and, ctl_or', ctl_or2, x_toPV, x_toCs, x_toCs2, x_toEs, x_bEs, x_bCs, x_aPV, x_aCs, x_int, x_bool, x_str, x_es, x_esn, nth_0, nth_1, nth_2, nth_3, nth_4, nth_5, nth_6, nth_7, nth_8, nth_9, y_nil, y_int, y_bool, y_str, y_sl, y_nils, y_agg, y_ownp, y_own, z_nil, z_int, z_bool, z_str, z_sl, z_nils, b_nil, b_arr, b_box1, b_box2, b_box3, b_box4, List.map_cons, List.map_nil, Bool.and_self, Bool.and_true, Bool.true_and, Bool.not_true, Bool.not_false, Bool.or_false, Bool.false_or, cond_true, cond_false, okPack, okPut, okPutBlks, okPutCells, q_isP, q_isAg, q_isBox, q_isArr, q_int, q_bool, q_str, q_sl, q_nils, e_exit, e_ret, e_nrm, e_ret_exit, e_exit_ret, e_nrm_exit, e_nrm_ret, e_exit_nrm, e_ret_nrm, Nat.zero_add, Nat.reduceAdd, noslR, noslP, noslB, noslA, List.all_cons, List.all_nil]
    rw [c_RHeard hS hi]
    simp only [bnd_some, ctl_true, ctl_false, ctl_and, ctl_or', ctl_or2, x_toPV, x_toCs, x_toCs2, x_toEs, x_bEs, x_bCs, x_aPV, x_aCs, x_int, x_bool, x_str, x_es, x_esn, nth_0, nth_1, nth_2, nth_3, nth_4, nth_5, nth_6, nth_7, nth_8, nth_9, y_nil, y_int, y_bool, y_str, y_sl, y_nils, y_agg, y_ownp, y_own, z_nil, z_int, z_bool, z_str, z_sl, z_nils, b_nil, b_arr, b_box1, b_box2, b_box3, b_box4, List.map_cons, List.map_nil, Bool.and_self, Bool.and_true, Bool.true_and, Bool.not_true, Bool.not_false, Bool.or_false, Bool.false_or, cond_true, cond_false, okPack, okPut, okPutBlks, okPutCells, q_isP, q_isAg, q_isBox, q_isArr, q_int, q_bool, q_str, q_sl, q_nils, e_exit, e_ret, e_nrm, e_ret_exit, e_exit_ret, e_nrm_exit, e_nrm_ret, e_exit_nrm, e_ret_nrm, Nat.zero_add, Nat.reduceAdd, noslR, noslP, noslB, noslA, List.all_cons, List.all_nil]
    rw [c_has _ (by omega)]
    simp only [bnd_some, ctl_true, ctl_false, ctl_and, ctl_or', ctl_or2, x_toPV, x_toCs, x_toCs2, x_toEs, x_bEs, x_bCs, x_aPV, x_aCs, x_int, x_bool, x_str, x_es, x_esn, nth_0, nth_1, nth_2, nth_3, nth_4, nth_5, nth_6, nth_7, nth_8, nth_9, y_nil, y_int, y_bool, y_str, y_sl, y_nils, y_agg, y_ownp, y_own, z_nil, z_int, z_bool, z_str, z_sl, z_nils, b_nil, b_arr, b_box1, b_box2, b_box3, b_box4, List.map_cons, List.map_nil, Bool.and_self, Bool.and_true, Bool.true_and, Bool.not_true, Bool.not_false, Bool.or_false, Bool.false_or, cond_true, cond_false, okPack, okPut, okPutBlks, okPutCells, q_isP, q_isAg, q_isBox, q_isArr, q_int, q_bool, q_str, q_sl, q_nils, e_exit, e_ret, e_nrm, e_ret_exit, e_exit_ret, e_nrm_exit, e_nrm_ret, e_exit_nrm, e_ret_nrm, Nat.zero_add, Nat.reduceAdd, noslR, noslP, noslB, noslA, List.all_cons, List.all_nil]
    rw [Int.toNat_natCast, f1, f2, tabV_get hxX, m_es, m_row, f3, en, tabVs, w64 (n := (pre.length : Int) + 1) (by omega), e1, e2]
    unfold voteIn
    rw [List.find?_cons]
    cases hb : hasB (hearsL o R i) x with
    | true =>
      rw [show (hearsL o R i).contains x = true from hb]
      rfl
    | false =>
      rw [show (hearsL o R i).contains x = false from hb, ctl_false]
      exact ih (pre ++ [x]) (by simp; omega) fun y hy => hx y (by simp [hy])

theorem vote_out {l o : List Ct} {R : List (List Bool)} (hS : Sq o R) {t : Int} {all : List Nat} (hal : all.length ≤ 5) (hall : ∀ c ∈ all, c < o.length) : ∀ (m k : Nat) (X : List (List Nat)), k + m = o.length → X.length = o.length → (∀ c, c < o.length → X.getD c [] = votesL o R all k c) →
    ∃ Y, Y.length = o.length ∧ (∀ c, c < o.length → Y.getD c [] = votesL o R all o.length c) ∧
    lp E (denC E) 34 0 [] 10 { vals := [AV.sl 3 (ctrs l), AV.sl 1 (rch R), AV.int .i64 t, AV.sl 3 (ctrs o), AV.sl 1 (ns all), AV.int .i64 o.length, AV.int .i64 k], blks := [Blk.tab false 1 (tabV X)] } =
      some (Ex.exit 10, { vals := [AV.sl 3 (ctrs l), AV.int .i64 t, AV.sl 3 (ctrs o)], blks := [Blk.tab false 1 (tabV Y)] }) := by
  have h5 := hS.n5
  intro m
  induction m with
  | zero =>
    intro k X hk hX hv
    rw [r34_10, ctl_dec, if_neg (by omega)]
    exact ⟨X, hX, fun c hc => by rw [hv c hc, show o.length = k by omega], rfl⟩
  | succ m ih =>
    intro k X hk hX hv
    have hkl : k < o.length := by omega
    rw [r34_10, ctl_dec, if_pos (by omega), c_Rhears hS hkl]
    simp only [bnd_some, ctl_true, ctl_false, ctl_and, ctl_or', ctl_or2, x_toPV, x_toCs, x_toCs2, x_toEs, x_bEs, x_bCs, x_aPV, x_aCs, x_int, x_bool, x_str, x_es, x_esn, nth_0, nth_1, nth_2, nth_3, nth_4, nth_5, nth_6, nth_7, nth_8, nth_9, y_nil, y_int, y_bool, y_str, y_sl, y_nils, y_agg, y_ownp, y_own, z_nil, z_int, z_bool, z_str, z_sl, z_nils, b_nil, b_arr, b_box1, b_box2, b_box3, b_box4, List.map_cons, List.map_nil, Bool.and_self, Bool.and_true, Bool.true_and, Bool.not_true, Bool.not_false, Bool.or_false, Bool.false_or, cond_true, cond_false, okPack, okPut, okPutBlks, okPutCells, q_isP, q_isAg, q_isBox, q_isArr, q_int, q_bool, q_str, q_sl, q_nils, e_exit, e_ret, e_nrm, e_ret_exit, e_exit_ret, e_nrm_exit, e_nrm_ret, e_exit_nrm, e_ret_nrm, Nat.zero_add, Nat.reduceAdd, noslR, noslP, noslB, noslA, List.all_cons, List.all_nil]
    rw [w64 (n := (k : Int) + 1) (by omega), succ_cast]
    cases hl : leadsB o R k with
    | true =>
      rw [ctl_true]
      exact ih (k + 1) X (by omega) hX fun c hc => by
        rw [hv c hc, votes_succ, show votes o R all k = none by unfold votes; rw [hl]; rfl]; simp
    | false =>
      have hvk : votes o R all k = all.find? (hasB (hearsL o R k)) := by unfold votes; rw [hl]; rfl
      have h := vote_in (l := l) hS (t := t) hkl (all := all) (y := (o.length : Int)) (z := (k : Int)) hX (fun c hc => by rw [hv c hc]; have := votes_len (l := o) (R := R) (all := all) (k := k) (c := c); omega) all [] (by simp; omega) hall
      rw [List.nil_append, List.length_nil, nc0] at h
      rw [ctl_false, ns_length, h]
      simp only [bnd_some, ctl_true, ctl_false, ctl_and, ctl_or', ctl_or2, x_toPV, x_toCs, x_toCs2, x_toEs, x_bEs, x_bCs, x_aPV, x_aCs, x_int, x_bool, x_str, x_es, x_esn, nth_0, nth_1, nth_2, nth_3, nth_4, nth_5, nth_6, nth_7, nth_8, nth_9, y_nil, y_int, y_bool, y_str, y_sl, y_nils, y_agg, y_ownp, y_own, z_nil, z_int, z_bool, z_str, z_sl, z_nils, b_nil, b_arr, b_box1, b_box2, b_box3, b_box4, List.map_cons, List.map_nil, Bool.and_self, Bool.and_true, Bool.true_and, Bool.not_true, Bool.not_false, Bool.or_false, Bool.false_or, cond_true, cond_false, okPack, okPut, okPutBlks, okPutCells, q_isP, q_isAg, q_isBox, q_isArr, q_int, q_bool, q_str, q_sl, q_nils, e_exit, e_ret, e_nrm, e_ret_exit, e_exit_ret, e_nrm_exit, e_nrm_ret, e_exit_nrm, e_ret_nrm, Nat.zero_add, Nat.reduceAdd, noslR, noslP, noslB, noslA, List.all_cons, List.all_nil, iT_f1, k_kvs]
      rw [w64 (n := (k : Int) + 1) (by omega), succ_cast]
      have hX' : (voteIn (hearsL o R k) k all X).length = o.length := by unfold voteIn; split <;> simp [hX]
      refine ih (k + 1) _ (by omega) hX' fun c hc => ?_
      unfold voteIn
      rw [votes_succ, hvk]
      cases hf : all.find? (hasB (hearsL o R k)) with
      | none =>
        show X.getD c [] = _
        rw [hv c hc]; simp
      | some c' =>
        have hc' : c' < o.length := hall c' (List.mem_of_find?_eq_some hf)
        by_cases he : c' = c
        · subst he
          rw [setN_eq (by omega), hv c' hc', if_pos rfl]
        · rw [setN_ne he, hv c hc, if_neg (by simpa using he), List.append_nil]

theorem most_loop {l o out : List Ct} {t : Int} {c : Nat} {V : List (List PV)} {Y : List (List PV)} {y z : Int} (h5 : o.length ≤ 5) : ∀ (xs pre : List Nat) (s : Int), pre.length + xs.length ≤ 1000 → (∀ x ∈ xs, x < o.length) →
    lp E (denC E) 34 0 [] 16 { vals := [AV.sl 3 (ctrs l), AV.int .i64 t, AV.sl 3 (ctrs o), AV.int .i64 c, AV.sl 1 V, AV.int .i64 s, AV.sl 1 Y, AV.int .i64 y, AV.int .i64 z, AV.sl 1 (ns (pre ++ xs)), AV.int .i64 (pre ++ xs).length, AV.int .i64 pre.length], blks := [Blk.arr 3 (ctrs out)] } =
      some (Ex.exit 16, { vals := [AV.sl 3 (ctrs l), AV.int .i64 t, AV.sl 3 (ctrs o), AV.int .i64 c, AV.sl 1 V, AV.int .i64 (great o s xs), AV.sl 1 Y, AV.int .i64 y, AV.int .i64 z], blks := [Blk.arr 3 (ctrs out)] }) := by
  intro xs
  induction xs with
  | nil =>
    intro pre s hp hx
    rw [r34_16, ctl_dec, if_neg (by simp)]
    rfl
  | cons x xs ih =>
    intro pre s hp hx
    have hxl := hx x (by simp)
    have hg : (pre ++ x :: xs).getD pre.length 0 = x := by simp [List.getD]
    simp only [List.length_cons] at hp
    have e1 : (pre.length : Int) + 1 = ((pre ++ [x]).length : Int) := by simp
    have e2 : pre ++ x :: xs = (pre ++ [x]) ++ xs := by simp
    rw [r34_16, ctl_dec, if_pos (by simp; omega), getE_ns (by simp), hg]
    simp only [bnd_some, ctl_true, ctl_false, ctl_and, ctl_or', ctl_or2, x_toPV, x_toCs, x_toCs2, x_toEs, x_bEs, x_bCs, x_aPV, x_aCs, x_int, x_bool, x_str, x_es, x_esn, nth_0, nth_1, nth_2, nth_3, nth_4, nth_5, nth_6, nth_7, nth_8, nth_9, y_nil, y_int, y_bool, y_str, y_sl, y_nils, y_agg, y_ownp, y_own, z_nil, z_int, z_bool, z_str, z_sl, z_nils, b_nil, b_arr, b_box1, b_box2, b_box3, b_box4, List.map_cons, List.map_nil, Bool.and_self, Bool.and_true, Bool.true_and, Bool.not_true, Bool.not_false, Bool.or_false, Bool.false_or, cond_true, cond_false, okPack, okPut, okPutBlks, okPutCells, q_isP, q_isAg, q_isBox, q_isArr, q_int, q_bool, q_str, q_sl, q_nils, e_exit, e_ret, e_nrm, e_ret_exit, e_exit_ret, e_nrm_exit, e_nrm_ret, e_exit_nrm, e_ret_nrm, Nat.zero_add, Nat.reduceAdd, noslR, noslP, noslB, noslA, List.all_cons, List.all_nil]
    rw [getE_ctrs hxl, w64 (n := (pre.length : Int) + 1) (by omega)]
    simp only [bnd_some, ctl_true, ctl_false, ctl_and, ctl_or', ctl_or2, x_toPV, x_toCs, x_toCs2, x_toEs, x_bEs, x_bCs, x_aPV, x_aCs, x_int, x_bool, x_str, x_es, x_esn, nth_0, nth_1, nth_2, nth_3, nth_4, nth_5, nth_6, nth_7, nth_8, nth_9, y_nil, y_int, y_bool, y_str, y_sl, y_nils, y_agg, y_ownp, y_own, z_nil, z_int, z_bool, z_str, z_sl, z_nils, b_nil, b_arr, b_box1, b_box2, b_box3, b_box4, List.map_cons, List.map_nil, Bool.and_self, Bool.and_true, Bool.true_and, Bool.not_true, Bool.not_false, Bool.or_false, Bool.false_or, cond_true, cond_false, okPack, okPut, okPutBlks, okPutCells, q_isP, q_isAg, q_isBox, q_isArr, q_int, q_bool, q_str, q_sl, q_nils, e_exit, e_ret, e_nrm, e_ret_exit, e_exit_ret, e_nrm_exit, e_nrm_ret, e_exit_nrm, e_ret_nrm, Nat.zero_add, Nat.reduceAdd, noslR, noslP, noslB, noslA, List.all_cons, List.all_nil]
    rw [e1, e2, ih (pre ++ [x]) _ (by simp; omega) fun y hy => hx y (by simp [hy])]
    rfl

theorem ep_loop {l o : List Ct} {t : Int} {c : Nat} {s : Int} (hs : 0 ≤ s ∧ s ≤ 2147483648) {Y : List (List PV)} {y z : Int} : ∀ (xs pre : List Nat) (out : List Ct), pre.length + xs.length ≤ 1000 → (∀ x ∈ xs, x < out.length) →
    lp E (denC E) 34 0 [] 18 { vals := [AV.sl 3 (ctrs l), AV.int .i64 t, AV.sl 3 (ctrs o), AV.int .i64 c, AV.int .i64 s, AV.sl 1 Y, AV.int .i64 y, AV.int .i64 z, AV.sl 1 (ns (pre ++ xs)), AV.int .i64 (pre ++ xs).length, AV.int .i64 pre.length], blks := [Blk.arr 3 (ctrs out)] } =
      some (Ex.exit 18, { vals := [AV.sl 3 (ctrs l), AV.int .i64 t, AV.sl 3 (ctrs o), AV.int .i64 c, AV.int .i64 s, AV.sl 1 Y, AV.int .i64 y, AV.int .i64 z], blks := [Blk.arr 3 (ctrs (xs.foldl (setEp (s + 1)) out))] }) := by
  intro xs
  induction xs with
  | nil =>
    intro pre out hp hx
    rw [r34_18, ctl_dec, if_neg (by simp)]
    rfl
  | cons x xs ih =>
    intro pre out hp hx
    have hxl := hx x (by simp)
    have hg : (pre ++ x :: xs).getD pre.length 0 = x := by simp [List.getD]
    simp only [List.length_cons] at hp
    have e1 : (pre.length : Int) + 1 = ((pre ++ [x]).length : Int) := by simp
    have e2 : pre ++ x :: xs = (pre ++ [x]) ++ xs := by simp
    rw [r34_18, ctl_dec, if_pos (by simp; omega), getE_ns (by simp), hg]
    simp only [bnd_some, ctl_true, ctl_false, ctl_and, ctl_or', ctl_or2, x_toPV, x_toCs, x_toCs2, x_toEs, x_bEs, x_bCs, x_aPV, x_aCs, x_int, x_bool, x_str, x_es, x_esn, nth_0, nth_1, nth_2, nth_3, nth_4, nth_5, nth_6, nth_7, nth_8, nth_9, y_nil, y_int, y_bool, y_str, y_sl, y_nils, y_agg, y_ownp, y_own, z_nil, z_int, z_bool, z_str, z_sl, z_nils, b_nil, b_arr, b_box1, b_box2, b_box3, b_box4, List.map_cons, List.map_nil, Bool.and_self, Bool.and_true, Bool.true_and, Bool.not_true, Bool.not_false, Bool.or_false, Bool.false_or, cond_true, cond_false, okPack, okPut, okPutBlks, okPutCells, q_isP, q_isAg, q_isBox, q_isArr, q_int, q_bool, q_str, q_sl, q_nils, e_exit, e_ret, e_nrm, e_ret_exit, e_exit_ret, e_nrm_exit, e_nrm_ret, e_exit_nrm, e_ret_nrm, Nat.zero_add, Nat.reduceAdd, noslR, noslP, noslB, noslA, List.all_cons, List.all_nil]
    rw [ctrs_length, in_len hxl, ctl_true, Int.toNat_natCast, w64 (n := s + 1) (by omega), setEs_ep hxl, w64 (n := (pre.length : Int) + 1) (by omega), e1, e2, ih (pre ++ [x]) _ (by simp; omega) fun y hy => by simpa using hx y (by simp [hy])]
    rfl

def electD (l : List Ct) (t : Int) (V : Nat → List Nat) : List Nat → List Ct → Option (List Ct)
  | [], out => some out
  | c :: cs, out =>
    if maj l (V c).length = true then
      if great l 0 (V c) = 2147483648 then none
      else electD l t V cs (((V c).foldl (setEp (great l 0 (V c) + 1)) out).set c ⟨1, great l 0 (V c) + 1, t⟩)
    else electD l t V cs out
def electX : Option (List Ct) → Ex × Pack
  | some o => (Ex.exit 14, { vals := [], blks := [Blk.arr 3 (ctrs o)] })
  | none => (Ex.ret, { vals := [AV.sl 3 [], AV.int .i64 2], blks := [] })

theorem elect_out {l o : List Ct} (hl : l.length = o.length) (h1 : 1 ≤ o.length) (h5 : o.length ≤ 5) (hB : Bd o) {t : Int} {Y : List (List Nat)} (hY : Y.length = o.length) (hY5 : ∀ c, c < o.length → (Y.getD c []).length ≤ 100 ∧ ∀ x ∈ Y.getD c [], x < o.length) : ∀ (m k : Nat) (out : List Ct), k + m = o.length → out.length = o.length →
    lp E (denC E) 34 0 [] 14 { vals := [AV.sl 3 (ctrs l), AV.int .i64 t, AV.sl 3 (ctrs o), AV.sl 1 (vrows Y), AV.int .i64 o.length, AV.int .i64 k], blks := [Blk.arr 3 (ctrs out)] } =
      some (electX (electD o t (fun c => Y.getD c []) (List.range' k m) out)) := by
  intro m
  induction m with
  | zero =>
    intro k out hk ho
    rw [r34_14, ctl_dec, if_neg (by omega)]
    rfl
  | succ m ih =>
    intro k out hk ho
    have hkl : k < o.length := by omega
    obtain ⟨y1, y2⟩ := hY5 k hkl
    have hm : ∀ n, maj l n = maj o n := fun n => by unfold maj; rw [hl]
    rw [r34_14, ctl_dec, if_pos (by omega), getE_vrows (by omega)]
    simp only [bnd_some, ctl_true, ctl_false, ctl_and, ctl_or', ctl_or2, x_toPV, x_toCs, x_toCs2, x_toEs, x_bEs, x_bCs, x_aPV, x_aCs, x_int, x_bool, x_str, x_es, x_esn, nth_0, nth_1, nth_2, nth_3, nth_4, nth_5, nth_6, nth_7, nth_8, nth_9, y_nil, y_int, y_bool, y_str, y_sl, y_nils, y_agg, y_ownp, y_own, z_nil, z_int, z_bool, z_str, z_sl, z_nils, b_nil, b_arr, b_box1, b_box2, b_box3, b_box4, List.map_cons, List.map_nil, Bool.and_self, Bool.and_true, Bool.true_and, Bool.not_true, Bool.not_false, Bool.or_false, Bool.false_or, cond_true, cond_false, okPack, okPut, okPutBlks, okPutCells, q_isP, q_isAg, q_isBox, q_isArr, q_int, q_bool, q_str, q_sl, q_nils, e_exit, e_ret, e_nrm, e_ret_exit, e_exit_ret, e_nrm_exit, e_nrm_ret, e_exit_nrm, e_ret_nrm, Nat.zero_add, Nat.reduceAdd, noslR, noslP, noslB, noslA, List.all_cons, List.all_nil]
    rw [ns_length, c_RMaj (by omega), hm, w64 (n := (k : Int) + 1) (by omega), succ_cast, List.range'_succ]
    simp only [bnd_some, ctl_true, ctl_false, ctl_and, ctl_or', ctl_or2, x_toPV, x_toCs, x_toCs2, x_toEs, x_bEs, x_bCs, x_aPV, x_aCs, x_int, x_bool, x_str, x_es, x_esn, nth_0, nth_1, nth_2, nth_3, nth_4, nth_5, nth_6, nth_7, nth_8, nth_9, y_nil, y_int, y_bool, y_str, y_sl, y_nils, y_agg, y_ownp, y_own, z_nil, z_int, z_bool, z_str, z_sl, z_nils, b_nil, b_arr, b_box1, b_box2, b_box3, b_box4, List.map_cons, List.map_nil, Bool.and_self, Bool.and_true, Bool.true_and, Bool.not_true, Bool.not_false, Bool.or_false, Bool.false_or, cond_true, cond_false, okPack, okPut, okPutBlks, okPutCells, q_isP, q_isAg, q_isBox, q_isArr, q_int, q_bool, q_str, q_sl, q_nils, e_exit, e_ret, e_nrm, e_ret_exit, e_exit_ret, e_nrm_exit, e_nrm_ret, e_exit_nrm, e_ret_nrm, Nat.zero_add, Nat.reduceAdd, noslR, noslP, noslB, noslA, List.all_cons, List.all_nil]
    unfold electD
    cases hmj : maj o (Y.getD k []).length with
    | false =>
      rw [Bool.not_false, ctl_true, if_neg (by simp)]
      exact ih (k + 1) out (by omega) ho
    | true =>
      have hgb := great_bd hB (Y.getD k []) 0 y2 (by omega)
      have h6 := most_loop (l := l) (o := o) (out := out) (t := t) (c := k) (V := ns (Y.getD k [])) (Y := vrows Y) (y := (o.length : Int)) (z := (k : Int)) h5 (Y.getD k []) [] 0 (by rw [List.length_nil]; omega) y2
      rw [List.nil_append, List.length_nil, nc0] at h6
      rw [Bool.not_true, ctl_false, if_pos rfl, h6]
      simp only [bnd_some, ctl_true, ctl_false, ctl_and, ctl_or', ctl_or2, x_toPV, x_toCs, x_toCs2, x_toEs, x_bEs, x_bCs, x_aPV, x_aCs, x_int, x_bool, x_str, x_es, x_esn, nth_0, nth_1, nth_2, nth_3, nth_4, nth_5, nth_6, nth_7, nth_8, nth_9, y_nil, y_int, y_bool, y_str, y_sl, y_nils, y_agg, y_ownp, y_own, z_nil, z_int, z_bool, z_str, z_sl, z_nils, b_nil, b_arr, b_box1, b_box2, b_box3, b_box4, List.map_cons, List.map_nil, Bool.and_self, Bool.and_true, Bool.true_and, Bool.not_true, Bool.not_false, Bool.or_false, Bool.false_or, cond_true, cond_false, okPack, okPut, okPutBlks, okPutCells, q_isP, q_isAg, q_isBox, q_isArr, q_int, q_bool, q_str, q_sl, q_nils, e_exit, e_ret, e_nrm, e_ret_exit, e_exit_ret, e_nrm_exit, e_nrm_ret, e_exit_nrm, e_ret_nrm, Nat.zero_add, Nat.reduceAdd, noslR, noslP, noslB, noslA, List.all_cons, List.all_nil, iT_3]
      by_cases hbig : great o 0 (Y.getD k []) = 2147483648
      · rw [if_pos hbig, hbig]
        rfl
      · have h8 := ep_loop (l := l) (o := o) (t := t) (c := k) (s := great o 0 (Y.getD k [])) hgb (Y := vrows Y) (y := (o.length : Int)) (z := (k : Int)) (Y.getD k []) [] out (by rw [List.length_nil]; omega) fun x hx => by rw [ho]; exact y2 x hx
        rw [List.nil_append, List.length_nil, nc0] at h8
        have ho2 : ((Y.getD k []).foldl (setEp (great o 0 (Y.getD k []) + 1)) out).length = o.length := by rw [setEp_len]; exact ho
        rw [if_neg hbig, show (great o 0 (Y.getD k []) == 2147483648) = false by simpa using hbig, ns_length, h8]
        simp only [bnd_some, ctl_true, ctl_false, ctl_and, ctl_or', ctl_or2, x_toPV, x_toCs, x_toCs2, x_toEs, x_bEs, x_bCs, x_aPV, x_aCs, x_int, x_bool, x_str, x_es, x_esn, nth_0, nth_1, nth_2, nth_3, nth_4, nth_5, nth_6, nth_7, nth_8, nth_9, y_nil, y_int, y_bool, y_str, y_sl, y_nils, y_agg, y_ownp, y_own, z_nil, z_int, z_bool, z_str, z_sl, z_nils, b_nil, b_arr, b_box1, b_box2, b_box3, b_box4, List.map_cons, List.map_nil, Bool.and_self, Bool.and_true, Bool.true_and, Bool.not_true, Bool.not_false, Bool.or_false, Bool.false_or, cond_true, cond_false, okPack, okPut, okPutBlks, okPutCells, q_isP, q_isAg, q_isBox, q_isArr, q_int, q_bool, q_str, q_sl, q_nils, e_exit, e_ret, e_nrm, e_ret_exit, e_exit_ret, e_nrm_exit, e_nrm_ret, e_exit_nrm, e_ret_nrm, Nat.zero_add, Nat.reduceAdd, noslR, noslP, noslB, noslA, List.all_cons, List.all_nil, iT_3]
        rw [ctrs_length, ho2, in_len hkl, ctl_true, Int.toNat_natCast, w64 (n := great o 0 (Y.getD k []) + 1) (by omega), setEs_0 (by omega), w64 (n := (k : Int) + 1) (by omega), succ_cast]
        exact ih (k + 1) _ (by omega) (by rw [List.length_set]; exact ho2)

end Go.Proofs.Ythmhnnppikdafaa.Vm

/- Chapter 33: the document's Tick comes to the same; Elected. -/
namespace Go.Proofs.Ythmhnnppikdafaa.Vm
set_option linter.unusedVariables false
set_option linter.unusedSimpArgs false

theorem find_le {p : Nat → Bool} {a : Nat} : ∀ {l : List Nat}, l.Pairwise (· < ·) → l.find? p = some a → ∀ b ∈ l, p b = true → a ≤ b
  | [], _, h, _, _, _ => by cases h
  | x :: l, hs, h, b, hb, hp => by
    rw [List.find?_cons] at h
    have hs' := List.pairwise_cons.1 hs
    cases hx : p x with
    | true =>
      rw [hx] at h
      cases h
      rcases List.mem_cons.1 hb with rfl | hb
      · exact Nat.le_refl _
      · exact Nat.le_of_lt (hs'.1 b hb)
    | false =>
      rw [hx] at h
      rcases List.mem_cons.1 hb with rfl | hb
      · rw [hx] at hp; cases hp
      · exact find_le hs'.2 h b hb hp

theorem cand_sorted (l : List Ct) (R : List (List Bool)) (t d : Int) : (candL l R t d).Pairwise (· < ·) := (List.pairwise_lt_range' (step := 1) (by omega)).filter _

/-- A winner votes for itself. -/
theorem self_vote {l : List Ct} {R : List (List Bool)} {t d : Int} {c : Nat} (hc : c ∈ candL l R t d) (hm : maj l (VL l R t d c).length = true) : c ∈ VL l R t d c := by
  obtain ⟨c1, c2, c3, _⟩ := cand_st hc
  have hcl : c < l.length := cand_lt hc
  have hu : upB l c = true := by unfold upB; rw [c1]; rfl
  have hself : hasB (hearsL l R c) c = true := by
    unfold hasB
    rw [List.contains_iff_mem]
    exact hears_self hcl hu
  rw [VL_mem]
  refine ⟨hcl, ?_⟩
  unfold votes
  rw [if_neg (by rw [c3]; simp)]
  show (candL l R t d).find? (hasB (hearsL l R c)) = some c
  cases hf : (candL l R t d).find? (hasB (hearsL l R c)) with
  | none => exact absurd hself (List.find?_eq_none.1 hf c hc)
  | some c' =>
    have hc'm := List.mem_of_find?_eq_some hf
    have h1 : c' ≤ c := find_le (cand_sorted l R t d) hf c hc hself
    obtain ⟨_, d2, _, _⟩ := cand_st hc'm
    have hV : (l.length : Int) < 2 * ((VL l R t d c).length : Nat) := by simpa [maj] using hm
    have hH : (l.length : Int) < 2 * ((hearsL l R c').length : Nat) := by simpa [maj] using d2
    unfold VL votesL at hV
    unfold hearsL at hH
    obtain ⟨x, hx, p1, p2⟩ := meet (by simp) hV hH
    have hxl : x < l.length := by simpa using hx
    have p1 : votes l R (candL l R t d) x = some c := by simpa using p1
    unfold votes at p1
    split at p1
    · cases p1
    have hx' : hasB (hearsL l R x) c' = true := by
      unfold hasB
      rw [List.contains_iff_mem, hears_mem]
      exact ⟨cand_lt hc'm, by rw [hr_symm]; exact p2⟩
    have h2 : c ≤ c' := find_le (cand_sorted l R t d) p1 c' hc'm hx'
    congr 1
    omega

theorem electD_none {l : List Ct} {t : Int} {V : Nat → List Nat} : ∀ {cs : List Nat} {out : List Ct}, (∀ c ∈ cs, maj l (V c).length = false) → electD l t V cs out = some out
  | [], out, _ => rfl
  | c :: cs, out, h => by
    unfold electD
    rw [h c (by simp), if_neg (by simp)]
    exact electD_none fun x hx => h x (by simp [hx])
theorem electD_one {l : List Ct} {t : Int} {V : Nat → List Nat} {c : Nat} {post : List Nat} (hc : maj l (V c).length = true) (h2 : ∀ x ∈ post, maj l (V x).length = false) : ∀ {pre : List Nat} {out : List Ct}, (∀ x ∈ pre, maj l (V x).length = false) →
    electD l t V (pre ++ c :: post) out = if great l 0 (V c) = 2147483648 then none else some (((V c).foldl (setEp (great l 0 (V c) + 1)) out).set c ⟨1, great l 0 (V c) + 1, t⟩)
  | [], out, _ => by
    rw [List.nil_append]
    unfold electD
    rw [if_pos hc, electD_none h2]
  | x :: pre, out, h => by
    rw [List.cons_append]
    unfold electD
    rw [h x (by simp), if_neg (by simp)]
    exact electD_one hc h2 fun y hy => h y (by simp [hy])

theorem great_app (l : List Ct) (xs : List Nat) (c : Nat) (o : Int) : great l o (xs ++ [c]) = maxI (gt l c).ep (great l o xs) := by
  unfold great
  rw [List.foldl_append]
  rfl

theorem crown_set {X : List Ct} {c : Nat} {e t : Int} (h : c < X.length) : crown t (setEp e X c) c = X.set c ⟨1, e, t⟩ := by
  unfold crown setEp
  rw [set_gt h, if_pos rfl, List.set_set]

theorem electD_eq {l : List Ct} {R : List (List Bool)} {t d : Int} (h1 : 1 ≤ l.length) (hB : Bd l) : electD l t (VL l R t d) (List.range' 0 l.length) l = electM l R t d := by
  have hout : ∀ c, c ∉ candL l R t d → maj l (VL l R t d c).length = false := fun c hc => by
    have : VL l R t d c = [] := by
      rw [List.eq_nil_iff_forall_not_mem]
      intro x hx
      have hv := (VL_mem.1 hx).2
      unfold votes at hv
      split at hv
      · cases hv
      · exact hc (List.mem_of_find?_eq_some hv)
    rw [this]
    unfold maj
    simp only [List.length_nil, decide_eq_false_iff_not]
    omega
  rcases electM_cases l R t d with ⟨hn, h⟩ | ⟨c, hc, hm, h⟩
  · rw [h]
    refine electD_none fun c _ => ?_
    by_cases hc : c ∈ candL l R t d
    · exact hn c hc
    · exact hout c hc
  · have hcl : c < l.length := cand_lt hc
    have hcV := self_vote hc hm
    have hgc := great_mem l (VL l R t d c) 0 c hcV
    have hgb := great_bd hB (VL l R t d c) 0 VL_lt (by omega)
    have hga : great l 0 (VL l R t d c ++ [c]) = great l 0 (VL l R t d c) := by
      rw [great_app]; unfold maxI; rw [if_neg (by omega)]
    have hmem : c ∈ List.range' 0 l.length := by simp; exact hcl
    obtain ⟨pre, post, hs⟩ := List.append_of_mem hmem
    have hnd : (pre ++ c :: post).Nodup := hs ▸ List.nodup_range'
    have other : ∀ x, x ≠ c → maj l (VL l R t d x).length = false := fun x hx => by
      cases hm' : maj l (VL l R t d x).length with
      | false => rfl
      | true => exact (hx (votes_disj hm' hm)).elim
    have h3 := (List.nodup_append.1 hnd).2.2
    have h4 := (List.nodup_cons.1 (List.nodup_append.1 hnd).2.1).1
    rw [h, hs, electD_one hm (fun x hx => other x fun e => h4 (e ▸ hx)) (fun x hx => other x fun e => h3 x hx c (by simp) e), hga]
    by_cases hb : great l 0 (VL l R t d c) = 2147483648
    · rw [if_pos hb, if_pos (by omega)]
    · rw [if_neg hb, if_neg (by omega), show great l 0 (VL l R t d c) + 1 = 1 + great l 0 (VL l R t d c) by omega]
      congr 1
      unfold win
      rw [List.foldl_append, List.foldl_cons, List.foldl_nil]
      exact (crown_set (by rw [setEp_len]; exact hcl)).symm

theorem electD_congr {l : List Ct} {t : Int} {V W : Nat → List Nat} : ∀ {cs : List Nat} {out : List Ct}, (∀ c ∈ cs, V c = W c) → electD l t V cs out = electD l t W cs out
  | [], _, _ => rfl
  | c :: cs, out, h => by
    unfold electD
    rw [h c (by simp)]
    split
    · split
      · rfl
      · exact electD_congr fun x hx => h x (by simp [hx])
    · exact electD_congr fun x hx => h x (by simp [hx])

theorem c_RTick {l : List Ct} {R : List (List Bool)} {t d : Int} (hV : Val l t) (hS : Sq l R) (ht : 0 ≤ t ∧ t ≤ 2147483648) (hd : 0 ≤ d ∧ d ≤ 600) :
    denC E 34 [AV.sl 3 (ctrs l), AV.sl 1 (rch R), AV.int .i64 t, AV.int .i64 d] [] = some (match electM (t3 l R t) R t d with
      | some o => ([RV.p (PV.sl 3 (ctrs o)), RV.p (PV.int .i64 0)], [])
      | none => ([RV.p (PV.sl 3 []), RV.p (PV.int .i64 2)], [])) := by
  have h1 := hS.n1
  have h5 := hS.n5
  have s1 : Sq (t1 l R) R := hS.each _
  have s2 : Sq (t2 l R) R := s1.each _
  have s3 : Sq (t3 l R t) R := s2.each _
  have l1 : (t1 l R).length = l.length := t1_len l R
  have l2 : (t2 l R).length = l.length := t2_len l R
  have l3 : (t3 l R t).length = l.length := t3_len l R t
  have hB3 := (hV.t3 (R := R) ht).bd ht.2
  have hcl := cand_len (l := t3 l R t) (R := R) (t := t) (d := d)
  have e1 : leN (l.length * 24) 140737488355328 = true := by simp only [decide_eq_true_eq]; omega
  have g1 := learn_out hS (hV.bd ht.2) (t := t) (d := d) l.length 0 [] (by omega) rfl
  have g2 := yield_out (l := l) s1 l1.symm (t := t) (d := d) (t1 l R).length 0 [] (by omega) rfl
  have g3 := listen_out (l := l) s2 (t := t) (d := d) (t2 l R).length 0 [] (by omega) rfl
  obtain ⟨Y, y1, y2, g4⟩ := vote_out (l := l) s3 (t := t) (all := candL (t3 l R t) R t d) (by omega) (fun c hc => cand_lt hc) (t3 l R t).length 0 (List.replicate (t3 l R t).length []) (by omega) (by simp) (fun c hc => by
    simp only [List.getD, List.getElem?_replicate]
    split <;> rfl)
  have g5 := elect_out (l := l) (o := t3 l R t) l3.symm (by omega) (by omega) hB3 (t := t) (Y := Y) y1 (fun c hc => by
    rw [y2 c hc]
    have := votes_len (l := t3 l R t) (R := R) (all := candL (t3 l R t) R t d) (k := (t3 l R t).length) (c := c)
    exact ⟨by omega, fun x hx => votes_lt hx⟩) (t3 l R t).length 0 (t3 l R t) (by omega) rfl
  rw [electD_congr (W := VL (t3 l R t) R t d) (fun c hc => y2 c (by simpa using hc)), electD_eq (by omega) hB3] at g5
  have a1 : [] ++ (List.range' 0 l.length).map (eachC l (learnC l R)) = t1 l R := rfl
  have a2 : [] ++ (List.range' 0 (t1 l R).length).map (eachC (t1 l R) (yieldC (t1 l R) R l)) = t2 l R := rfl
  have a3 : [] ++ (List.range' 0 (t2 l R).length).map (eachC (t2 l R) (listenC (t2 l R) R t)) = t3 l R t := rfl
  rw [a1, nc0, List.drop_zero, List.nil_append] at g1
  rw [a2, nc0, List.drop_zero, List.nil_append] at g2
  rw [a3, nc0, List.drop_zero, List.nil_append] at g3
  rw [nc0] at g4 g5
  rw [denC_eq, r34, c_before hV hS ht hd]
  simp only [bnd_some, ctl_true, ctl_false, ctl_and, ctl_or', ctl_or2, x_toPV, x_toCs, x_toCs2, x_toEs, x_bEs, x_bCs, x_aPV, x_aCs, x_int, x_bool, x_str, x_es, x_esn, nth_0, nth_1, nth_2, nth_3, nth_4, nth_5, nth_6, nth_7, nth_8, nth_9, y_nil, y_int, y_bool, y_str, y_sl, y_nils, y_agg, y_ownp, y_own, z_nil, z_int, z_bool, z_str, z_sl, z_nils, b_nil, b_arr, b_box1, b_box2, b_box3, b_box4, List.map_cons, List.map_nil, Bool.and_self, Bool.and_true, Bool.true_and, Bool.not_true, Bool.not_false, Bool.or_false, Bool.false_or, cond_true, cond_false, okPack, okPut, okPutBlks, okPutCells, q_isP, q_isAg, q_isBox, q_isArr, q_int, q_bool, q_str, q_sl, q_nils, e_exit, e_ret, e_nrm, e_ret_exit, e_exit_ret, e_nrm_exit, e_nrm_ret, e_exit_nrm, e_ret_nrm, Nat.zero_add, Nat.reduceAdd, noslR, noslP, noslB, noslA, List.all_cons, List.all_nil]
  rw [show ((0 : Int) != 0) = false from rfl, ctl_false, ctrs_length, e1, ctl_true, g1]
  simp only [bnd_some, ctl_true, ctl_false, ctl_and, ctl_or', ctl_or2, x_toPV, x_toCs, x_toCs2, x_toEs, x_bEs, x_bCs, x_aPV, x_aCs, x_int, x_bool, x_str, x_es, x_esn, nth_0, nth_1, nth_2, nth_3, nth_4, nth_5, nth_6, nth_7, nth_8, nth_9, y_nil, y_int, y_bool, y_str, y_sl, y_nils, y_agg, y_ownp, y_own, z_nil, z_int, z_bool, z_str, z_sl, z_nils, b_nil, b_arr, b_box1, b_box2, b_box3, b_box4, List.map_cons, List.map_nil, Bool.and_self, Bool.and_true, Bool.true_and, Bool.not_true, Bool.not_false, Bool.or_false, Bool.false_or, cond_true, cond_false, okPack, okPut, okPutBlks, okPutCells, q_isP, q_isAg, q_isBox, q_isArr, q_int, q_bool, q_str, q_sl, q_nils, e_exit, e_ret, e_nrm, e_ret_exit, e_exit_ret, e_nrm_exit, e_nrm_ret, e_exit_nrm, e_ret_nrm, Nat.zero_add, Nat.reduceAdd, noslR, noslP, noslB, noslA, List.all_cons, List.all_nil, iT_3]
  rw [ctrs_length, l1, e1, ctl_true, ← l1, g2]
  simp only [bnd_some, ctl_true, ctl_false, ctl_and, ctl_or', ctl_or2, x_toPV, x_toCs, x_toCs2, x_toEs, x_bEs, x_bCs, x_aPV, x_aCs, x_int, x_bool, x_str, x_es, x_esn, nth_0, nth_1, nth_2, nth_3, nth_4, nth_5, nth_6, nth_7, nth_8, nth_9, y_nil, y_int, y_bool, y_str, y_sl, y_nils, y_agg, y_ownp, y_own, z_nil, z_int, z_bool, z_str, z_sl, z_nils, b_nil, b_arr, b_box1, b_box2, b_box3, b_box4, List.map_cons, List.map_nil, Bool.and_self, Bool.and_true, Bool.true_and, Bool.not_true, Bool.not_false, Bool.or_false, Bool.false_or, cond_true, cond_false, okPack, okPut, okPutBlks, okPutCells, q_isP, q_isAg, q_isBox, q_isArr, q_int, q_bool, q_str, q_sl, q_nils, e_exit, e_ret, e_nrm, e_ret_exit, e_exit_ret, e_nrm_exit, e_nrm_ret, e_exit_nrm, e_ret_nrm, Nat.zero_add, Nat.reduceAdd, noslR, noslP, noslB, noslA, List.all_cons, List.all_nil, iT_3]
  rw [ctrs_length, l2, e1, ctl_true, ← l2, g3]
  simp only [bnd_some, ctl_true, ctl_false, ctl_and, ctl_or', ctl_or2, x_toPV, x_toCs, x_toCs2, x_toEs, x_bEs, x_bCs, x_aPV, x_aCs, x_int, x_bool, x_str, x_es, x_esn, nth_0, nth_1, nth_2, nth_3, nth_4, nth_5, nth_6, nth_7, nth_8, nth_9, y_nil, y_int, y_bool, y_str, y_sl, y_nils, y_agg, y_ownp, y_own, z_nil, z_int, z_bool, z_str, z_sl, z_nils, b_nil, b_arr, b_box1, b_box2, b_box3, b_box4, List.map_cons, List.map_nil, Bool.and_self, Bool.and_true, Bool.true_and, Bool.not_true, Bool.not_false, Bool.or_false, Bool.false_or, cond_true, cond_false, okPack, okPut, okPutBlks, okPutCells, q_isP, q_isAg, q_isBox, q_isArr, q_int, q_bool, q_str, q_sl, q_nils, e_exit, e_ret, e_nrm, e_ret_exit, e_exit_ret, e_nrm_exit, e_nrm_ret, e_exit_nrm, e_ret_nrm, Nat.zero_add, Nat.reduceAdd, noslR, noslP, noslB, noslA, List.all_cons, List.all_nil, iT_3]
  have e2 : (leB (l.length : Int) (l.length : Int) && (leB (l.length : Int) 9223372036854775807 && leB ((l.length : Int) * 24) 140737488355328)) = true := by
    simp only [Bool.and_eq_true, decide_eq_true_eq]; omega
  rw [ctrs_length, e2, ctl_true, c_Rcand s3 hB3 ht]
  simp only [bnd_some, ctl_true, ctl_false, ctl_and, ctl_or', ctl_or2, x_toPV, x_toCs, x_toCs2, x_toEs, x_bEs, x_bCs, x_aPV, x_aCs, x_int, x_bool, x_str, x_es, x_esn, nth_0, nth_1, nth_2, nth_3, nth_4, nth_5, nth_6, nth_7, nth_8, nth_9, y_nil, y_int, y_bool, y_str, y_sl, y_nils, y_agg, y_ownp, y_own, z_nil, z_int, z_bool, z_str, z_sl, z_nils, b_nil, b_arr, b_box1, b_box2, b_box3, b_box4, List.map_cons, List.map_nil, Bool.and_self, Bool.and_true, Bool.true_and, Bool.not_true, Bool.not_false, Bool.or_false, Bool.false_or, cond_true, cond_false, okPack, okPut, okPutBlks, okPutCells, q_isP, q_isAg, q_isBox, q_isArr, q_int, q_bool, q_str, q_sl, q_nils, e_exit, e_ret, e_nrm, e_ret_exit, e_exit_ret, e_nrm_exit, e_nrm_ret, e_exit_nrm, e_ret_nrm, Nat.zero_add, Nat.reduceAdd, noslR, noslP, noslB, noslA, List.all_cons, List.all_nil]
  rw [ctrs_length, Int.toNat_natCast, tabV_new, ← l3, g4]
  simp only [bnd_some, ctl_true, ctl_false, ctl_and, ctl_or', ctl_or2, x_toPV, x_toCs, x_toCs2, x_toEs, x_bEs, x_bCs, x_aPV, x_aCs, x_int, x_bool, x_str, x_es, x_esn, nth_0, nth_1, nth_2, nth_3, nth_4, nth_5, nth_6, nth_7, nth_8, nth_9, y_nil, y_int, y_bool, y_str, y_sl, y_nils, y_agg, y_ownp, y_own, z_nil, z_int, z_bool, z_str, z_sl, z_nils, b_nil, b_arr, b_box1, b_box2, b_box3, b_box4, List.map_cons, List.map_nil, Bool.and_self, Bool.and_true, Bool.true_and, Bool.not_true, Bool.not_false, Bool.or_false, Bool.false_or, cond_true, cond_false, okPack, okPut, okPutBlks, okPutCells, q_isP, q_isAg, q_isBox, q_isArr, q_int, q_bool, q_str, q_sl, q_nils, e_exit, e_ret, e_nrm, e_ret_exit, e_exit_ret, e_nrm_exit, e_nrm_ret, e_exit_nrm, e_ret_nrm, Nat.zero_add, Nat.reduceAdd, noslR, noslP, noslB, noslA, List.all_cons, List.all_nil, iT_f1, k_kvs]
  rw [tabV_frz, vrows_length, ctrs_length, y1, l3, e1, ctl_true, ← l3, g5]
  cases electM (t3 l R t) R t d with
  | none => rfl
  | some o => rfl

end Go.Proofs.Ythmhnnppikdafaa.Vm

/- Chapter 33: Elected; at most one is active behind a round. -/
namespace Go.Proofs.Ythmhnnppikdafaa.Vm
set_option linter.unusedVariables false
set_option linter.unusedSimpArgs false

theorem new_inv {n : Nat} (hn : 1 ≤ n ∧ n ≤ 5) : Val (new n) ((0 : Nat) : Int) ∧ Inv (new n) 0 ∧ ∀ i, (gt (new n) i).ep = 0 := by
  have hlen : (new n).length = n := by simp [new]
  have hg : ∀ j, gt (new n) j = ⟨0, 0, 0⟩ := fun j => by
    unfold gt new
    simp only [List.getD, List.getElem?_replicate]
    split <;> rfl
  refine ⟨⟨by omega, by omega, fun i _ => by rw [hg]; exact ⟨by simp, by simp, by simp⟩⟩, ⟨Int.le_refl _, ?_, fun i _ h => ?_, fun i j _ _ _ h => ?_⟩, fun i => by rw [hg]⟩
  · have : cnt (new n) 0 = List.range' 0 n := by
      unfold cnt
      rw [hlen, List.filter_eq_self]
      intro k _
      rw [hg]; rfl
    rw [this]
    unfold maj
    rw [hlen]
    simp
    omega
  · rw [hg] at h; exact absurd h (by decide)
  · rw [hg] at h; exact absurd h (by decide)

theorem elected_loop {L : List Int} (hL : L.length ≤ 600) {n : Nat} (hn : n ≤ 100) : ∀ (m k : Nat) (l : List Ct) (M : Int) (q : Nat), q ≤ 600 → k + m = n → Val l k → (∀ i, i < l.length → (gt l i).ep ≤ k) → Inv l M →
    ∃ l' M' q', q' ≤ 600 ∧ Val l' n ∧ (∀ i, i < l'.length → (gt l' i).ep ≤ n) ∧ Inv l' M' ∧
    lp E (denC E) 15 1 [] 0 { vals := [AV.int .i64 n, AV.sl 3 (ctrs l), AV.int .i64 k], blks := [src L q] } = some (Ex.exit 0, { vals := [AV.int .i64 n, AV.sl 3 (ctrs l')], blks := [src L q'] }) := by
  intro m
  induction m with
  | zero =>
    intro k l M q hq hk hV he hI
    rw [r15_0, ctl_dec, if_neg (by omega)]
    obtain rfl : k = n := by omega
    exact ⟨l, M, q, hq, hV, he, hI, rfl⟩
  | succ m ih =>
    intro k l M q hq hk hV he hI
    obtain ⟨a, hsh, ha⟩ := c_Shaken hL hq hV.n1 hV.n5 (k : Int)
    have hVa := hsh.val (by omega) hV
    have hIa := hsh.inv hI
    have hea : ∀ i, i < a.length → (gt a i).ep ≤ k := fun i hi => by rw [(hsh.get i).1]; exact he i (by rw [← hsh.len]; exact hi)
    obtain ⟨R, q2, g2, r1, r2, hr⟩ := c_Reach hL (at'_le hL hq) hVa.n5
    have hS : Sq a R := ⟨hVa.n1, hVa.n5, r1, r2⟩
    obtain ⟨o, ho, hst, heo⟩ := tick_step (l := a) (R := R) (t := (k : Int)) (d := 2) (B := (k : Int)) (by omega) hea
    obtain ⟨M', m1, m2, m3⟩ := tick_inv hIa ho
    have hVo := tick_val hVa (by omega) ho
    obtain ⟨l', M2, q', z1, z2, z3, z4, z5⟩ := ih (k + 1) o M' q2 g2 (by omega) (hVo.mono (by omega)) (fun i hi => by have := heo i (by rw [← hst.len]; exact hi); omega) m2
    refine ⟨l', M2, q', z1, z2, z3, z4, ?_⟩
    rw [r15_0, ctl_dec, if_pos (by omega), ha]
    simp only [bnd_some, ctl_true, ctl_false, ctl_and, ctl_or', ctl_or2, x_toPV, x_toCs, x_toCs2, x_toEs, x_bEs, x_bCs, x_aPV, x_aCs, x_int, x_bool, x_str, x_es, x_esn, nth_0, nth_1, nth_2, nth_3, nth_4, nth_5, nth_6, nth_7, nth_8, nth_9, y_nil, y_int, y_bool, y_str, y_sl, y_nils, y_agg, y_ownp, y_own, z_nil, z_int, z_bool, z_str, z_sl, z_nils, b_nil, b_arr, b_box1, b_box2, b_box3, b_box4, List.map_cons, List.map_nil, Bool.and_self, Bool.and_true, Bool.true_and, Bool.not_true, Bool.not_false, Bool.or_false, Bool.false_or, cond_true, cond_false, okPack, okPut, okPutBlks, okPutCells, q_isP, q_isAg, q_isBox, q_isArr, q_int, q_bool, q_str, q_sl, q_nils, e_exit, e_ret, e_nrm, e_ret_exit, e_exit_ret, e_nrm_exit, e_nrm_ret, e_exit_nrm, e_ret_nrm, Nat.zero_add, Nat.reduceAdd, noslR, noslP, noslB, noslA, List.all_cons, List.all_nil]
    rw [ctrs_length, hr]
    simp only [bnd_some, ctl_true, ctl_false, ctl_and, ctl_or', ctl_or2, x_toPV, x_toCs, x_toCs2, x_toEs, x_bEs, x_bCs, x_aPV, x_aCs, x_int, x_bool, x_str, x_es, x_esn, nth_0, nth_1, nth_2, nth_3, nth_4, nth_5, nth_6, nth_7, nth_8, nth_9, y_nil, y_int, y_bool, y_str, y_sl, y_nils, y_agg, y_ownp, y_own, z_nil, z_int, z_bool, z_str, z_sl, z_nils, b_nil, b_arr, b_box1, b_box2, b_box3, b_box4, List.map_cons, List.map_nil, Bool.and_self, Bool.and_true, Bool.true_and, Bool.not_true, Bool.not_false, Bool.or_false, Bool.false_or, cond_true, cond_false, okPack, okPut, okPutBlks, okPutCells, q_isP, q_isAg, q_isBox, q_isArr, q_int, q_bool, q_str, q_sl, q_nils, e_exit, e_ret, e_nrm, e_ret_exit, e_exit_ret, e_nrm_exit, e_nrm_ret, e_exit_nrm, e_ret_nrm, Nat.zero_add, Nat.reduceAdd, noslR, noslP, noslB, noslA, List.all_cons, List.all_nil]
    rw [c_RTick hVa hS (by omega) (by omega), ho]
    simp only [bnd_some, ctl_true, ctl_false, ctl_and, ctl_or', ctl_or2, x_toPV, x_toCs, x_toCs2, x_toEs, x_bEs, x_bCs, x_aPV, x_aCs, x_int, x_bool, x_str, x_es, x_esn, nth_0, nth_1, nth_2, nth_3, nth_4, nth_5, nth_6, nth_7, nth_8, nth_9, y_nil, y_int, y_bool, y_str, y_sl, y_nils, y_agg, y_ownp, y_own, z_nil, z_int, z_bool, z_str, z_sl, z_nils, b_nil, b_arr, b_box1, b_box2, b_box3, b_box4, List.map_cons, List.map_nil, Bool.and_self, Bool.and_true, Bool.true_and, Bool.not_true, Bool.not_false, Bool.or_false, Bool.false_or, cond_true, cond_false, okPack, okPut, okPutBlks, okPutCells, q_isP, q_isAg, q_isBox, q_isArr, q_int, q_bool, q_str, q_sl, q_nils, e_exit, e_ret, e_nrm, e_ret_exit, e_exit_ret, e_nrm_exit, e_nrm_ret, e_exit_nrm, e_ret_nrm, Nat.zero_add, Nat.reduceAdd, noslR, noslP, noslB, noslA, List.all_cons, List.all_nil]
    rw [show ((0 : Int) == 0) = true from rfl, ctl_true, w64 (n := (k : Int) + 1) (by omega), succ_cast]
    exact z5

theorem c_Elected {L : List Int} {q : Nat} (hL : L.length ≤ 600) (hq : q ≤ 600) {n : Nat} (hn : n ≤ 100) : ∃ l M q', q' ≤ 600 ∧ Val l n ∧ (∀ i, i < l.length → (gt l i).ep ≤ n) ∧ Inv l M ∧
    denC E 15 [AV.t (.ptr 0 0), AV.int .i64 (n : Int)] [src L q] = some ([RV.p (PV.sl 3 (ctrs l)), RV.p (PV.int .i64 n)], [src L q']) := by
  have hb := vRange_bounds (L := L) (k := q) (lo := 1) (hi := 5) (by omega)
  have hR := c_Range hL hq (lo := 1) (hi := 5) (by omega)
  obtain ⟨s, hs⟩ : ∃ s : Nat, vRange L q 1 5 = s := ⟨(vRange L q 1 5).toNat, by omega⟩
  rw [hs] at hb hR
  obtain ⟨n1, n2, n3⟩ := new_inv (n := s) (by omega)
  obtain ⟨l', M', q', z1, z2, z3, z4, z5⟩ := elected_loop hL hn n 0 (new s) 0 (at' L q) (at'_le hL hq) (by omega) n1 (fun i _ => by rw [n3]; simp) n2
  refine ⟨l', M', q', z1, z2, z3, z4, ?_⟩
  rw [nc0] at z5
  rw [denC_eq, r15, hR]
  simp only [bnd_some, ctl_true, ctl_false, ctl_and, ctl_or', ctl_or2, x_toPV, x_toCs, x_toCs2, x_toEs, x_bEs, x_bCs, x_aPV, x_aCs, x_int, x_bool, x_str, x_es, x_esn, nth_0, nth_1, nth_2, nth_3, nth_4, nth_5, nth_6, nth_7, nth_8, nth_9, y_nil, y_int, y_bool, y_str, y_sl, y_nils, y_agg, y_ownp, y_own, z_nil, z_int, z_bool, z_str, z_sl, z_nils, b_nil, b_arr, b_box1, b_box2, b_box3, b_box4, List.map_cons, List.map_nil, Bool.and_self, Bool.and_true, Bool.true_and, Bool.not_true, Bool.not_false, Bool.or_false, Bool.false_or, cond_true, cond_false, okPack, okPut, okPutBlks, okPutCells, q_isP, q_isAg, q_isBox, q_isArr, q_int, q_bool, q_str, q_sl, q_nils, e_exit, e_ret, e_nrm, e_ret_exit, e_exit_ret, e_nrm_exit, e_nrm_ret, e_exit_nrm, e_ret_nrm, Nat.zero_add, Nat.reduceAdd, noslR, noslP, noslB, noslA, List.all_cons, List.all_nil]
  rw [c_RNew (by omega)]
  simp only [bnd_some, ctl_true, ctl_false, ctl_and, ctl_or', ctl_or2, x_toPV, x_toCs, x_toCs2, x_toEs, x_bEs, x_bCs, x_aPV, x_aCs, x_int, x_bool, x_str, x_es, x_esn, nth_0, nth_1, nth_2, nth_3, nth_4, nth_5, nth_6, nth_7, nth_8, nth_9, y_nil, y_int, y_bool, y_str, y_sl, y_nils, y_agg, y_ownp, y_own, z_nil, z_int, z_bool, z_str, z_sl, z_nils, b_nil, b_arr, b_box1, b_box2, b_box3, b_box4, List.map_cons, List.map_nil, Bool.and_self, Bool.and_true, Bool.true_and, Bool.not_true, Bool.not_false, Bool.or_false, Bool.false_or, cond_true, cond_false, okPack, okPut, okPutBlks, okPutCells, q_isP, q_isAg, q_isBox, q_isArr, q_int, q_bool, q_str, q_sl, q_nils, e_exit, e_ret, e_nrm, e_ret_exit, e_exit_ret, e_nrm_exit, e_nrm_ret, e_exit_nrm, e_ret_nrm, Nat.zero_add, Nat.reduceAdd, noslR, noslP, noslB, noslA, List.all_cons, List.all_nil]
  rw [z5]
  simp only [bnd_some, ctl_true, ctl_false, ctl_and, ctl_or', ctl_or2, x_toPV, x_toCs, x_toCs2, x_toEs, x_bEs, x_bCs, x_aPV, x_aCs, x_int, x_bool, x_str, x_es, x_esn, nth_0, nth_1, nth_2, nth_3, nth_4, nth_5, nth_6, nth_7, nth_8, nth_9, y_nil, y_int, y_bool, y_str, y_sl, y_nils, y_agg, y_ownp, y_own, z_nil, z_int, z_bool, z_str, z_sl, z_nils, b_nil, b_arr, b_box1, b_box2, b_box3, b_box4, List.map_cons, List.map_nil, Bool.and_self, Bool.and_true, Bool.true_and, Bool.not_true, Bool.not_false, Bool.or_false, Bool.false_or, cond_true, cond_false, okPack, okPut, okPutBlks, okPutCells, q_isP, q_isAg, q_isBox, q_isArr, q_int, q_bool, q_str, q_sl, q_nils, e_exit, e_ret, e_nrm, e_ret_exit, e_exit_ret, e_nrm_exit, e_nrm_ret, e_exit_nrm, e_ret_nrm, Nat.zero_add, Nat.reduceAdd, noslR, noslP, noslB, noslA, List.all_cons, List.all_nil]

/-- At most one is active behind a round. -/
theorem one_active {l : List Ct} {R : List (List Bool)} {t d M : Int} (hI : Inv l M) {o : List Ct} (ho : electM (t3 l R t) R t d = some o) {i j : Nat} (hi : i < l.length) (hj : j < l.length) (h1 : (gt o i).st = 1) (h2 : (gt o j).st = 1) : i = j := by
  have hs := step_t3 l R t
  -- an active one that stays has the bound for epoch
  have stay : ∀ i, i < l.length → (gt (t3 l R t) i).st = 1 → (gt l i).st = 1 ∧ (gt l i).ep = M ∧ maj l (hearsL l R i).length = true := fun i hi h => by
    obtain ⟨a1, a2, a3, _⟩ := t2_act (R := R) hi (by rw [← t3_st hi]; exact h)
    have hH : (l.length : Int) < 2 * ((hearsL l R i).length : Nat) := by simpa [maj] using a2
    have hC : (l.length : Int) < 2 * ((cnt l M).length : Nat) := by simpa [maj] using hI.mj
    have hH' := hH
    unfold hearsL at hH
    unfold cnt at hC
    obtain ⟨x, hx, p1, p2⟩ := meet (by simp) hH hC
    have hxl : x < l.length := by simpa using hx
    have hxm : x ∈ hearsL l R i := hears_mem.2 ⟨hxl, p1⟩
    have hu : upB l i = true := (hr_up p1).1
    have hg := great_mem l (hearsL l R i) 0 x hxm
    have ht : (gt (t1 l R) i).ep = great l 0 (hearsL l R i) := by rw [t1_gt hi, if_pos hu]
    have hle := hI.le i hi a1
    simp only [decide_eq_true_eq] at p2
    exact ⟨a1, by omega, a2⟩
  rcases electM_cases (t3 l R t) R t d with ⟨_, h⟩ | ⟨c, hc, hm, h⟩
  · rw [h] at ho
    cases ho
    apply Classical.byContradiction
    intro hij
    obtain ⟨b1, b2, _⟩ := stay i hi h1
    obtain ⟨c1, c2, _⟩ := stay j hj h2
    exact hI.ne i j hi hj hij b1 c1 (by omega)
  · rw [h] at ho
    split at ho
    · cases ho
    cases ho
    have hcl : c < (t3 l R t).length := cand_lt hc
    have hg := win_gt (t := t) (e := 1 + great (t3 l R t) 0 (VL (t3 l R t) R t d c ++ [c])) hcl (VL_lt (l := t3 l R t) (R := R) (t := t) (d := d) (c := c))
    have key : ∀ i, i < l.length → (gt (win (t3 l R t) t c (VL (t3 l R t) R t d c) (1 + great (t3 l R t) 0 (VL (t3 l R t) R t d c ++ [c]))) i).st = 1 → i = c := fun i hi h1 => by
      apply Classical.byContradiction
      intro hic
      have h3 : (gt (t3 l R t) i).st = 1 := by
        rw [hg, if_neg hic] at h1
        split at h1 <;> exact h1
      obtain ⟨_, _, a3⟩ := stay i hi h3
      have hh : hearsL (t3 l R t) R i = hearsL l R i := hears_congr hs.len hs.up R i
      have hH : ((t3 l R t).length : Int) < 2 * ((hearsL (t3 l R t) R i).length : Nat) := by rw [hh, hs.len]; simpa [maj] using a3
      have hV : ((t3 l R t).length : Int) < 2 * ((VL (t3 l R t) R t d c).length : Nat) := by simpa [maj] using hm
      unfold hearsL at hH
      unfold VL votesL at hV
      obtain ⟨x, hx, p1, p2⟩ := meet (by simp) hH hV
      have hxl : x < (t3 l R t).length := by simpa using hx
      have p2 : votes (t3 l R t) R (candL (t3 l R t) R t d) x = some c := by simpa using p2
      have hld : leadsB (t3 l R t) R x = true := List.any_eq_true.2 ⟨i, hears_mem.2 ⟨by rw [hs.len]; exact hi, by rw [hr_symm]; exact p1⟩, by unfold actB; rw [h3]; rfl⟩
      unfold votes at p2
      rw [if_pos hld] at p2
      cases p2
    exact (key i hi h1).trans (key j hj h2).symm

end Go.Proofs.Ythmhnnppikdafaa.Vm
