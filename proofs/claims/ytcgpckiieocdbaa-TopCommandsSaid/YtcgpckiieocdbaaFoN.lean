/- Chapter 33: epochs over many rounds; Shaken. -/
import Derived.Test.YtcgpckiieocdbaaFoM
namespace Go.Proofs.Ytcgpckiieocdbaa.Vm
set_option linter.unusedVariables false
set_option linter.unusedSimpArgs false

theorem filter_mono {p q : Nat → Bool} : ∀ {l : List Nat}, (∀ x ∈ l, p x = true → q x = true) → (l.filter p).length ≤ (l.filter q).length
  | [], _ => by simp
  | x :: l, h => by
    have ih := filter_mono (p := p) (q := q) (l := l) fun y hy => h y (by simp [hy])
    have hx := h x (by simp)
    rw [List.filter_cons, List.filter_cons]
    cases hp : p x <;> cases hq : q x <;> simp_all <;> omega

def cnt (l : List Ct) (x : Int) : List Nat := (List.range' 0 l.length).filter fun k => decide (x ≤ (gt l k).ep)
structure Inv (l : List Ct) (most : Int) : Prop where
  m0 : 0 ≤ most
  mj : maj l (cnt l most).length = true
  le : ∀ i, i < l.length → (gt l i).st = 1 → (gt l i).ep ≤ most
  ne : ∀ i j, i < l.length → j < l.length → i ≠ j → (gt l i).st = 1 → (gt l j).st = 1 → (gt l i).ep ≠ (gt l j).ep
theorem cnt_up {l o : List Ct} {x : Int} (hl : o.length = l.length) (h : ∀ i, i < l.length → (gt l i).ep ≤ (gt o i).ep) (hm : maj l (cnt l x).length = true) : maj o (cnt o x).length = true := by
  have h1 : (l.length : Int) < 2 * ((cnt l x).length : Nat) := by simpa [maj] using hm
  have h2 : (cnt l x).length ≤ (cnt o x).length := by
    unfold cnt
    rw [hl]
    refine filter_mono fun y hy hx => ?_
    have hyl : y < l.length := by simpa using hy
    have := h y hyl
    simp only [decide_eq_true_eq] at hx ⊢
    omega
  unfold maj
  rw [hl]
  simp only [decide_eq_true_eq]
  omega

theorem act_t3 {l : List Ct} {R : List (List Bool)} {t : Int} {j : Nat} (hj : j < l.length) (h : (gt (t3 l R t) j).st = 1) : (gt l j).st = 1 ∧ (gt (t3 l R t) j).ep = (gt l j).ep := by
  have h1 := t2_act (R := R) hj (by rw [← t3_st hj]; exact h)
  have h2 := (step_t3 l R t).ep j hj
  have h3 := t3_ep (R := R) (t := t) hj
  exact ⟨h1.1, by omega⟩

theorem tick_inv2 {l : List Ct} {R : List (List Bool)} {t d most : Int} (hI : Inv l most) {o : List Ct} (ho : electM (t3 l R t) R t d = some o) : ∃ most', most ≤ most' ∧ Inv o most' ∧ ∀ j, j < l.length → (gt o j).st = 1 → ((gt l j).st = 1 ∧ (gt o j).ep = (gt l j).ep) ∨ most < (gt o j).ep := by
  have hs := step_t3 l R t
  rcases electM_cases (t3 l R t) R t d with ⟨_, h⟩ | ⟨c, hc, hm, h⟩
  · rw [h] at ho
    cases ho
    refine ⟨most, Int.le_refl _, ⟨hI.m0, cnt_up hs.len hs.ep hI.mj, fun i hi h => ?_, fun i j hi hj hij h1 h2 => ?_⟩, fun j hj h1 => .inl (act_t3 hj h1)⟩
    · rw [hs.len] at hi
      obtain ⟨a, b⟩ := act_t3 hi h
      rw [b]; exact hI.le i hi a
    · rw [hs.len] at hi hj
      obtain ⟨a, b⟩ := act_t3 hi h1
      obtain ⟨a', b'⟩ := act_t3 hj h2
      rw [b, b']; exact hI.ne i j hi hj hij a a'
  · rw [h] at ho
    split at ho
    · cases ho
    cases ho
    have hcl : c < (t3 l R t).length := cand_lt hc
    have hcl' : c < l.length := by rw [← hs.len]; exact hcl
    obtain ⟨c1, _, _, _⟩ := cand_st hc
    have hg := win_gt (t := t) (e := 1 + great (t3 l R t) 0 (VL (t3 l R t) R t d c ++ [c])) hcl (VL_lt (l := t3 l R t) (R := R) (t := t) (d := d) (c := c))
    have hgm := great_mem (t3 l R t) (VL (t3 l R t) R t d c ++ [c]) 0
    generalize hE : 1 + great (t3 l R t) 0 (VL (t3 l R t) R t d c ++ [c]) = e at *
    have hst : Rnd l R (win (t3 l R t) t c (VL (t3 l R t) R t d c) e) := step_win hc fun i hi => by
      have := hgm i (by rcases hi with h | h <;> simp [h])
      omega
    -- who is active and was not is c
    have act : ∀ j, j < l.length → (gt (win (t3 l R t) t c (VL (t3 l R t) R t d c) e) j).st = 1 → j = c ∨ ((gt (t3 l R t) j).st = 1 ∧ gt (win (t3 l R t) t c (VL (t3 l R t) R t d c) e) j = gt (t3 l R t) j) := fun j hj h1 => by
      by_cases hjc : j = c
      · exact .inl hjc
      · rw [hg, if_neg hjc] at h1 ⊢
        by_cases hv : j ∈ VL (t3 l R t) R t d c
        · exfalso
          rw [if_pos hv] at h1
          have h1' : (gt (t3 l R t) j).st = 1 := h1
          have hjl : j < (t3 l R t).length := by rw [hs.len]; exact hj
          have hu : upB (t3 l R t) j = true := by unfold upB; rw [h1']; rfl
          have hld : leadsB (t3 l R t) R j = true := List.any_eq_true.2 ⟨j, hears_self hjl hu, by unfold actB; rw [h1']; rfl⟩
          have := (VL_mem.1 hv).2
          unfold votes at this
          rw [if_pos hld] at this
          cases this
        · rw [if_neg hv] at h1 ⊢
          exact .inr ⟨h1, rfl⟩
    -- V is a majority, and one of it had the most
    have hVm : (l.length : Int) < 2 * ((VL (t3 l R t) R t d c).length : Nat) := by rw [← hs.len]; simpa [maj] using hm
    have hme : most < e := by
      have h3 := cnt_up hs.len hs.ep hI.mj
      have h3' : (l.length : Int) < 2 * ((cnt (t3 l R t) most).length : Nat) := by rw [← hs.len]; simpa [maj] using h3
      unfold VL votesL at hVm
      unfold cnt at h3'
      rw [hs.len] at hVm h3'
      obtain ⟨x, hx, p1, p2⟩ := meet (by simp) hVm h3'
      have hxl : x < (t3 l R t).length := by rw [hs.len]; simpa using hx
      have hxv : x ∈ VL (t3 l R t) R t d c := VL_mem.2 ⟨hxl, by simpa using p1⟩
      have := hgm x (by simp [hxv])
      simp only [decide_eq_true_eq] at p2
      omega
    have hcnt : maj (win (t3 l R t) t c (VL (t3 l R t) R t d c) e) (cnt (win (t3 l R t) t c (VL (t3 l R t) R t d c) e) e).length = true := by
      have h2 : (VL (t3 l R t) R t d c).length ≤ (cnt (win (t3 l R t) t c (VL (t3 l R t) R t d c) e) e).length := by
        unfold cnt
        rw [win_len]
        refine filter_mono fun x hx hp => ?_
        have hxl : x < (t3 l R t).length := by simpa using hx
        have hxv : x ∈ VL (t3 l R t) R t d c := VL_mem.2 ⟨hxl, by simpa using hp⟩
        simp only [decide_eq_true_eq]
        rw [hg, if_pos hxv]
        split <;> exact Int.le_refl _
      unfold maj
      rw [win_len, hs.len]
      simp only [decide_eq_true_eq]
      omega
    have old : ∀ j, j < l.length → (gt (win (t3 l R t) t c (VL (t3 l R t) R t d c) e) j).st = 1 → j ≠ c → (gt l j).st = 1 ∧ (gt (win (t3 l R t) t c (VL (t3 l R t) R t d c) e) j).ep = (gt l j).ep := fun j hj h1 hjc => by
      rcases act j hj h1 with h | ⟨h3, h4⟩
      · exact (hjc h).elim
      · rw [h4]; exact act_t3 hj h3
    have hce : (gt (win (t3 l R t) t c (VL (t3 l R t) R t d c) e) c).ep = e := by rw [hg, if_pos rfl]
    have hm0 := hI.m0
    refine ⟨e, by omega, ⟨by omega, hcnt, fun i hi h1 => ?_, fun i j hi hj hij h1 h2 => ?_⟩, fun j hj h1 => ?_⟩
    · rw [hst.len] at hi
      by_cases hic : i = c
      · subst hic; rw [hce]; exact Int.le_refl _
      · obtain ⟨a, b⟩ := old i hi h1 hic
        have := hI.le i hi a
        omega
    · rw [hst.len] at hi hj
      by_cases hic : i = c
      · subst hic
        obtain ⟨a, b⟩ := old j hj h2 (fun h => hij h.symm)
        have := hI.le j hj a
        omega
      · obtain ⟨a, b⟩ := old i hi h1 hic
        have h3 := hI.le i hi a
        by_cases hjc : j = c
        · subst hjc; omega
        · obtain ⟨a', b'⟩ := old j hj h2 hjc
          have := hI.ne i j hi hj hij a a'
          omega
    · by_cases hjc : j = c
      · subst hjc; exact .inr (by omega)
      · exact .inl (old j hj h1 hjc)

theorem tick_inv {l : List Ct} {R : List (List Bool)} {t d most : Int} (hI : Inv l most) {o : List Ct} (ho : electM (t3 l R t) R t d = some o) : ∃ most', most ≤ most' ∧ Inv o most' ∧ ∀ j, j < l.length → (gt o j).st = 1 → (gt l j).st ≠ 1 → most < (gt o j).ep := by
  obtain ⟨M, h1, h2, h3⟩ := tick_inv2 hI ho
  exact ⟨M, h1, h2, fun j hj a b => (h3 j hj a).elim (fun h => (b h.1).elim) id⟩

theorem tick_val {l : List Ct} {R : List (List Bool)} {t d : Int} (hV : Val l t) (ht : 0 ≤ t ∧ t ≤ 2147483648) {o : List Ct} (ho : electM (t3 l R t) R t d = some o) : Val o t := by
  have h3 := hV.t3 (R := R) ht
  rcases electM_cases (t3 l R t) R t d with ⟨_, h⟩ | ⟨c, hc, hm, h⟩
  · rw [h] at ho
    cases ho
    exact h3
  · rw [h] at ho
    split at ho
    · cases ho
    rename_i hbig
    cases ho
    have hcl : c < (t3 l R t).length := cand_lt hc
    have hx : ∀ x ∈ VL (t3 l R t) R t d c ++ [c], x < (t3 l R t).length := fun x hx => by
      rcases List.mem_append.1 hx with h | h
      · exact VL_lt x h
      · rw [List.mem_singleton] at h; rw [h]; exact hcl
    have hgb := great_bd (h3.bd ht.2) _ 0 hx (by omega)
    refine ⟨by rw [win_len]; exact h3.n1, by rw [win_len]; exact h3.n5, fun i hi => ?_⟩
    rw [win_len] at hi
    have hci := h3.c i hi
    rw [win_gt hcl VL_lt]
    split
    · exact ⟨by simp, by simp; omega, by simp; omega⟩
    · split
      · exact ⟨hci.1, by simp; omega, hci.2.2⟩
      · exact hci

/-! ### Crashes and restarts -/
def restartL (l : List Ct) (i : Nat) (t : Int) : List Ct := l.set i ⟨0, (gt l i).ep, t⟩
theorem c_RCrash {l : List Ct} (h5 : l.length ≤ 1000) (i : Nat) : denC E 18 [AV.sl 3 (ctrs l), AV.int .i64 (i : Int)] [] =
    some (if i < l.length ∧ (gt l i).st ≠ 2 then ([RV.p (PV.sl 3 (ctrs (crashL l i))), RV.p (PV.int .i64 0)], []) else ([RV.p (PV.sl 3 []), RV.p (PV.int .i64 (if i < l.length then 11 else 10))], [])) := by
  have e1 : ltB (i : Int) 0 = false := by simp only [decide_eq_false_iff_not]; omega
  have e3 : leN (l.length * 24) 140737488355328 = true := by simp only [decide_eq_true_eq]; omega
  by_cases hi : i < l.length
  · have e2 : leB (l.length : Int) (i : Int) = false := by simp only [decide_eq_false_iff_not]; omega
    rw [denC_eq, r18, ctrs_length, e1, e2, e3, getE_ctrs hi]
    simp only [bnd_some, ctl_true, ctl_false, ctl_and, ctl_or', ctl_or2, x_toPV, x_toCs, x_toCs2, x_toEs, x_bEs, x_bCs, x_aPV, x_aCs, x_int, x_bool, x_str, x_es, x_esn, nth_0, nth_1, nth_2, nth_3, nth_4, nth_5, nth_6, nth_7, nth_8, nth_9, y_nil, y_int, y_bool, y_str, y_sl, y_nils, y_agg, y_ownp, y_own, z_nil, z_int, z_bool, z_str, z_sl, z_nils, b_nil, b_arr, b_box1, b_box2, b_box3, b_box4, List.map_cons, List.map_nil, Bool.and_self, Bool.and_true, Bool.true_and, Bool.not_true, Bool.not_false, Bool.or_false, Bool.false_or, cond_true, cond_false, okPack, okPut, okPutBlks, okPutCells, q_isP, q_isAg, q_isBox, q_isArr, q_int, q_bool, q_str, q_sl, q_nils, e_exit, e_ret, e_nrm, e_ret_exit, e_exit_ret, e_nrm_exit, e_nrm_ret, e_exit_nrm, e_ret_nrm, Nat.zero_add, Nat.reduceAdd, noslR, noslP, noslB, noslA, List.all_cons, List.all_nil]
    rw [in_len hi, Int.toNat_natCast, setEs_st hi]
    by_cases hs : (gt l i).st = 2
    · rw [if_neg (fun h => h.2 hs), if_pos hi, show ((gt l i).st == 2) = true by simpa using hs]
      rfl
    · rw [if_pos ⟨hi, hs⟩, show ((gt l i).st == 2) = false by simpa using hs]
      rfl
  · have e2 : leB (l.length : Int) (i : Int) = true := by simp only [decide_eq_true_eq]; omega
    rw [denC_eq, r18, ctrs_length, e1, e2, if_neg (fun h => hi h.1), if_neg hi]
    simp only [bnd_some, ctl_true, ctl_false, ctl_and, ctl_or', ctl_or2, x_toPV, x_toCs, x_toCs2, x_toEs, x_bEs, x_bCs, x_aPV, x_aCs, x_int, x_bool, x_str, x_es, x_esn, nth_0, nth_1, nth_2, nth_3, nth_4, nth_5, nth_6, nth_7, nth_8, nth_9, y_nil, y_int, y_bool, y_str, y_sl, y_nils, y_agg, y_ownp, y_own, z_nil, z_int, z_bool, z_str, z_sl, z_nils, b_nil, b_arr, b_box1, b_box2, b_box3, b_box4, List.map_cons, List.map_nil, Bool.and_self, Bool.and_true, Bool.true_and, Bool.not_true, Bool.not_false, Bool.or_false, Bool.false_or, cond_true, cond_false, okPack, okPut, okPutBlks, okPutCells, q_isP, q_isAg, q_isBox, q_isArr, q_int, q_bool, q_str, q_sl, q_nils, e_exit, e_ret, e_nrm, e_ret_exit, e_exit_ret, e_nrm_exit, e_nrm_ret, e_exit_nrm, e_ret_nrm, Nat.zero_add, Nat.reduceAdd, noslR, noslP, noslB, noslA, List.all_cons, List.all_nil]

theorem c_RRestart {l : List Ct} (h5 : l.length ≤ 1000) (i : Nat) (t : Int) : ∃ a e, denC E 19 [AV.sl 3 (ctrs l), AV.int .i64 (i : Int), AV.int .i64 t] [] = some ([RV.p (PV.sl 3 (ctrs a)), RV.p (PV.int .i64 e)], []) ∧
    (e ≠ 0 ∨ (i < l.length ∧ (gt l i).st = 2 ∧ (gt l i).hd ≤ t ∧ a = restartL l i t)) := by
  have e1 : ltB (i : Int) 0 = false := by simp only [decide_eq_false_iff_not]; omega
  have e3 : leN (l.length * 24) 140737488355328 = true := by simp only [decide_eq_true_eq]; omega
  by_cases hi : i < l.length
  · have e2 : leB (l.length : Int) (i : Int) = false := by simp only [decide_eq_false_iff_not]; omega
    rw [denC_eq, r19, ctrs_length, e1, e2, e3, getE_ctrs hi]
    simp only [bnd_some, ctl_true, ctl_false, ctl_and, ctl_or', ctl_or2, x_toPV, x_toCs, x_toCs2, x_toEs, x_bEs, x_bCs, x_aPV, x_aCs, x_int, x_bool, x_str, x_es, x_esn, nth_0, nth_1, nth_2, nth_3, nth_4, nth_5, nth_6, nth_7, nth_8, nth_9, y_nil, y_int, y_bool, y_str, y_sl, y_nils, y_agg, y_ownp, y_own, z_nil, z_int, z_bool, z_str, z_sl, z_nils, b_nil, b_arr, b_box1, b_box2, b_box3, b_box4, List.map_cons, List.map_nil, Bool.and_self, Bool.and_true, Bool.true_and, Bool.not_true, Bool.not_false, Bool.or_false, Bool.false_or, cond_true, cond_false, okPack, okPut, okPutBlks, okPutCells, q_isP, q_isAg, q_isBox, q_isArr, q_int, q_bool, q_str, q_sl, q_nils, e_exit, e_ret, e_nrm, e_ret_exit, e_exit_ret, e_nrm_exit, e_nrm_ret, e_exit_nrm, e_ret_nrm, Nat.zero_add, Nat.reduceAdd, noslR, noslP, noslB, noslA, List.all_cons, List.all_nil]
    rw [getE_ctrs hi]
    simp only [bnd_some, ctl_true, ctl_false, ctl_and, ctl_or', ctl_or2, x_toPV, x_toCs, x_toCs2, x_toEs, x_bEs, x_bCs, x_aPV, x_aCs, x_int, x_bool, x_str, x_es, x_esn, nth_0, nth_1, nth_2, nth_3, nth_4, nth_5, nth_6, nth_7, nth_8, nth_9, y_nil, y_int, y_bool, y_str, y_sl, y_nils, y_agg, y_ownp, y_own, z_nil, z_int, z_bool, z_str, z_sl, z_nils, b_nil, b_arr, b_box1, b_box2, b_box3, b_box4, List.map_cons, List.map_nil, Bool.and_self, Bool.and_true, Bool.true_and, Bool.not_true, Bool.not_false, Bool.or_false, Bool.false_or, cond_true, cond_false, okPack, okPut, okPutBlks, okPutCells, q_isP, q_isAg, q_isBox, q_isArr, q_int, q_bool, q_str, q_sl, q_nils, e_exit, e_ret, e_nrm, e_ret_exit, e_exit_ret, e_nrm_exit, e_nrm_ret, e_exit_nrm, e_ret_nrm, Nat.zero_add, Nat.reduceAdd, noslR, noslP, noslB, noslA, List.all_cons, List.all_nil]
    rw [in_len hi, Int.toNat_natCast, setEs_st hi, ctrs_length, List.length_set, in_len hi, setEs_hd (by simpa using hi)]
    by_cases hs : (gt l i).st = 2
    · rw [show ((gt l i).st != 2) = false by simpa using hs, ctl_false]
      by_cases ht : t < (gt l i).hd ∨ 2147483648 < t
      · refine ⟨[], 1, ?_, .inl (by decide)⟩
        have f : (ltB t (gt l i).hd || ltB 2147483648 t) = true := by simp only [Bool.or_eq_true, decide_eq_true_eq]; exact ht
        rw [f]
        rfl
      · have f1 : ltB t (gt l i).hd = false := by simp only [decide_eq_false_iff_not]; omega
        have f2 : ltB 2147483648 t = false := by simp only [decide_eq_false_iff_not]; omega
        rw [f1, f2]
        refine ⟨restartL l i t, 0, ?_, .inr ⟨hi, hs, by omega, rfl⟩⟩
        have hg : gt (l.set i ⟨0, (gt l i).ep, (gt l i).hd⟩) i = ⟨0, (gt l i).ep, (gt l i).hd⟩ := by rw [set_gt hi, if_pos rfl]
        rw [hg, List.set_set]
        rfl
    · rw [show ((gt l i).st != 2) = true by simpa using hs]
      exact ⟨[], 11, rfl, .inl (by decide)⟩
  · have e2 : leB (l.length : Int) (i : Int) = true := by simp only [decide_eq_true_eq]; omega
    rw [denC_eq, r19, ctrs_length, e1, e2]
    exact ⟨[], 10, rfl, .inl (by decide)⟩

/-- What may have happened to the controllers ahead of a round. -/
def Shk (l a : List Ct) (t : Int) : Prop := a = l ∨ (∃ i, i < l.length ∧ (gt l i).st ≠ 2 ∧ a = crashL l i) ∨ ∃ i, i < l.length ∧ (gt l i).st = 2 ∧ (gt l i).hd ≤ t ∧ a = restartL l i t
theorem Shk.len {l a : List Ct} {t : Int} (h : Shk l a t) : a.length = l.length := by
  rcases h with rfl | ⟨i, _, _, rfl⟩ | ⟨i, _, _, _, rfl⟩
  · rfl
  · simp [crashL]
  · simp [restartL]
theorem Shk.get {l a : List Ct} {t : Int} (h : Shk l a t) (j : Nat) : (gt a j).ep = (gt l j).ep ∧ ((gt a j).st = 1 → (gt l j).st = 1) ∧ ((gt a j).hd = (gt l j).hd ∨ ((gt a j).hd = t ∧ j < l.length)) ∧ ((gt a j).st = (gt l j).st ∨ (gt a j).st = 2 ∨ (gt a j).st = 0) := by
  rcases h with rfl | ⟨i, hi, _, rfl⟩ | ⟨i, hi, _, _, rfl⟩
  · exact ⟨rfl, id, .inl rfl, .inl rfl⟩
  · unfold crashL
    rw [set_gt hi]
    by_cases h : j = i
    · subst h; rw [if_pos rfl]; exact ⟨rfl, fun h => absurd h (by show ¬ (2 : Int) = 1; decide), .inl rfl, .inr (.inl rfl)⟩
    · rw [if_neg h]; exact ⟨rfl, id, .inl rfl, .inl rfl⟩
  · unfold restartL
    rw [set_gt hi]
    by_cases h : j = i
    · subst h; rw [if_pos rfl]; exact ⟨rfl, fun h => absurd h (by show ¬ (0 : Int) = 1; decide), .inr ⟨rfl, hi⟩, .inr (.inr rfl)⟩
    · rw [if_neg h]; exact ⟨rfl, id, .inl rfl, .inl rfl⟩
theorem Shk.val {l a : List Ct} {t : Int} (h : Shk l a t) (ht : 0 ≤ t) (hV : Val l t) : Val a t := by
  refine ⟨by rw [h.len]; exact hV.n1, by rw [h.len]; exact hV.n5, fun i hi => ?_⟩
  rw [h.len] at hi
  obtain ⟨h1, h2, h3⟩ := hV.c i hi
  obtain ⟨g1, _, g3, g4⟩ := h.get i
  exact ⟨by omega, by omega, by omega⟩
theorem Val.mono {l : List Ct} {t u : Int} (h : Val l t) (htu : t ≤ u) : Val l u := ⟨h.n1, h.n5, fun i hi => by have := h.c i hi; exact ⟨this.1, this.2.1, this.2.2.1, by have := this.2.2.2; omega⟩⟩
theorem Shk.inv {l a : List Ct} {t m : Int} (h : Shk l a t) (hI : Inv l m) : Inv a m := by
  refine ⟨hI.m0, cnt_up h.len (fun i _ => by rw [(h.get i).1]; exact Int.le_refl _) hI.mj, fun i hi h1 => ?_, fun i j hi hj hij h1 h2 => ?_⟩
  · rw [h.len] at hi
    rw [(h.get i).1]
    exact hI.le i hi ((h.get i).2.1 h1)
  · rw [h.len] at hi hj
    rw [(h.get i).1, (h.get j).1]
    exact hI.ne i j hi hj hij ((h.get i).2.1 h1) ((h.get j).2.1 h2)

theorem c_Shaken {L : List Int} {q : Nat} (hL : L.length ≤ 600) (hq : q ≤ 600) {l : List Ct} (h1 : 1 ≤ l.length) (h5 : l.length ≤ 5) (t : Int) : ∃ a, Shk l a t ∧
    denC E 11 [AV.t (.ptr 0 0), AV.sl 3 (ctrs l), AV.int .i64 t] [src L q] = some ([RV.p (PV.sl 3 (ctrs a))], [src L (at' L q)]) := by
  have hb := vN_bounds (L := L) (k := q) (n := 3 * (l.length : Int)) (by omega)
  have hN := c_N hL hq (3 * (l.length : Int)) (by omega)
  obtain ⟨k, hk⟩ : ∃ k : Nat, vN L q (3 * (l.length : Int)) = k := ⟨(vN L q (3 * (l.length : Int))).toNat, by omega⟩
  rw [hk] at hN
  rw [denC_eq, r11, ctrs_length, w64 (by omega), hN]
  simp only [bnd_some, ctl_true, ctl_false, ctl_and, ctl_or', ctl_or2, x_toPV, x_toCs, x_toCs2, x_toEs, x_bEs, x_bCs, x_aPV, x_aCs, x_int, x_bool, x_str, x_es, x_esn, nth_0, nth_1, nth_2, nth_3, nth_4, nth_5, nth_6, nth_7, nth_8, nth_9, y_nil, y_int, y_bool, y_str, y_sl, y_nils, y_agg, y_ownp, y_own, z_nil, z_int, z_bool, z_str, z_sl, z_nils, b_nil, b_arr, b_box1, b_box2, b_box3, b_box4, List.map_cons, List.map_nil, Bool.and_self, Bool.and_true, Bool.true_and, Bool.not_true, Bool.not_false, Bool.or_false, Bool.false_or, cond_true, cond_false, okPack, okPut, okPutBlks, okPutCells, q_isP, q_isAg, q_isBox, q_isArr, q_int, q_bool, q_str, q_sl, q_nils, e_exit, e_ret, e_nrm, e_ret_exit, e_exit_ret, e_nrm_exit, e_nrm_ret, e_exit_nrm, e_ret_nrm, Nat.zero_add, Nat.reduceAdd, noslR, noslP, noslB, noslA, List.all_cons, List.all_nil]
  rw [c_RCrash (by omega)]
  by_cases hc : k < l.length ∧ (gt l k).st ≠ 2
  · rw [if_pos hc]
    simp only [bnd_some, ctl_true, ctl_false, ctl_and, ctl_or', ctl_or2, x_toPV, x_toCs, x_toCs2, x_toEs, x_bEs, x_bCs, x_aPV, x_aCs, x_int, x_bool, x_str, x_es, x_esn, nth_0, nth_1, nth_2, nth_3, nth_4, nth_5, nth_6, nth_7, nth_8, nth_9, y_nil, y_int, y_bool, y_str, y_sl, y_nils, y_agg, y_ownp, y_own, z_nil, z_int, z_bool, z_str, z_sl, z_nils, b_nil, b_arr, b_box1, b_box2, b_box3, b_box4, List.map_cons, List.map_nil, Bool.and_self, Bool.and_true, Bool.true_and, Bool.not_true, Bool.not_false, Bool.or_false, Bool.false_or, cond_true, cond_false, okPack, okPut, okPutBlks, okPutCells, q_isP, q_isAg, q_isBox, q_isArr, q_int, q_bool, q_str, q_sl, q_nils, e_exit, e_ret, e_nrm, e_ret_exit, e_exit_ret, e_nrm_exit, e_nrm_ret, e_exit_nrm, e_ret_nrm, Nat.zero_add, Nat.reduceAdd, noslR, noslP, noslB, noslA, List.all_cons, List.all_nil, beq_self_eq_true]
    exact ⟨crashL l k, .inr (.inl ⟨k, hc.1, hc.2, rfl⟩), rfl⟩
  · rw [if_neg hc]
    simp only [bnd_some, ctl_true, ctl_false, ctl_and, ctl_or', ctl_or2, x_toPV, x_toCs, x_toCs2, x_toEs, x_bEs, x_bCs, x_aPV, x_aCs, x_int, x_bool, x_str, x_es, x_esn, nth_0, nth_1, nth_2, nth_3, nth_4, nth_5, nth_6, nth_7, nth_8, nth_9, y_nil, y_int, y_bool, y_str, y_sl, y_nils, y_agg, y_ownp, y_own, z_nil, z_int, z_bool, z_str, z_sl, z_nils, b_nil, b_arr, b_box1, b_box2, b_box3, b_box4, List.map_cons, List.map_nil, Bool.and_self, Bool.and_true, Bool.true_and, Bool.not_true, Bool.not_false, Bool.or_false, Bool.false_or, cond_true, cond_false, okPack, okPut, okPutBlks, okPutCells, q_isP, q_isAg, q_isBox, q_isArr, q_int, q_bool, q_str, q_sl, q_nils, e_exit, e_ret, e_nrm, e_ret_exit, e_exit_ret, e_nrm_exit, e_nrm_ret, e_exit_nrm, e_ret_nrm, Nat.zero_add, Nat.reduceAdd, noslR, noslP, noslB, noslA, List.all_cons, List.all_nil]
    have hne : (((if k < l.length then 11 else 10 : Int)) == 0) = false := by split <;> rfl
    obtain ⟨a, e, hr, he⟩ := c_RRestart (l := l) (by omega) k t
    rw [hne, hr]
    simp only [bnd_some, ctl_true, ctl_false, ctl_and, ctl_or', ctl_or2, x_toPV, x_toCs, x_toCs2, x_toEs, x_bEs, x_bCs, x_aPV, x_aCs, x_int, x_bool, x_str, x_es, x_esn, nth_0, nth_1, nth_2, nth_3, nth_4, nth_5, nth_6, nth_7, nth_8, nth_9, y_nil, y_int, y_bool, y_str, y_sl, y_nils, y_agg, y_ownp, y_own, z_nil, z_int, z_bool, z_str, z_sl, z_nils, b_nil, b_arr, b_box1, b_box2, b_box3, b_box4, List.map_cons, List.map_nil, Bool.and_self, Bool.and_true, Bool.true_and, Bool.not_true, Bool.not_false, Bool.or_false, Bool.false_or, cond_true, cond_false, okPack, okPut, okPutBlks, okPutCells, q_isP, q_isAg, q_isBox, q_isArr, q_int, q_bool, q_str, q_sl, q_nils, e_exit, e_ret, e_nrm, e_ret_exit, e_exit_ret, e_nrm_exit, e_nrm_ret, e_exit_nrm, e_ret_nrm, Nat.zero_add, Nat.reduceAdd, noslR, noslP, noslB, noslA, List.all_cons, List.all_nil]
    rcases he with he | ⟨g1, g2, g3, rfl⟩
    · by_cases h0 : e = 0
      · exact (he h0).elim
      · rw [show (e == 0) = false by simpa using h0]
        exact ⟨l, .inl rfl, rfl⟩
    · by_cases h0 : e = 0
      · rw [show (e == 0) = true by simpa using h0]
        exact ⟨_, .inr (.inr ⟨k, g1, g2, g3, rfl⟩), rfl⟩
      · rw [show (e == 0) = false by simpa using h0]
        exact ⟨l, .inl rfl, rfl⟩

end Go.Proofs.Ytcgpckiieocdbaa.Vm
