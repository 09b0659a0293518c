/- The law SentenceChanged. -/
import Derived.Test.YtclnapbghehlaaaDoorSentG
import Derived.Test.YtclnapbghehlaaaDoorRawChanged
namespace Go.Proofs.YtclnapbghehlaaaDoor.Vm
set_option linter.unusedVariables false
set_option linter.unusedSimpArgs false

theorem modn (n m : Int) (hn : 0 ≤ n ∧ n ≤ 255) (hm : 1 ≤ m) : ∃ i : Nat, (IntKind.i64.wrap n).tmod m = (i : Int) ∧ (i : Int) < m := by
  rw [w64 (n := n) (by omega), Int.tmod_eq_emod_of_nonneg hn.1]
  have h1 := Int.emod_nonneg n (b := m) (by omega)
  have h2 := Int.emod_lt_of_pos n (b := m) (by omega)
  exact ⟨(n % m).toNat, by omega, by omega⟩

theorem sum_from' (x : UInt8) (s : List UInt8) : s.foldl (· ^^^ ·) x = x ^^^ sumB s := by
  unfold sumB
  induction s generalizing x with
  | nil => simp
  | cons b s ih =>
    rw [List.foldl_cons, List.foldl_cons, ih, ih (0 ^^^ b)]
    rw [UInt8.zero_xor, UInt8.xor_assoc]
theorem sum_cons (b : UInt8) (s : List UInt8) : sumB (b :: s) = b ^^^ sumB s := by
  show s.foldl (· ^^^ ·) (0 ^^^ b) = _
  rw [sum_from', UInt8.zero_xor]

def chg (s : List UInt8) (i : Nat) (v : UInt8) : List UInt8 := s.set i (s.getD i 0 ^^^ v)
theorem chg_zero (s : List UInt8) (i : Nat) : chg s i 0 = s := by
  unfold chg
  rw [UInt8.xor_zero]
  induction s generalizing i with
  | nil => rfl
  | cons b s ih =>
    cases i with
    | zero => rfl
    | succ i => simpa using ih i
theorem sum_chg (s : List UInt8) (i : Nat) (v : UInt8) (h : i < s.length) : sumB (chg s i v) = sumB s ^^^ v := by
  induction s generalizing i with
  | nil => simp at h
  | cons b s ih =>
    cases i with
    | zero =>
      show sumB ((b ^^^ v) :: s) = _
      rw [sum_cons, sum_cons, UInt8.xor_assoc, UInt8.xor_assoc, UInt8.xor_comm v]
    | succ i =>
      show sumB (b :: chg s i v) = _
      rw [sum_cons, sum_cons, ih i (by simpa using h), UInt8.xor_assoc]
theorem chg_txt0 (J : List UInt8) (v : UInt8) : chg (txt J) 0 v = (36 ^^^ v) :: (J ++ [42, hexd ((sumB J).toNat / 16), hexd ((sumB J).toNat % 16), 13, 10]) := rfl
theorem chg_txt (J : List UInt8) (j : Nat) (v : UInt8) (h : j < J.length) : chg (txt J) (j + 1) v = 36 :: (chg J j v ++ [42, hexd ((sumB J).toNat / 16), hexd ((sumB J).toNat % 16), 13, 10]) := by
  unfold chg txt
  rw [List.set_cons_succ, List.getD_cons_succ, List.set_append_left _ _ h]
  congr 3
  simp [List.getD, h, List.getElem?_append_left]
theorem chg_length (s : List UInt8) (i : Nat) (v : UInt8) : (chg s i v).length = s.length := by simp [chg]

theorem xor_ne {x v : UInt8} (h : v ≠ 0) : x ^^^ v ≠ x := by
  intro e
  apply h
  have := congrArg (x ^^^ ·) e
  simpa [← UInt8.xor_assoc] using this

/-- A byte changed by nothing leaves the text; changed by anything else, it is read as nothing. -/
theorem prs_chg {l : List (List UInt8)} (hv : validB l = true) (hl : (txt (Lib.join l [44])).length ≤ 200) (i : Nat) (v : UInt8) (hi : i ≤ (Lib.join l [44]).length) :
    ((prs (chg (txt (Lib.join l [44])) i v)).2 == 0) = (v == 0) := by
  by_cases h : v = 0
  · subst h
    rw [chg_zero, prs_txt hv hl]; rfl
  · have e : (v == 0) = false := by simpa using h
    rw [e]
    generalize Lib.join l [44] = J at hl hi ⊢
    rw [txt_length] at hl
    cases i with
    | zero =>
      rw [chg_txt0, prs_six _ _ _ _ _ _ _ hl, if_neg fun hc => xor_ne h hc.1]
      rfl
    | succ j =>
      have hlt := (sumB J).toNat_lt
      have h1 := hexv_hexd (n := (sumB J).toNat / 16) (by omega)
      have h2 := hexv_hexd (n := (sumB J).toNat % 16) (by omega)
      rw [chg_txt J j v (by omega), prs_six _ _ _ _ _ _ _ (by rw [chg_length]; exact hl), if_pos ⟨rfl, rfl, by omega, by omega, rfl, rfl⟩]
      unfold prsT
      split
      · rw [if_neg]
        · rfl
        · rw [h1, h2, sum_chg J j v (by omega)]
          intro hc
          have : (sumB J ^^^ v).toNat = (sumB J).toNat := by omega
          exact xor_ne h (UInt8.toNat_inj.1 this)
      · rfl

theorem join_no42 {l : List (List UInt8)} (h : ∀ s ∈ l, ∀ b ∈ s, b ≠ 42) : ∀ b ∈ Lib.join l [44], b ≠ 42 := by
  have ht : ∀ r : List (List UInt8), (∀ s ∈ r, ∀ b ∈ s, b ≠ 42) → ∀ b ∈ Lib.joinTail [44] r, b ≠ 42 := fun r hr b hb => by
    induction r with
    | nil => simp [Lib.joinTail] at hb
    | cons y r ih =>
      simp only [Lib.joinTail, List.map_cons, List.flatten_cons, List.mem_append] at hb ih
      rcases hb with hb | hb
      · rcases hb with hb | hb
        · have := List.mem_singleton.1 hb
          subst this; decide
        · exact hr y (by simp) b hb
      · exact ih (fun s hs => hr s (by simp [hs])) hb
  cases l with
  | nil => simp [Lib.join_nil]
  | cons x r =>
    rw [Lib.join_cons]
    intro b hb
    rcases List.mem_append.1 hb with hb | hb
    · exact h x (by simp) b hb
    · exact ht r (fun s hs => h s (by simp [hs])) b hb
theorem fld_no42 {s : List UInt8} (h : fldB s = true) : ∀ b ∈ s, b ≠ 42 := by
  intro b hb he
  unfold fldB at h
  simp only [Bool.and_eq_true] at h
  have := List.all_eq_true.1 h.2 b hb
  subst he
  exact absurd this (by decide)

/-- A text that is cut is read as nothing. -/
theorem prs_cut {l : List (List UInt8)} (hv : validB l = true) (hl : (txt (Lib.join l [44])).length ≤ 200) (k : Nat) (hk : k < (txt (Lib.join l [44])).length) :
    prs ((txt (Lib.join l [44])).take k) = (.nils, 3) := by
  have hb := join_no42 fun s hs => fld_no42 ((valid_ne hv).2 s hs)
  generalize Lib.join l [44] = J at hl hk hb ⊢
  have hlen : ((txt J).take k).length = k := by simp; omega
  rw [txt_length] at hk
  by_cases h6 : k < 6
  · exact prs_short (by omega)
  · unfold prs splitS
    rw [hlen, if_neg (by rw [txt_length] at hl; omega), if_neg]
    rintro ⟨_, _, h, _⟩
    have h1 : ((txt J).take k).getD (k - 5) 0 = J.getD (k - 6) 0 := by
      simp only [List.getD_eq_getElem?_getD]
      rw [List.getElem?_take_of_lt (by omega)]
      unfold txt
      rw [show k - 5 = (k - 6) + 1 by omega, List.getElem?_cons_succ, List.getElem?_append_left (by omega)]
    rw [h1] at h
    exact hb _ (by simp [List.getD, show k - 6 < J.length by omega]) h

theorem nth_bytes {s : List UInt8} {i : Nat} (h : i < s.length) : nth [] (byteEs s) i = [PV.int .u8 ((s.getD i 0).toNat : Int)] := by
  rw [nth_eq]
  simp [byteEs, List.getD, h]
theorem setEs_bytes {s : List UInt8} {i : Nat} (h : i < s.length) (b : UInt8) : setEs (byteEs s) i 0 [PV.int .u8 (b.toNat : Int)] = byteEs (s.set i b) := by
  unfold setEs
  rw [upd_eq, nth_bytes h]
  have : lay [PV.int .u8 ((s.getD i 0).toNat : Int)] 0 [PV.int .u8 (b.toNat : Int)] = [PV.int .u8 (b.toNat : Int)] := by simp [lay, lay.go]
  rw [this]
  simp [byteEs, List.map_set]
theorem cut_bytes (s : List UInt8) (k : Nat) : cutI (byteEs s) 0 (k : Int) = byteEs (s.take k) := by
  unfold cutI byteEs
  simp [List.map_take]

theorem prs_sh (b : List UInt8) : okCs [Sh.sl 1] [(prs b).1] = true := by
  unfold prs
  split
  · rfl
  · split
    · rfl
    · split
      · split <;> rfl
      · rfl

theorem d_SentenceChanged (t : List Int) (_ : t.length ≤ maxLen) (_ : ∀ n ∈ t, -9223372036854775808 ≤ n ∧ n ≤ 9223372036854775807)
    (a : Int) (ha : 0 ≤ a ∧ a ≤ 255) (b : Int) (hb : 0 ≤ b ∧ b ≤ 255) : denC E 6 [AV.sl 1 (intsK .i64 t), AV.int .u8 a, AV.int .u8 b] [] = some ([RV.p (PV.bool true)], []) := by
  obtain ⟨v, rfl⟩ : ∃ v : UInt8, b = (v.toNat : Int) := ⟨b.toNat.toUInt8, by simp; omega⟩
  rw [denC_eq, r6, c_New]
  simp only [bnd_some, ctl_true, ctl_false, ctl_and, ctl_or', ctl_or2, x_toPV, x_toCs, x_toCs2, x_toEs, x_bEs, x_bCs, x_aPV, x_aCs, x_int, x_bool, x_str, x_es, x_esn, nth_0, nth_1, nth_2, nth_3, nth_4, nth_5, nth_6, nth_7, nth_8, nth_9, y_nil, y_int, y_bool, y_str, y_sl, y_nils, y_agg, y_ownp, y_own, z_nil, z_int, z_bool, z_str, z_sl, z_nils, b_nil, b_arr, b_box1, b_box2, b_box3, b_box4, List.map_cons, List.map_nil, Bool.and_self, Bool.and_true, Bool.true_and, Bool.not_true, Bool.not_false, Bool.or_false, Bool.false_or, cond_true, cond_false, okPack, okPut, okPutBlks, okPutCells, q_isP, q_isAg, q_isBox, q_isArr, q_int, q_bool, q_str, q_sl, q_nils, e_exit, e_ret, e_nrm, e_ret_exit, e_exit_ret, e_nrm_exit, e_nrm_ret, e_exit_nrm, e_ret_nrm, Nat.zero_add, Nat.reduceAdd, noslR, noslP, noslB, noslA, List.all_cons, List.all_nil]
  rw [src_zero, c_SFields Lle (by omega)]
  simp only [bnd_some, ctl_true, ctl_false, ctl_and, ctl_or', ctl_or2, x_toPV, x_toCs, x_toCs2, x_toEs, x_bEs, x_bCs, x_aPV, x_aCs, x_int, x_bool, x_str, x_es, x_esn, nth_0, nth_1, nth_2, nth_3, nth_4, nth_5, nth_6, nth_7, nth_8, nth_9, y_nil, y_int, y_bool, y_str, y_sl, y_nils, y_agg, y_ownp, y_own, z_nil, z_int, z_bool, z_str, z_sl, z_nils, b_nil, b_arr, b_box1, b_box2, b_box3, b_box4, List.map_cons, List.map_nil, Bool.and_self, Bool.and_true, Bool.true_and, Bool.not_true, Bool.not_false, Bool.or_false, Bool.false_or, cond_true, cond_false, okPack, okPut, okPutBlks, okPutCells, q_isP, q_isAg, q_isBox, q_isArr, q_int, q_bool, q_str, q_sl, q_nils, e_exit, e_ret, e_nrm, e_ret_exit, e_exit_ret, e_nrm_exit, e_nrm_ret, e_exit_nrm, e_ret_nrm, Nat.zero_add, Nat.reduceAdd, noslR, noslP, noslB, noslA, List.all_cons, List.all_nil]
  obtain ⟨h1, h2, h3⟩ := vFields_ok (t.take 600) 0
  have h4 := txt_fields (t.take 600) 0
  rw [c_Format _ (by omega), frm_ok h1 (by omega)]
  simp only [bnd_some, ctl_true, ctl_false, ctl_and, ctl_or', ctl_or2, x_toPV, x_toCs, x_toCs2, x_toEs, x_bEs, x_bCs, x_aPV, x_aCs, x_int, x_bool, x_str, x_es, x_esn, nth_0, nth_1, nth_2, nth_3, nth_4, nth_5, nth_6, nth_7, nth_8, nth_9, y_nil, y_int, y_bool, y_str, y_sl, y_nils, y_agg, y_ownp, y_own, z_nil, z_int, z_bool, z_str, z_sl, z_nils, b_nil, b_arr, b_box1, b_box2, b_box3, b_box4, List.map_cons, List.map_nil, Bool.and_self, Bool.and_true, Bool.true_and, Bool.not_true, Bool.not_false, Bool.or_false, Bool.false_or, cond_true, cond_false, okPack, okPut, okPutBlks, okPutCells, q_isP, q_isAg, q_isBox, q_isArr, q_int, q_bool, q_str, q_sl, q_nils, e_exit, e_ret, e_nrm, e_ret_exit, e_exit_ret, e_nrm_exit, e_nrm_ret, e_exit_nrm, e_ret_nrm, Nat.zero_add, Nat.reduceAdd, noslR, noslP, noslB, noslA, List.all_cons, List.all_nil]
  have hchg := fun i hi => prs_chg h1 (by omega) i v hi
  have hcut := fun k hk => prs_cut h1 (by omega) k hk
  have hlen := txt_length (Lib.join (vFields (t.take 600) 0) [44])
  generalize Lib.join (vFields (t.take 600) 0) [44] = J at h4 hchg hcut hlen ⊢
  rw [byteEs_length, hlen]
  have e0 : IntKind.i64.wrap (((J.length + 6 : Nat) : Int) - 5) = ((J.length + 1 : Nat) : Int) := by rw [w64 (by omega)]; omega
  rw [e0]
  obtain ⟨i, ei, hi⟩ := modn a ((J.length + 1 : Nat) : Int) ha (by omega)
  obtain ⟨k, ek, hk⟩ := modn a ((J.length + 6 : Nat) : Int) ha (by omega)
  rw [ei, ek]
  have e1 : ltB ((J.length + 6 : Nat) : Int) 6 = false := decide_eq_false (by omega)
  have e2 : neB ((J.length + 1 : Nat) : Int) 0 = true := decide_eq_true (by omega)
  have e3 : neB ((J.length + 6 : Nat) : Int) 0 = true := decide_eq_true (by omega)
  have e4 : (leB 0 (i : Int) && ltB (i : Int) ((J.length + 6 : Nat) : Int)) = true := in_r ⟨by omega, by omega⟩
  have e5 : (leB 0 (k : Int) && leB (k : Int) ((J.length + 6 : Nat) : Int)) = true := by
    have a1 : leB 0 (k : Int) = true := decide_eq_true (by omega)
    have a2 : leB (k : Int) ((J.length + 6 : Nat) : Int) = true := decide_eq_true (by omega)
    rw [a1, a2]; rfl
  have e6 : leN ((J.length + 6) * 1) 140737488355328 = true := decide_eq_true (by omega)
  have e7 : okCs [Sh.int IntKind.u8] (List.take 1 (List.drop 0 [PV.int IntKind.u8 (((txt J).getD i 0).toNat : Int)])) = true := rfl
  rw [e1, e2, e3, e4, e5, e6, Int.toNat_natCast, nth_bytes (by omega), e7]
  simp only [bne_self_eq_false, bnd_some, ctl_true, ctl_false, ctl_and, ctl_or', ctl_or2, x_toPV, x_toCs, x_toCs2, x_toEs, x_bEs, x_bCs, x_aPV, x_aCs, x_int, x_bool, x_str, x_es, x_esn, nth_0, nth_1, nth_2, nth_3, nth_4, nth_5, nth_6, nth_7, nth_8, nth_9, y_nil, y_int, y_bool, y_str, y_sl, y_nils, y_agg, y_ownp, y_own, z_nil, z_int, z_bool, z_str, z_sl, z_nils, b_nil, b_arr, b_box1, b_box2, b_box3, b_box4, List.map_cons, List.map_nil, Bool.and_self, Bool.and_true, Bool.true_and, Bool.not_true, Bool.not_false, Bool.or_false, Bool.false_or, cond_true, cond_false, okPack, okPut, okPutBlks, okPutCells, q_isP, q_isAg, q_isBox, q_isArr, q_int, q_bool, q_str, q_sl, q_nils, e_exit, e_ret, e_nrm, e_ret_exit, e_exit_ret, e_nrm_exit, e_nrm_ret, e_exit_nrm, e_ret_nrm, Nat.zero_add, Nat.reduceAdd, noslR, noslP, noslB, noslA, List.all_cons, List.all_nil]
  rw [xor8, setEs_bytes (by omega), cut_bytes, c_Parse _ (by simp; omega), c_Parse _ (by simp; omega), hcut k (by omega)]
  simp only [bnd_some, ctl_true, ctl_false, ctl_and, ctl_or', ctl_or2, x_toPV, x_toCs, x_toCs2, x_toEs, x_bEs, x_bCs, x_aPV, x_aCs, x_int, x_bool, x_str, x_es, x_esn, nth_0, nth_1, nth_2, nth_3, nth_4, nth_5, nth_6, nth_7, nth_8, nth_9, y_nil, y_int, y_bool, y_str, y_sl, y_nils, y_agg, y_ownp, y_own, z_nil, z_int, z_bool, z_str, z_sl, z_nils, b_nil, b_arr, b_box1, b_box2, b_box3, b_box4, List.map_cons, List.map_nil, Bool.and_self, Bool.and_true, Bool.true_and, Bool.not_true, Bool.not_false, Bool.or_false, Bool.false_or, cond_true, cond_false, okPack, okPut, okPutBlks, okPutCells, q_isP, q_isAg, q_isBox, q_isArr, q_int, q_bool, q_str, q_sl, q_nils, e_exit, e_ret, e_nrm, e_ret_exit, e_exit_ret, e_nrm_exit, e_nrm_ret, e_exit_nrm, e_ret_nrm, Nat.zero_add, Nat.reduceAdd, noslR, noslP, noslB, noslA, List.all_cons, List.all_nil]
  have := hchg i (by omega)
  unfold chg at this
  rw [this]
  have ev : (((v.toNat : Nat) : Int) == 0) = (v == 0) := b_eq v 0
  rw [ev, beq_self_eq_true]
  simp only [bnd_some, ctl_true, ctl_false, ctl_and, ctl_or', ctl_or2, x_toPV, x_toCs, x_toCs2, x_toEs, x_bEs, x_bCs, x_aPV, x_aCs, x_int, x_bool, x_str, x_es, x_esn, nth_0, nth_1, nth_2, nth_3, nth_4, nth_5, nth_6, nth_7, nth_8, nth_9, y_nil, y_int, y_bool, y_str, y_sl, y_nils, y_agg, y_ownp, y_own, z_nil, z_int, z_bool, z_str, z_sl, z_nils, b_nil, b_arr, b_box1, b_box2, b_box3, b_box4, List.map_cons, List.map_nil, Bool.and_self, Bool.and_true, Bool.true_and, Bool.not_true, Bool.not_false, Bool.or_false, Bool.false_or, cond_true, cond_false, okPack, okPut, okPutBlks, okPutCells, q_isP, q_isAg, q_isBox, q_isArr, q_int, q_bool, q_str, q_sl, q_nils, e_exit, e_ret, e_nrm, e_ret_exit, e_exit_ret, e_nrm_exit, e_nrm_ret, e_exit_nrm, e_ret_nrm, Nat.zero_add, Nat.reduceAdd, noslR, noslP, noslB, noslA, List.all_cons, List.all_nil]
  rw [c_sane, prs_sh]
  rfl

end Go.Proofs.YtclnapbghehlaaaDoor.Vm
