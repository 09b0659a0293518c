/- Contracts of chapter 04: reading, comparing, the source's texts. -/
import Derived.Test.YtmlhemkadoadaaaDoorSentE
namespace Go.Proofs.YtmlhemkadoadaaaDoor.Vm
set_option linter.unusedVariables false
set_option linter.unusedSimpArgs false

/-! ### The document's reading -/
section
variable (c : UInt8) (body : List UInt8) (p x y q r : UInt8)
theorem sx_get {α : Type} (k : Nat) (hk : k < 5) (i : Int) (hi : i = body.length + 1 + k) (K : List PV → Option α) : getE (byteEs (c :: (body ++ [p, x, y, q, r]))) i K = K [PV.int .u8 (([p, x, y, q, r].getD k 0).toNat : Int)] := by
  rw [getE_bytes (by rw [sx_len]; omega)]
  have : i.toNat = body.length + 1 + k := by omega
  rw [this, sx_at]
theorem sx_cut : cutI (byteEs (c :: (body ++ [p, x, y, q, r]))) 1 ((body.length : Int) + 1) = byteEs body := by
  unfold cutI byteEs
  have e : ((body.length : Int) + 1).toNat = body.length + 1 := by omega
  rw [e]
  simp
end

theorem bne_b (b c : UInt8) : ((b.toNat : Int) != (c.toNat : Int)) = !(b == c) := by rw [← b_eq]; rfl

/-- What is read of a text of the right form. -/
def prsT (body : List UInt8) (x y : UInt8) : PV × Int :=
  if validB (spl 44 body) = true then (if ((sumB body).toNat : Int) = 16 * hexv x + hexv y then (.sl 1 (strsK (spl 44 body)), 0) else (.nils, 4)) else (.nils, 3)
theorem prs_six (c : UInt8) (body : List UInt8) (p x y q r : UInt8) (h : body.length + 6 ≤ 200) : prs (c :: (body ++ [p, x, y, q, r])) =
    if c = 36 ∧ p = 42 ∧ 0 ≤ hexv x ∧ 0 ≤ hexv y ∧ q = 13 ∧ r = 10 then prsT body x y else (.nils, 3) := by
  unfold prs
  rw [sx_len, if_neg (by omega), splitS_six]
  split
  · rename_i h; split at h <;> rename_i hc
    · cases h
    · rw [if_neg hc]
  · rename_i h; split at h <;> rename_i hc
    · cases h; rw [if_pos hc]; rfl
    · cases h
theorem prs_short {b : List UInt8} (h : b.length < 6) : prs b = (.nils, 3) := by
  unfold prs splitS
  rw [if_neg (by omega), if_neg (by omega)]
theorem prs_long {b : List UInt8} (h : 200 < b.length) : prs b = (.nils, 2) := by unfold prs; rw [if_pos h]

theorem spl_count (s : List UInt8) : (spl 44 s).length ≤ s.length + 1 := by
  induction s with
  | nil => simp [spl]
  | cons b l ih =>
    unfold spl
    split
    · simp; omega
    · split
      · simp
      · rename_i h; rw [h] at ih; simp at ih ⊢; omega

theorem hexv_le (b : UInt8) : hexv b ≤ 15 ∧ -1 ≤ hexv b := by
  have : ∀ n : Nat, n < 256 → hexv (UInt8.ofNat n) ≤ 15 ∧ -1 ≤ hexv (UInt8.ofNat n) := by decide +kernel
  have h := this b.toNat b.toNat_lt
  rwa [UInt8.ofNat_toNat] at h

theorem c_rParse (b : List UInt8) (h : b.length ≤ 1000000000) : denC E 33 [AV.sl 1 (byteEs b)] [] = some ([RV.agg [(prs b).1], RV.p (PV.int .i64 (prs b).2)], []) := by
  rw [denC_eq, r33, byteEs_length, ctl_dec]
  by_cases h200 : 200 < b.length
  · rw [if_pos (by omega), prs_long h200]
  rw [if_neg (by omega)]
  by_cases h6 : b.length < 6
  · rw [prs_short h6]
    have : ltB (b.length : Int) 6 = true := decide_eq_true (by omega)
    rw [this]
    rfl
  have hn : ltB (b.length : Int) 6 = false := decide_eq_false (by omega)
  obtain ⟨c, body, p, x, y, q, r, rfl⟩ := six (b := b) (by omega)
  have hl : body.length + 6 ≤ 200 := by rw [sx_len] at h200; omega
  rw [prs_six _ _ _ _ _ _ _ hl, hn, sx_len]
  have w5 : IntKind.i64.wrap (((body.length + 6 : Nat) : Int) - 5) = (body.length : Int) + 1 := by rw [w64 (by omega)]; omega
  have w4 : IntKind.i64.wrap (((body.length + 6 : Nat) : Int) - 4) = (body.length : Int) + 2 := by rw [w64 (by omega)]; omega
  have w3 : IntKind.i64.wrap (((body.length + 6 : Nat) : Int) - 3) = (body.length : Int) + 3 := by rw [w64 (by omega)]; omega
  have w2 : IntKind.i64.wrap (((body.length + 6 : Nat) : Int) - 2) = (body.length : Int) + 4 := by rw [w64 (by omega)]; omega
  have w1 : IntKind.i64.wrap (((body.length + 6 : Nat) : Int) - 1) = (body.length : Int) + 5 := by rw [w64 (by omega)]; omega
  rw [w5, w4, w3, w2, w1]
  have g0 : ∀ {α : Type} (K : List PV → Option α), getE (byteEs (c :: (body ++ [p, x, y, q, r]))) 0 K = K [PV.int .u8 (c.toNat : Int)] := fun K => by
    rw [getE_bytes (by rw [sx_len]; omega)]; rfl
  rw [g0, sx_get c body p x y q r 0 (by omega) ((body.length : Int) + 1) (by omega), sx_get c body p x y q r 1 (by omega) ((body.length : Int) + 2) (by omega), sx_get c body p x y q r 2 (by omega) ((body.length : Int) + 3) (by omega),
    sx_get c body p x y q r 3 (by omega) ((body.length : Int) + 4) (by omega), sx_get c body p x y q r 4 (by omega) ((body.length : Int) + 5) (by omega)]
  simp only [List.getD_cons_zero, List.getD_cons_succ, bnd_some, ctl_true, ctl_false, ctl_and, ctl_or', ctl_or2, x_toPV, x_toCs, x_toCs2, x_toEs, x_bEs, x_bCs, x_aPV, x_aCs, x_int, x_bool, x_str, x_es, x_esn, nth_0, nth_1, nth_2, nth_3, nth_4, nth_5, nth_6, nth_7, nth_8, nth_9, y_nil, y_int, y_bool, y_str, y_sl, y_nils, y_agg, y_ownp, y_own, z_nil, z_int, z_bool, z_str, z_sl, z_nils, b_nil, b_arr, b_box1, b_box2, b_box3, b_box4, List.map_cons, List.map_nil, Bool.and_self, Bool.and_true, Bool.true_and, Bool.not_true, Bool.not_false, Bool.or_false, Bool.false_or, cond_true, cond_false, okPack, okPut, okPutBlks, okPutCells, q_isP, q_isAg, q_isBox, q_isArr, q_int, q_bool, q_str, q_sl, q_nils, e_exit, e_ret, e_nrm, e_ret_exit, e_exit_ret, e_nrm_exit, e_nrm_ret, e_exit_nrm, e_ret_nrm, Nat.zero_add, Nat.reduceAdd, noslR, noslP, noslB, noslA, List.all_cons, List.all_nil]
  rw [c_hex, c_hex]
  simp only [bnd_some, ctl_true, ctl_false, ctl_and, ctl_or', ctl_or2, x_toPV, x_toCs, x_toCs2, x_toEs, x_bEs, x_bCs, x_aPV, x_aCs, x_int, x_bool, x_str, x_es, x_esn, nth_0, nth_1, nth_2, nth_3, nth_4, nth_5, nth_6, nth_7, nth_8, nth_9, y_nil, y_int, y_bool, y_str, y_sl, y_nils, y_agg, y_ownp, y_own, z_nil, z_int, z_bool, z_str, z_sl, z_nils, b_nil, b_arr, b_box1, b_box2, b_box3, b_box4, List.map_cons, List.map_nil, Bool.and_self, Bool.and_true, Bool.true_and, Bool.not_true, Bool.not_false, Bool.or_false, Bool.false_or, cond_true, cond_false, okPack, okPut, okPutBlks, okPutCells, q_isP, q_isAg, q_isBox, q_isArr, q_int, q_bool, q_str, q_sl, q_nils, e_exit, e_ret, e_nrm, e_ret_exit, e_exit_ret, e_nrm_exit, e_nrm_ret, e_exit_nrm, e_ret_nrm, Nat.zero_add, Nat.reduceAdd, noslR, noslP, noslB, noslA, List.all_cons, List.all_nil]
  have b36 : ((c.toNat : Int) != 36) = !(c == 36) := bne_b c 36
  have b42 : ((p.toNat : Int) != 42) = !(p == 42) := bne_b p 42
  have b13 : ((q.toNat : Int) != 13) = !(q == 13) := bne_b q 13
  have b10 : ((r.toNat : Int) != 10) = !(r == 10) := bne_b r 10
  rw [b36, b42, b13, b10]
  have hv : (!(c == 36) || !(p == 42) || ltB (hexv x) 0 || ltB (hexv y) 0 || !(q == 13) || !(r == 10)) = !decide (c = 36 ∧ p = 42 ∧ 0 ≤ hexv x ∧ 0 ≤ hexv y ∧ q = 13 ∧ r = 10) := by
    rw [Bool.eq_iff_iff]
    simp only [Bool.or_eq_true, Bool.not_eq_true', beq_eq_false_iff_ne, decide_eq_true_eq, decide_eq_false_iff_not, ne_eq]
    constructor
    · rintro h ⟨a1, a2, a3, a4, a5, a6⟩
      rcases h with ((((h | h) | h) | h) | h) | h
      · exact h a1
      · exact h a2
      · omega
      · omega
      · exact h a5
      · exact h a6
    · intro h
      by_cases a1 : c = 36
      · by_cases a2 : p = 42
        · by_cases a3 : 0 ≤ hexv x
          · by_cases a4 : 0 ≤ hexv y
            · by_cases a5 : q = 13
              · by_cases a6 : r = 10
                · exact absurd ⟨a1, a2, a3, a4, a5, a6⟩ h
                · exact .inr a6
              · exact .inl (.inr a5)
            · exact .inl (.inl (.inr (by omega)))
          · exact .inl (.inl (.inl (.inr (by omega))))
        · exact .inl (.inl (.inl (.inl (.inr a2))))
      · exact .inl (.inl (.inl (.inl (.inl a1))))
  rw [hv, ctl_ndec]
  by_cases hc : c = 36 ∧ p = 42 ∧ 0 ≤ hexv x ∧ 0 ≤ hexv y ∧ q = 13 ∧ r = 10
  · rw [if_pos hc, if_pos hc]
    have hin : (leB 1 ((body.length : Int) + 1) && leB ((body.length : Int) + 1) ((body.length + 6 : Nat) : Int)) = true := by
      have a1 : leB 1 ((body.length : Int) + 1) = true := decide_eq_true (by omega)
      have a2 : leB ((body.length : Int) + 1) ((body.length + 6 : Nat) : Int) = true := decide_eq_true (by omega)
      rw [a1, a2]; rfl
    rw [hin, sx_cut, bytesOk_byteEs, toBytes_byteEs]
    simp only [ctl_true]
    have hs := spl_count body
    rw [c_rFields body (by omega)]
    simp only [bnd_some, ctl_true, ctl_false, ctl_and, ctl_or', ctl_or2, x_toPV, x_toCs, x_toCs2, x_toEs, x_bEs, x_bCs, x_aPV, x_aCs, x_int, x_bool, x_str, x_es, x_esn, nth_0, nth_1, nth_2, nth_3, nth_4, nth_5, nth_6, nth_7, nth_8, nth_9, y_nil, y_int, y_bool, y_str, y_sl, y_nils, y_agg, y_ownp, y_own, z_nil, z_int, z_bool, z_str, z_sl, z_nils, b_nil, b_arr, b_box1, b_box2, b_box3, b_box4, List.map_cons, List.map_nil, Bool.and_self, Bool.and_true, Bool.true_and, Bool.not_true, Bool.not_false, Bool.or_false, Bool.false_or, cond_true, cond_false, okPack, okPut, okPutBlks, okPutCells, q_isP, q_isAg, q_isBox, q_isArr, q_int, q_bool, q_str, q_sl, q_nils, e_exit, e_ret, e_nrm, e_ret_exit, e_exit_ret, e_nrm_exit, e_nrm_ret, e_exit_nrm, e_ret_nrm, Nat.zero_add, Nat.reduceAdd, noslR, noslP, noslB, noslA, List.all_cons, List.all_nil]
    rw [c_rValid _ (by omega)]
    simp only [bnd_some, ctl_true, ctl_false, ctl_and, ctl_or', ctl_or2, x_toPV, x_toCs, x_toCs2, x_toEs, x_bEs, x_bCs, x_aPV, x_aCs, x_int, x_bool, x_str, x_es, x_esn, nth_0, nth_1, nth_2, nth_3, nth_4, nth_5, nth_6, nth_7, nth_8, nth_9, y_nil, y_int, y_bool, y_str, y_sl, y_nils, y_agg, y_ownp, y_own, z_nil, z_int, z_bool, z_str, z_sl, z_nils, b_nil, b_arr, b_box1, b_box2, b_box3, b_box4, List.map_cons, List.map_nil, Bool.and_self, Bool.and_true, Bool.true_and, Bool.not_true, Bool.not_false, Bool.or_false, Bool.false_or, cond_true, cond_false, okPack, okPut, okPutBlks, okPutCells, q_isP, q_isAg, q_isBox, q_isArr, q_int, q_bool, q_str, q_sl, q_nils, e_exit, e_ret, e_nrm, e_ret_exit, e_exit_ret, e_nrm_exit, e_nrm_ret, e_exit_nrm, e_ret_nrm, Nat.zero_add, Nat.reduceAdd, noslR, noslP, noslB, noslA, List.all_cons, List.all_nil]
    unfold prsT
    cases hval : validB (spl 44 body) with
    | false => rfl
    | true =>
      have hx := hexv_le x
      have hy := hexv_le y
      simp only [Bool.not_true, ctl_false, if_true]
      rw [c_rSum body (by omega)]
      simp only [bnd_some, ctl_true, ctl_false, ctl_and, ctl_or', ctl_or2, x_toPV, x_toCs, x_toCs2, x_toEs, x_bEs, x_bCs, x_aPV, x_aCs, x_int, x_bool, x_str, x_es, x_esn, nth_0, nth_1, nth_2, nth_3, nth_4, nth_5, nth_6, nth_7, nth_8, nth_9, y_nil, y_int, y_bool, y_str, y_sl, y_nils, y_agg, y_ownp, y_own, z_nil, z_int, z_bool, z_str, z_sl, z_nils, b_nil, b_arr, b_box1, b_box2, b_box3, b_box4, List.map_cons, List.map_nil, Bool.and_self, Bool.and_true, Bool.true_and, Bool.not_true, Bool.not_false, Bool.or_false, Bool.false_or, cond_true, cond_false, okPack, okPut, okPutBlks, okPutCells, q_isP, q_isAg, q_isBox, q_isArr, q_int, q_bool, q_str, q_sl, q_nils, e_exit, e_ret, e_nrm, e_ret_exit, e_exit_ret, e_nrm_exit, e_nrm_ret, e_exit_nrm, e_ret_nrm, Nat.zero_add, Nat.reduceAdd, noslR, noslP, noslB, noslA, List.all_cons, List.all_nil]
      have hlt := (sumB body).toNat_lt
      rw [sx_get c body p x y q r 1 (by omega) ((body.length : Int) + 2) (by omega)]
      simp only [List.getD_cons_zero, List.getD_cons_succ, bnd_some, ctl_true, ctl_false, ctl_and, ctl_or', ctl_or2, x_toPV, x_toCs, x_toCs2, x_toEs, x_bEs, x_bCs, x_aPV, x_aCs, x_int, x_bool, x_str, x_es, x_esn, nth_0, nth_1, nth_2, nth_3, nth_4, nth_5, nth_6, nth_7, nth_8, nth_9, y_nil, y_int, y_bool, y_str, y_sl, y_nils, y_agg, y_ownp, y_own, z_nil, z_int, z_bool, z_str, z_sl, z_nils, b_nil, b_arr, b_box1, b_box2, b_box3, b_box4, List.map_cons, List.map_nil, Bool.and_self, Bool.and_true, Bool.true_and, Bool.not_true, Bool.not_false, Bool.or_false, Bool.false_or, cond_true, cond_false, okPack, okPut, okPutBlks, okPutCells, q_isP, q_isAg, q_isBox, q_isArr, q_int, q_bool, q_str, q_sl, q_nils, e_exit, e_ret, e_nrm, e_ret_exit, e_exit_ret, e_nrm_exit, e_nrm_ret, e_exit_nrm, e_ret_nrm, Nat.zero_add, Nat.reduceAdd, noslR, noslP, noslB, noslA, List.all_cons, List.all_nil]
      rw [c_hex]
      simp only [bnd_some, ctl_true, ctl_false, ctl_and, ctl_or', ctl_or2, x_toPV, x_toCs, x_toCs2, x_toEs, x_bEs, x_bCs, x_aPV, x_aCs, x_int, x_bool, x_str, x_es, x_esn, nth_0, nth_1, nth_2, nth_3, nth_4, nth_5, nth_6, nth_7, nth_8, nth_9, y_nil, y_int, y_bool, y_str, y_sl, y_nils, y_agg, y_ownp, y_own, z_nil, z_int, z_bool, z_str, z_sl, z_nils, b_nil, b_arr, b_box1, b_box2, b_box3, b_box4, List.map_cons, List.map_nil, Bool.and_self, Bool.and_true, Bool.true_and, Bool.not_true, Bool.not_false, Bool.or_false, Bool.false_or, cond_true, cond_false, okPack, okPut, okPutBlks, okPutCells, q_isP, q_isAg, q_isBox, q_isArr, q_int, q_bool, q_str, q_sl, q_nils, e_exit, e_ret, e_nrm, e_ret_exit, e_exit_ret, e_nrm_exit, e_nrm_ret, e_exit_nrm, e_ret_nrm, Nat.zero_add, Nat.reduceAdd, noslR, noslP, noslB, noslA, List.all_cons, List.all_nil]
      rw [sx_get c body p x y q r 2 (by omega) ((body.length : Int) + 3) (by omega)]
      simp only [List.getD_cons_zero, List.getD_cons_succ, bnd_some, ctl_true, ctl_false, ctl_and, ctl_or', ctl_or2, x_toPV, x_toCs, x_toCs2, x_toEs, x_bEs, x_bCs, x_aPV, x_aCs, x_int, x_bool, x_str, x_es, x_esn, nth_0, nth_1, nth_2, nth_3, nth_4, nth_5, nth_6, nth_7, nth_8, nth_9, y_nil, y_int, y_bool, y_str, y_sl, y_nils, y_agg, y_ownp, y_own, z_nil, z_int, z_bool, z_str, z_sl, z_nils, b_nil, b_arr, b_box1, b_box2, b_box3, b_box4, List.map_cons, List.map_nil, Bool.and_self, Bool.and_true, Bool.true_and, Bool.not_true, Bool.not_false, Bool.or_false, Bool.false_or, cond_true, cond_false, okPack, okPut, okPutBlks, okPutCells, q_isP, q_isAg, q_isBox, q_isArr, q_int, q_bool, q_str, q_sl, q_nils, e_exit, e_ret, e_nrm, e_ret_exit, e_exit_ret, e_nrm_exit, e_nrm_ret, e_exit_nrm, e_ret_nrm, Nat.zero_add, Nat.reduceAdd, noslR, noslP, noslB, noslA, List.all_cons, List.all_nil]
      rw [c_hex]
      simp only [bnd_some, ctl_true, ctl_false, ctl_and, ctl_or', ctl_or2, x_toPV, x_toCs, x_toCs2, x_toEs, x_bEs, x_bCs, x_aPV, x_aCs, x_int, x_bool, x_str, x_es, x_esn, nth_0, nth_1, nth_2, nth_3, nth_4, nth_5, nth_6, nth_7, nth_8, nth_9, y_nil, y_int, y_bool, y_str, y_sl, y_nils, y_agg, y_ownp, y_own, z_nil, z_int, z_bool, z_str, z_sl, z_nils, b_nil, b_arr, b_box1, b_box2, b_box3, b_box4, List.map_cons, List.map_nil, Bool.and_self, Bool.and_true, Bool.true_and, Bool.not_true, Bool.not_false, Bool.or_false, Bool.false_or, cond_true, cond_false, okPack, okPut, okPutBlks, okPutCells, q_isP, q_isAg, q_isBox, q_isArr, q_int, q_bool, q_str, q_sl, q_nils, e_exit, e_ret, e_nrm, e_ret_exit, e_exit_ret, e_nrm_exit, e_nrm_ret, e_exit_nrm, e_ret_nrm, Nat.zero_add, Nat.reduceAdd, noslR, noslP, noslB, noslA, List.all_cons, List.all_nil]
      rw [w64 (n := ((sumB body).toNat : Int)) (by omega), w64 (n := 16 * hexv x) (by omega), w64 (n := 16 * hexv x + hexv y) (by omega)]
      by_cases he : ((sumB body).toNat : Int) = 16 * hexv x + hexv y
      · have : (((sumB body).toNat : Int) != 16 * hexv x + hexv y) = false := by simpa using he
        rw [this, if_pos he]; rfl
      · have : (((sumB body).toNat : Int) != 16 * hexv x + hexv y) = true := by simpa using he
        rw [this, if_neg he]; rfl
  · rw [if_neg hc, if_neg hc]

/-! ### Reading -/
theorem pre36 (c : UInt8) (t : List UInt8) : Lib.hasPrefix (c :: t) [36] = (c == 36) := by
  unfold Lib.hasPrefix
  show ((36 : UInt8) == c && [].isPrefixOf t) = _
  by_cases h : c = 36
  · subst h; rfl
  · have e1 : ((36 : UInt8) == c) = false := by simpa using fun e : 36 = c => h e.symm
    have e2 : (c == 36) = false := by simpa using h
    rw [e1, e2]; rfl
theorem suf2 (l : List UInt8) (q r : UInt8) : Lib.hasSuffix (l ++ [q, r]) [13, 10] = (q == 13 && r == 10) := by
  unfold Lib.hasSuffix List.isSuffixOf
  rw [List.reverse_append]
  show ((10 : UInt8) == r && ((13 : UInt8) == q && [].isPrefixOf l.reverse)) = _
  have e : ∀ a b : UInt8, (a == b) = (b == a) := fun a b => by
    rw [Bool.eq_iff_iff]; simp only [beq_iff_eq]; exact eq_comm
  rw [e 10 r, e 13 q]
  cases r == 10 <;> cases q == 13 <;> rfl
theorem suf_len {s p : List UInt8} (h : Lib.hasSuffix s p = true) : (Lib.trimSuffix s p).length = s.length - p.length := by
  unfold Lib.trimSuffix; rw [if_pos h]; simp
theorem trim36 (t : List UInt8) : Lib.trimPrefix (36 :: t) [36] = t := by
  unfold Lib.trimPrefix; rw [pre36]; rfl
theorem trim2 (l : List UInt8) : Lib.trimSuffix (l ++ [13, 10]) [13, 10] = l := by
  unfold Lib.trimSuffix; rw [suf2]; simp

theorem digs_lit : ([48, 49, 50, 51, 52, 53, 54, 55, 56, 57, 65, 66, 67, 68, 69, 70] : List UInt8) = digs := rfl

theorem hexd_hexv : ∀ a : Nat, a < 16 → ∀ b : Nat, b < 256 → (hexd a = UInt8.ofNat b ↔ hexv (UInt8.ofNat b) = a) := by decide +kernel
theorem hexd_iff (a : Nat) (b : UInt8) (h : a < 16) : hexd a = b ↔ hexv b = a := by
  have := hexd_hexv a h b.toNat b.toNat_lt
  rwa [UInt8.ofNat_toNat] at this

theorem txt_eq (body : List UInt8) (x y : UInt8) (hx : 0 ≤ hexv x) (hy : 0 ≤ hexv y) : (txt body == 36 :: (body ++ [42, x, y, 13, 10])) = decide (((sumB body).toNat : Int) = 16 * hexv x + hexv y) := by
  have hlt := (sumB body).toNat_lt
  have h1 := hexd_iff ((sumB body).toNat / 16) x (by omega)
  have h2 := hexd_iff ((sumB body).toNat % 16) y (by omega)
  have hxl := hexv_le x
  have hyl := hexv_le y
  rw [Bool.eq_iff_iff]
  unfold txt
  simp only [beq_iff_eq, decide_eq_true_eq, List.cons.injEq, List.append_cancel_left_eq, true_and, and_true]
  rw [h1, h2]
  constructor
  · rintro ⟨a, b⟩; omega
  · intro h; omega

section
variable (body : List UInt8) (p x y : UInt8)
theorem t3_len : (body ++ [p, x, y]).length = body.length + 3 := by simp
theorem t3_at (k : Nat) : byteAt (body ++ [p, x, y]) ((body.length : Int) + k) = ([p, x, y].getD k 0).toNat := by
  unfold byteAt
  have : ((body.length : Int) + k).toNat = body.length + k := by omega
  rw [this, nth_eq]
  simp only [List.getD_eq_getElem?_getD]
  rw [List.getElem?_append_right (by omega), Nat.add_sub_cancel_left]
theorem t3_cut : cutI (body ++ [p, x, y]) 0 (body.length : Int) = body := by
  unfold cutI; simp
end

theorem in_r {i n : Int} (h : 0 ≤ i ∧ i < n) : (leB 0 i && ltB i n) = true := by
  have a1 : leB 0 i = true := decide_eq_true h.1
  have a2 : ltB i n = true := decide_eq_true h.2
  rw [a1, a2]; rfl

theorem c_Parse (b : List UInt8) (h : b.length ≤ 1000000000) : denC E 38 [AV.sl 1 (byteEs b)] [] = some ([RV.agg [(prs b).1], RV.p (PV.int .i64 (prs b).2)], []) := by
  rw [denC_eq, r38, byteEs_length, ctl_dec, bytesOk_byteEs, toBytes_byteEs]
  by_cases h200 : 200 < b.length
  · rw [if_pos (by omega), prs_long h200]
  rw [if_neg (by omega), ctl_true, c_CutPrefix]
  simp only [bnd_some, y_str, y_bool, y_nil, b_nil, Bool.and_self, ctl_true, nth_0, nth_1, x_toPV, x_str, x_bool]
  have hl1 : (Lib.trimPrefix b [36]).length ≤ b.length := by unfold Lib.trimPrefix; split <;> simp
  rw [c_CutSuffix _ _ (by omega)]
  simp only [bnd_some, y_str, y_bool, y_nil, b_nil, Bool.and_self, ctl_true, nth_0, nth_1, x_toPV, x_str, x_bool, ctl_or']
  have hl2 : (Lib.trimSuffix (Lib.trimPrefix b [36]) [13, 10]).length ≤ b.length := by
    unfold Lib.trimSuffix
    split
    · rw [List.length_take]; omega
    · exact hl1
  have w3 : IntKind.i64.wrap (((Lib.trimSuffix (Lib.trimPrefix b [36]) [13, 10]).length : Int) - 3) = ((Lib.trimSuffix (Lib.trimPrefix b [36]) [13, 10]).length : Int) - 3 := w64 (by omega)
  rw [w3]
  -- no text of the right form
  have bad : (!Lib.hasPrefix b [36] || !Lib.hasSuffix (Lib.trimPrefix b [36]) [13, 10] || ltB (((Lib.trimSuffix (Lib.trimPrefix b [36]) [13, 10]).length : Int) - 3) 0) = true → prs b = (.nils, 3) := by
    intro hb
    by_cases h6 : b.length < 6
    · exact prs_short h6
    · obtain ⟨c, body, p, x, y, q, r, rfl⟩ := six (b := b) (by omega)
      rw [prs_six _ _ _ _ _ _ _ (by rw [sx_len] at h200; omega)]
      by_cases hc : c = 36 ∧ p = 42 ∧ 0 ≤ hexv x ∧ 0 ≤ hexv y ∧ q = 13 ∧ r = 10
      · exfalso
        obtain ⟨rfl, rfl, _, _, rfl, rfl⟩ := hc
        have e : body ++ [42, x, y, 13, 10] = (body ++ [42, x, y]) ++ [13, 10] := by simp
        rw [trim36, pre36, e, suf2, trim2, t3_len] at hb
        have : ltB (((body.length + 3 : Nat) : Int) - 3) 0 = false := decide_eq_false (by omega)
        rw [this] at hb
        exact absurd hb (by decide)
      · rw [if_neg hc]
  cases hb : (!Lib.hasPrefix b [36] || !Lib.hasSuffix (Lib.trimPrefix b [36]) [13, 10] || ltB (((Lib.trimSuffix (Lib.trimPrefix b [36]) [13, 10]).length : Int) - 3) 0) with
  | true =>
    rw [bad hb]
    simp only [Bool.not_true, ctl_false, bnd_some, ctl_true]
  | false =>
    simp only [Bool.or_eq_false_iff, Bool.not_eq_false'] at hb
    obtain ⟨⟨hp, hs⟩, hn⟩ := hb
    have hn := of_decide_eq_false hn
    have h6 : 6 ≤ b.length := by
      have e1 := suf_len hs
      simp only [List.length_cons, List.length_nil] at e1
      have e2 : (Lib.trimPrefix b [36]).length = b.length - 1 := by unfold Lib.trimPrefix; rw [if_pos hp]; simp
      omega
    obtain ⟨c, body, p, x, y, q, r, rfl⟩ := six h6
    rw [pre36] at hp
    have hc := beq_iff_eq.1 hp
    subst hc
    have e : body ++ [p, x, y, q, r] = (body ++ [p, x, y]) ++ [q, r] := by simp
    rw [trim36, e, suf2] at hs
    simp only [Bool.and_eq_true, beq_iff_eq] at hs
    obtain ⟨rfl, rfl⟩ := hs
    rw [trim36, e, trim2, t3_len] at *
    have hl : body.length + 6 ≤ 200 := by simp at h200; omega
    have e' : (36 :: (body ++ [p, x, y] ++ [13, 10]) : List UInt8) = 36 :: (body ++ [p, x, y, 13, 10]) := by simp
    rw [e', prs_six _ _ _ _ _ _ _ hl]
    have n0 : (((body.length + 3 : Nat) : Int) - 3) = (body.length : Int) := by omega
    rw [n0, w64 (n := (body.length : Int) + 1) (by omega), w64 (n := (body.length : Int) + 2) (by omega)]
    have a0 : byteAt (body ++ [p, x, y]) (body.length : Int) = (p.toNat : Int) := by have := t3_at body p x y 0; rwa [show ((body.length : Int) + ((0 : Nat) : Int)) = (body.length : Int) by omega] at this
    have a1 : byteAt (body ++ [p, x, y]) ((body.length : Int) + 1) = (x.toNat : Int) := t3_at body p x y 1
    have a2 : byteAt (body ++ [p, x, y]) ((body.length : Int) + 2) = (y.toNat : Int) := t3_at body p x y 2
    rw [a0, a1, a2, in_r (i := (body.length : Int)) (by omega), in_r (i := (body.length : Int) + 1) (by omega), in_r (i := (body.length : Int) + 2) (by omega), c_IndexByte, c_IndexByte, u8_back, u8_back, digs_lit]
    simp only [Bool.not_false, bnd_some, ctl_true, y_int, y_nil, b_nil, Bool.and_self, nth_0, x_toPV, x_int, ctl_or']
    have b42 : ((p.toNat : Int) != 42) = !(p == 42) := bne_b p 42
    have hx0 : Lib.indexByte digs x = hexv x := rfl
    have hy0 : Lib.indexByte digs y = hexv y := rfl
    rw [b42, hx0, hy0]
    by_cases hc : p = 42 ∧ 0 ≤ hexv x ∧ 0 ≤ hexv y
    · obtain ⟨rfl, hx, hy⟩ := hc
      have c1 : ltB (hexv x) 0 = false := decide_eq_false (by omega)
      have c2 : ltB (hexv y) 0 = false := decide_eq_false (by omega)
      have hin : (true && (leB 0 (body.length : Int) && leB (body.length : Int) ((body.length + 3 : Nat) : Int))) = true := by
        have a1 : leB 0 (body.length : Int) = true := decide_eq_true (by omega)
        have a2 : leB (body.length : Int) ((body.length + 3 : Nat) : Int) = true := decide_eq_true (by omega)
        rw [a1, a2]; rfl
      have hs := spl_count body
      rw [c1, c2, hin, t3_cut, c_Fields body (by omega)]
      simp only [beq_self_eq_true, Bool.not_true, Bool.or_false, bnd_some, ctl_true, ctl_false, ctl_and, ctl_or', ctl_or2, x_toPV, x_toCs, x_toCs2, x_toEs, x_bEs, x_bCs, x_aPV, x_aCs, x_int, x_bool, x_str, x_es, x_esn, nth_0, nth_1, nth_2, nth_3, nth_4, nth_5, nth_6, nth_7, nth_8, nth_9, y_nil, y_int, y_bool, y_str, y_sl, y_nils, y_agg, y_ownp, y_own, z_nil, z_int, z_bool, z_str, z_sl, z_nils, b_nil, b_arr, b_box1, b_box2, b_box3, b_box4, List.map_cons, List.map_nil, Bool.and_self, Bool.and_true, Bool.true_and, Bool.not_true, Bool.not_false, Bool.or_false, Bool.false_or, cond_true, cond_false, okPack, okPut, okPutBlks, okPutCells, q_isP, q_isAg, q_isBox, q_isArr, q_int, q_bool, q_str, q_sl, q_nils, e_exit, e_ret, e_nrm, e_ret_exit, e_exit_ret, e_nrm_exit, e_nrm_ret, e_exit_nrm, e_ret_nrm, Nat.zero_add, Nat.reduceAdd, noslR, noslP, noslB, noslA, List.all_cons, List.all_nil]
      rw [c_Valid _ (by omega)]
      simp only [bnd_some, ctl_true, ctl_false, ctl_and, ctl_or', ctl_or2, x_toPV, x_toCs, x_toCs2, x_toEs, x_bEs, x_bCs, x_aPV, x_aCs, x_int, x_bool, x_str, x_es, x_esn, nth_0, nth_1, nth_2, nth_3, nth_4, nth_5, nth_6, nth_7, nth_8, nth_9, y_nil, y_int, y_bool, y_str, y_sl, y_nils, y_agg, y_ownp, y_own, z_nil, z_int, z_bool, z_str, z_sl, z_nils, b_nil, b_arr, b_box1, b_box2, b_box3, b_box4, List.map_cons, List.map_nil, Bool.and_self, Bool.and_true, Bool.true_and, Bool.not_true, Bool.not_false, Bool.or_false, Bool.false_or, cond_true, cond_false, okPack, okPut, okPutBlks, okPutCells, q_isP, q_isAg, q_isBox, q_isArr, q_int, q_bool, q_str, q_sl, q_nils, e_exit, e_ret, e_nrm, e_ret_exit, e_exit_ret, e_nrm_exit, e_nrm_ret, e_exit_nrm, e_ret_nrm, Nat.zero_add, Nat.reduceAdd, noslR, noslP, noslB, noslA, List.all_cons, List.all_nil]
      rw [if_pos ⟨trivial, trivial, hx, hy, trivial, trivial⟩]
      unfold prsT
      cases hval : validB (spl 44 body) with
      | false => rfl
      | true =>
        simp only [Bool.not_true, ctl_false, if_true]
        rw [c_text body (by omega)]
        simp only [bnd_some, ctl_true, ctl_false, ctl_and, ctl_or', ctl_or2, x_toPV, x_toCs, x_toCs2, x_toEs, x_bEs, x_bCs, x_aPV, x_aCs, x_int, x_bool, x_str, x_es, x_esn, nth_0, nth_1, nth_2, nth_3, nth_4, nth_5, nth_6, nth_7, nth_8, nth_9, y_nil, y_int, y_bool, y_str, y_sl, y_nils, y_agg, y_ownp, y_own, z_nil, z_int, z_bool, z_str, z_sl, z_nils, b_nil, b_arr, b_box1, b_box2, b_box3, b_box4, List.map_cons, List.map_nil, Bool.and_self, Bool.and_true, Bool.true_and, Bool.not_true, Bool.not_false, Bool.or_false, Bool.false_or, cond_true, cond_false, okPack, okPut, okPutBlks, okPutCells, q_isP, q_isAg, q_isBox, q_isArr, q_int, q_bool, q_str, q_sl, q_nils, e_exit, e_ret, e_nrm, e_ret_exit, e_exit_ret, e_nrm_exit, e_nrm_ret, e_exit_nrm, e_ret_nrm, Nat.zero_add, Nat.reduceAdd, noslR, noslP, noslB, noslA, List.all_cons, List.all_nil]
        rw [bytesOk_byteEs, toBytes_byteEs, ctl_true, txt_eq body x y hx hy, ctl_ndec]
        by_cases he : ((sumB body).toNat : Int) = 16 * hexv x + hexv y
        · rw [if_pos he, if_pos he]
        · rw [if_neg he, if_neg he]
    · rw [if_neg (fun h => hc ⟨h.2.1, h.2.2.1, h.2.2.2.1⟩)]
      have : (!(p == 42) || ltB (hexv x) 0 || ltB (hexv y) 0) = true := by
        by_cases a1 : p = 42
        · by_cases a2 : 0 ≤ hexv x
          · by_cases a3 : 0 ≤ hexv y
            · exact absurd ⟨a1, a2, a3⟩ hc
            · have : ltB (hexv y) 0 = true := decide_eq_true (by omega)
              rw [this, Bool.or_true]
          · have : ltB (hexv x) 0 = true := decide_eq_true (by omega)
            rw [this, Bool.or_true, Bool.true_or]
        · have : (p == 42) = false := by simpa using a1
          rw [this]; rfl
      rw [this, ctl_true]

/-! ### Comparing -/
theorem l_Texts (l : List (List UInt8)) : ∀ (pre a' : List (List UInt8)) (b' : List (List UInt8)), a' = pre ++ l → a'.length = b'.length → pre = b'.take pre.length → a'.length ≤ 1000000000 →
    lp E (denC E) 39 0 [] 0 { vals := [AV.sl 1 (strsK a'), AV.sl 1 (strsK b'), AV.int .i64 a'.length, AV.int .i64 pre.length], blks := [] } =
    some (bif l == b'.drop pre.length then (Ex.exit 0, { vals := [], blks := [] }) else (Ex.ret, { vals := [AV.bool false], blks := [] })) := by
  induction l with
  | nil =>
    intro pre a' b' ha hl hp hn
    rw [List.append_nil] at ha
    subst ha
    rw [r39_0, ctl_dec, if_neg (by omega), List.drop_of_length_le (by omega)]
    rfl
  | cons x l ih =>
    intro pre a' b' ha hl hp hn
    have hlt : pre.length < a'.length := by rw [ha]; simp
    have hxa : a'.getD ((pre.length : Int)).toNat [] = x := by rw [ha, Int.toNat_natCast, getD_mid]
    have hd : b'.drop pre.length = b'.getD pre.length [] :: b'.drop (pre.length + 1) := by
      rw [List.drop_eq_getElem_cons (by omega)]
      simp [List.getD, show pre.length < b'.length by omega]
    rw [r39_0, ctl_dec, if_pos (by omega), getE_strs (by omega), getE_strs (by omega), hxa, Int.toNat_natCast]
    simp only [bnd_some, ctl_true, ctl_false, ctl_and, ctl_or', ctl_or2, x_toPV, x_toCs, x_toCs2, x_toEs, x_bEs, x_bCs, x_aPV, x_aCs, x_int, x_bool, x_str, x_es, x_esn, nth_0, nth_1, nth_2, nth_3, nth_4, nth_5, nth_6, nth_7, nth_8, nth_9, y_nil, y_int, y_bool, y_str, y_sl, y_nils, y_agg, y_ownp, y_own, z_nil, z_int, z_bool, z_str, z_sl, z_nils, b_nil, b_arr, b_box1, b_box2, b_box3, b_box4, List.map_cons, List.map_nil, Bool.and_self, Bool.and_true, Bool.true_and, Bool.not_true, Bool.not_false, Bool.or_false, Bool.false_or, cond_true, cond_false, okPack, okPut, okPutBlks, okPutCells, q_isP, q_isAg, q_isBox, q_isArr, q_int, q_bool, q_str, q_sl, q_nils, e_exit, e_ret, e_nrm, e_ret_exit, e_exit_ret, e_nrm_exit, e_nrm_ret, e_exit_nrm, e_ret_nrm, Nat.zero_add, Nat.reduceAdd, noslR, noslP, noslB, noslA, List.all_cons, List.all_nil]
    rw [hd, w64 (by omega), len_snoc pre x]
    have hcc : (x :: l == b'.getD pre.length [] :: b'.drop (pre.length + 1)) = (x == b'.getD pre.length [] && l == b'.drop (pre.length + 1)) := rfl
    rw [hcc]
    cases hx : (x == b'.getD pre.length []) with
    | false => simp only [Bool.not_false, ctl_true, Bool.false_and, cond_false]
    | true =>
      have hxe := beq_iff_eq.1 hx
      have htk : pre ++ [x] = b'.take (pre ++ [x]).length := by
        have : b'.take (pre.length + 1) = b'.take pre.length ++ [b'.getD pre.length []] := by
          rw [List.take_add_one]
          simp [List.getD, show pre.length < b'.length by omega]
        rw [List.length_append, List.length_singleton, this, ← hp, hxe]
      rw [ih (pre ++ [x]) a' b' (by rw [ha]; simp) hl htk hn]
      simp only [Bool.not_true, ctl_false, Bool.true_and, List.length_append, List.length_singleton]

theorem c_Texts (a b : List (List UInt8)) (h : a.length ≤ 1000000000) : denC E 39 [AV.sl 1 (strsK a), AV.sl 1 (strsK b)] [] = some ([RV.p (PV.bool (a == b))], []) := by
  rw [denC_eq, r39, strsK_length, strsK_length]
  by_cases hl : a.length = b.length
  · have e : ((a.length : Int) != (b.length : Int)) = false := by rw [hl]; simp
    rw [e, ctl_false, show (AV.int IntKind.i64 0) = AV.int .i64 (([] : List (List UInt8)).length : Int) from rfl, l_Texts a [] a b rfl hl rfl h]
    simp only [List.length_nil, List.drop_zero]
    cases a == b <;> simp [bnd_some, ctl_true, ctl_false, ctl_and, ctl_or', ctl_or2, x_toPV, x_toCs, x_toCs2, x_toEs, x_bEs, x_bCs, x_aPV, x_aCs, x_int, x_bool, x_str, x_es, x_esn, nth_0, nth_1, nth_2, nth_3, nth_4, nth_5, nth_6, nth_7, nth_8, nth_9, y_nil, y_int, y_bool, y_str, y_sl, y_nils, y_agg, y_ownp, y_own, z_nil, z_int, z_bool, z_str, z_sl, z_nils, b_nil, b_arr, b_box1, b_box2, b_box3, b_box4, List.map_cons, List.map_nil, Bool.and_self, Bool.and_true, Bool.true_and, Bool.not_true, Bool.not_false, Bool.or_false, Bool.false_or, cond_true, cond_false, okPack, okPut, okPutBlks, okPutCells, q_isP, q_isAg, q_isBox, q_isArr, q_int, q_bool, q_str, q_sl, q_nils, e_exit, e_ret, e_nrm, e_ret_exit, e_exit_ret, e_nrm_exit, e_nrm_ret, e_exit_nrm, e_ret_nrm, Nat.zero_add, Nat.reduceAdd, noslR, noslP, noslB, noslA, List.all_cons, List.all_nil, okPack, okPut, okPutBlks]
  · have e : ((a.length : Int) != (b.length : Int)) = true := by simp; omega
    have e2 : (a == b) = false := by
      rw [Bool.eq_false_iff]
      intro hh
      exact hl (by rw [beq_iff_eq.1 hh])
    rw [e, ctl_true, e2]

theorem c_Same (a b : List (List UInt8)) (h : a.length ≤ 1000000000) : denC E 27 [AV.agg [PV.sl 1 (strsK a)], AV.agg [PV.sl 1 (strsK b)]] [] = some ([RV.p (PV.bool (a == b))], []) := by
  rw [denC_eq, r27, c_Texts a b h]
  simp only [bnd_some, ctl_true, ctl_false, ctl_and, ctl_or', ctl_or2, x_toPV, x_toCs, x_toCs2, x_toEs, x_bEs, x_bCs, x_aPV, x_aCs, x_int, x_bool, x_str, x_es, x_esn, nth_0, nth_1, nth_2, nth_3, nth_4, nth_5, nth_6, nth_7, nth_8, nth_9, y_nil, y_int, y_bool, y_str, y_sl, y_nils, y_agg, y_ownp, y_own, z_nil, z_int, z_bool, z_str, z_sl, z_nils, b_nil, b_arr, b_box1, b_box2, b_box3, b_box4, List.map_cons, List.map_nil, Bool.and_self, Bool.and_true, Bool.true_and, Bool.not_true, Bool.not_false, Bool.or_false, Bool.false_or, cond_true, cond_false, okPack, okPut, okPutBlks, okPutCells, q_isP, q_isAg, q_isBox, q_isArr, q_int, q_bool, q_str, q_sl, q_nils, e_exit, e_ret, e_nrm, e_ret_exit, e_exit_ret, e_nrm_exit, e_nrm_ret, e_exit_nrm, e_ret_nrm, Nat.zero_add, Nat.reduceAdd, noslR, noslP, noslB, noslA, List.all_cons, List.all_nil]

/-! ### The source's texts -/
def vText (L : List Int) (k : Nat) (l : List (List UInt8)) : List UInt8 := l.getD (vN L k l.length).toNat []
theorem c_SText {L : List Int} {k : Nat} (hL : L.length ≤ 600) (hk : k ≤ 600) {l : List (List UInt8)} (hl : 1 ≤ l.length ∧ l.length ≤ 1000) :
    denC E 29 [AV.t (.ptr 0 0), AV.sl 1 (strsK l)] [src L k] = some ([RV.p (PV.str (vText L k l))], [src L (at' L k)]) := by
  rw [denC_eq]
  have hN := c_N hL hk l.length (by omega)
  have hb := vN_bounds (L := L) (k := k) (n := l.length) (by omega)
  rw [r29, strsK_length, hN]
  simp only [bnd_some, ctl_true, ctl_false, ctl_and, ctl_or', ctl_or2, x_toPV, x_toCs, x_toCs2, x_toEs, x_bEs, x_bCs, x_aPV, x_aCs, x_int, x_bool, x_str, x_es, x_esn, nth_0, nth_1, nth_2, nth_3, nth_4, nth_5, nth_6, nth_7, nth_8, nth_9, y_nil, y_int, y_bool, y_str, y_sl, y_nils, y_agg, y_ownp, y_own, z_nil, z_int, z_bool, z_str, z_sl, z_nils, b_nil, b_arr, b_box1, b_box2, b_box3, b_box4, List.map_cons, List.map_nil, Bool.and_self, Bool.and_true, Bool.true_and, Bool.not_true, Bool.not_false, Bool.or_false, Bool.false_or, cond_true, cond_false, okPack, okPut, okPutBlks, okPutCells, q_isP, q_isAg, q_isBox, q_isArr, q_int, q_bool, q_str, q_sl, q_nils, e_exit, e_ret, e_nrm, e_ret_exit, e_exit_ret, e_nrm_exit, e_nrm_ret, e_exit_nrm, e_ret_nrm, Nat.zero_add, Nat.reduceAdd, noslR, noslP, noslB, noslA, List.all_cons, List.all_nil]
  rw [getE_strs hb]
  simp only [bnd_some, ctl_true, ctl_false, ctl_and, ctl_or', ctl_or2, x_toPV, x_toCs, x_toCs2, x_toEs, x_bEs, x_bCs, x_aPV, x_aCs, x_int, x_bool, x_str, x_es, x_esn, nth_0, nth_1, nth_2, nth_3, nth_4, nth_5, nth_6, nth_7, nth_8, nth_9, y_nil, y_int, y_bool, y_str, y_sl, y_nils, y_agg, y_ownp, y_own, z_nil, z_int, z_bool, z_str, z_sl, z_nils, b_nil, b_arr, b_box1, b_box2, b_box3, b_box4, List.map_cons, List.map_nil, Bool.and_self, Bool.and_true, Bool.true_and, Bool.not_true, Bool.not_false, Bool.or_false, Bool.false_or, cond_true, cond_false, okPack, okPut, okPutBlks, okPutCells, q_isP, q_isAg, q_isBox, q_isArr, q_int, q_bool, q_str, q_sl, q_nils, e_exit, e_ret, e_nrm, e_ret_exit, e_exit_ret, e_nrm_exit, e_nrm_ret, e_exit_nrm, e_ret_nrm, Nat.zero_add, Nat.reduceAdd, noslR, noslP, noslB, noslA, List.all_cons, List.all_nil]
  rfl
theorem vText_mem (L : List Int) (k : Nat) {l : List (List UInt8)} (hl : 1 ≤ l.length) : vText L k l ∈ l := by
  have hb := vN_bounds (L := L) (k := k) (n := l.length) (by omega)
  have hlt : (vN L k l.length).toNat < l.length := by omega
  unfold vText
  simp [List.getD, hlt]

def words : List (List UInt8) := [[65], [49], [70, 73, 88], [45, 50, 48], [], [120, 32, 121], [49, 55], [72, 68, 71], [126, 33]]
/-- n texts out of the source. -/
def takeT (L : List Int) : Nat → Nat → List (List UInt8) × Nat
  | 0, k => ([], k)
  | n + 1, k => (vText L k words :: (takeT L n (at' L k)).1, (takeT L n (at' L k)).2)
theorem takeT_at (L : List Int) (hL : L.length ≤ 600) : ∀ n k, k ≤ 600 → (takeT L n k).2 ≤ 600
  | 0, k, h => h
  | n + 1, k, h => takeT_at L hL n _ (at'_le hL h)
theorem takeT_len (L : List Int) : ∀ n k, (takeT L n k).1.length = n
  | 0, k => rfl
  | n + 1, k => by simp [takeT, takeT_len L n]
theorem takeT_mem (L : List Int) : ∀ n k, ∀ x ∈ (takeT L n k).1, x ∈ words
  | 0, k, x, h => by cases h
  | n + 1, k, x, h => by
    rcases List.mem_cons.1 h with rfl | h
    · exact vText_mem L k (by decide)
    · exact takeT_mem L n _ x h

theorem l_SFields {L : List Int} (hL : L.length ≤ 600) : ∀ (n k : Nat) (done : List (List UInt8)), k ≤ 600 → n ≤ 100 → done.length + n ≤ 1000 →
    lp E (denC E) 15 1 [] 0 { vals := [AV.int .i64 n], blks := [src L k, Blk.arr 1 (strsK done)] } =
    some (Ex.exit 0, { vals := [], blks := [src L (takeT L n k).2, Blk.arr 1 (strsK (done ++ (takeT L n k).1))] }) := by
  intro n
  induction n with
  | zero =>
    intro k done hk hn hd
    rw [r15_0, ctl_dec, if_neg (by omega)]
    simp only [takeT, List.append_nil]
  | succ n ih =>
    intro k done hk hn hd
    have hw : ([[PV.str [65]], [PV.str [49]], [PV.str [70, 73, 88]], [PV.str [45, 50, 48]], [PV.str []], [PV.str [120, 32, 121]], [PV.str [49, 55]], [PV.str [72, 68, 71]], [PV.str [126, 33]]] : List (List PV)) = strsK words := rfl
    rw [r15_0, ctl_dec, if_pos (by omega), hw, c_SText hL hk (by decide)]
    simp only [bnd_some, ctl_true, ctl_false, ctl_and, ctl_or', ctl_or2, x_toPV, x_toCs, x_toCs2, x_toEs, x_bEs, x_bCs, x_aPV, x_aCs, x_int, x_bool, x_str, x_es, x_esn, nth_0, nth_1, nth_2, nth_3, nth_4, nth_5, nth_6, nth_7, nth_8, nth_9, y_nil, y_int, y_bool, y_str, y_sl, y_nils, y_agg, y_ownp, y_own, z_nil, z_int, z_bool, z_str, z_sl, z_nils, b_nil, b_arr, b_box1, b_box2, b_box3, b_box4, List.map_cons, List.map_nil, Bool.and_self, Bool.and_true, Bool.true_and, Bool.not_true, Bool.not_false, Bool.or_false, Bool.false_or, cond_true, cond_false, okPack, okPut, okPutBlks, okPutCells, q_isP, q_isAg, q_isBox, q_isArr, q_int, q_bool, q_str, q_sl, q_nils, e_exit, e_ret, e_nrm, e_ret_exit, e_exit_ret, e_nrm_exit, e_nrm_ret, e_exit_nrm, e_ret_nrm, Nat.zero_add, Nat.reduceAdd, noslR, noslP, noslB, noslA, List.all_cons, List.all_nil]
    have e : strsK done ++ [[PV.str (vText L k words)]] = strsK (done ++ [vText L k words]) := by simp [strsK]
    have e1 : IntKind.i64.wrap (((n + 1 : Nat) : Int) - 1) = (n : Int) := by rw [w64 (by omega)]; omega
    rw [ctl_dec, if_pos (by rw [strsK_length]; omega), e, e1, ih (at' L k) (done ++ [vText L k words]) (at'_le hL hk) (by omega) (by simp; omega)]
    simp only [takeT, List.append_assoc, List.singleton_append]

/-- The fields that the source makes. -/
def vFields (L : List Int) (k : Nat) : List (List UInt8) :=
  if (takeT L (vRange L k 1 5).toNat (at' L k)).1 = [[]] then [[65]] else (takeT L (vRange L k 1 5).toNat (at' L k)).1
def atFields (L : List Int) (k : Nat) : Nat := (takeT L (vRange L k 1 5).toNat (at' L k)).2
theorem atFields_le {L : List Int} {k : Nat} (hL : L.length ≤ 600) (hk : k ≤ 600) : atFields L k ≤ 600 := takeT_at L hL _ _ (at'_le hL hk)

theorem words_ok : ∀ x ∈ words, fldB x = true ∧ x.length ≤ 3 := by decide +kernel
theorem vFields_ok (L : List Int) (k : Nat) : validB (vFields L k) = true ∧ (vFields L k).length ≤ 5 ∧ totB (vFields L k) ≤ 15 := by
  have hb := vRange_bounds (L := L) (k := k) (lo := 1) (hi := 5) (by omega)
  unfold vFields
  split
  · exact ⟨by decide +kernel, by decide, by decide⟩
  · rename_i hne
    have hl := takeT_len L (vRange L k 1 5).toNat (at' L k)
    have hm := takeT_mem L (vRange L k 1 5).toNat (at' L k)
    generalize (takeT L (vRange L k 1 5).toNat (at' L k)).1 = l at hne hl hm
    have htot : ∀ l : List (List UInt8), (∀ x ∈ l, x ∈ words) → totB l ≤ 3 * l.length := fun l hl => by
      induction l with
      | nil => simp [totB]
      | cons x r ih =>
        have h1 := (words_ok x (hl x (by simp))).2
        have := ih fun y hy => hl y (by simp [hy])
        simp only [totB, List.map_cons, List.sum_cons, List.length_cons] at this ⊢
        omega
    have ht := htot l hm
    refine ⟨?_, by omega, by omega⟩
    unfold validB
    have h1 : leB 1 (l.length : Int) = true := decide_eq_true (by omega)
    have h2 : leB (l.length : Int) 16 = true := decide_eq_true (by omega)
    have h3 : l.all fldB = true := List.all_eq_true.2 fun x hx => (words_ok x (hm x hx)).1
    have h4 : (l == [[]]) = false := by simpa using hne
    rw [h1, h2, h3, h4]; rfl

theorem c_SFields {L : List Int} {k : Nat} (hL : L.length ≤ 600) (hk : k ≤ 600) : denC E 15 [AV.t (.ptr 0 0)] [src L k] = some ([RV.p (PV.sl 1 (strsK (vFields L k)))], [src L (atFields L k)]) := by
  rw [denC_eq, r15, c_Range hL hk (by omega)]
  have hb := vRange_bounds (L := L) (k := k) (lo := 1) (hi := 5) (by omega)
  simp only [bnd_some, ctl_true, ctl_false, ctl_and, ctl_or', ctl_or2, x_toPV, x_toCs, x_toCs2, x_toEs, x_bEs, x_bCs, x_aPV, x_aCs, x_int, x_bool, x_str, x_es, x_esn, nth_0, nth_1, nth_2, nth_3, nth_4, nth_5, nth_6, nth_7, nth_8, nth_9, y_nil, y_int, y_bool, y_str, y_sl, y_nils, y_agg, y_ownp, y_own, z_nil, z_int, z_bool, z_str, z_sl, z_nils, b_nil, b_arr, b_box1, b_box2, b_box3, b_box4, List.map_cons, List.map_nil, Bool.and_self, Bool.and_true, Bool.true_and, Bool.not_true, Bool.not_false, Bool.or_false, Bool.false_or, cond_true, cond_false, okPack, okPut, okPutBlks, okPutCells, q_isP, q_isAg, q_isBox, q_isArr, q_int, q_bool, q_str, q_sl, q_nils, e_exit, e_ret, e_nrm, e_ret_exit, e_exit_ret, e_nrm_exit, e_nrm_ret, e_exit_nrm, e_ret_nrm, Nat.zero_add, Nat.reduceAdd, noslR, noslP, noslB, noslA, List.all_cons, List.all_nil]
  have e : vRange L k 1 5 = ((vRange L k 1 5).toNat : Int) := by omega
  have hlp := l_SFields hL (vRange L k 1 5).toNat (at' L k) [] (at'_le hL hk) (by omega) (by simp; omega)
  rw [← e] at hlp
  rw [show (Blk.arr 1 []) = Blk.arr 1 (strsK []) from rfl, hlp]
  simp only [bnd_some, ctl_true, ctl_false, ctl_and, ctl_or', ctl_or2, x_toPV, x_toCs, x_toCs2, x_toEs, x_bEs, x_bCs, x_aPV, x_aCs, x_int, x_bool, x_str, x_es, x_esn, nth_0, nth_1, nth_2, nth_3, nth_4, nth_5, nth_6, nth_7, nth_8, nth_9, y_nil, y_int, y_bool, y_str, y_sl, y_nils, y_agg, y_ownp, y_own, z_nil, z_int, z_bool, z_str, z_sl, z_nils, b_nil, b_arr, b_box1, b_box2, b_box3, b_box4, List.map_cons, List.map_nil, Bool.and_self, Bool.and_true, Bool.true_and, Bool.not_true, Bool.not_false, Bool.or_false, Bool.false_or, cond_true, cond_false, okPack, okPut, okPutBlks, okPutCells, q_isP, q_isAg, q_isBox, q_isArr, q_int, q_bool, q_str, q_sl, q_nils, e_exit, e_ret, e_nrm, e_ret_exit, e_exit_ret, e_nrm_exit, e_nrm_ret, e_exit_nrm, e_ret_nrm, Nat.zero_add, Nat.reduceAdd, noslR, noslP, noslB, noslA, List.all_cons, List.all_nil, List.nil_append]
  have hl := takeT_len L (vRange L k 1 5).toNat (at' L k)
  unfold vFields atFields
  generalize takeT L (vRange L k 1 5).toNat (at' L k) = q at hl ⊢
  obtain ⟨l, k2⟩ := q
  simp only at hl ⊢
  rw [strsK_length]
  have h0 : ltB 0 (l.length : Int) = true := decide_eq_true (by omega)
  rw [h0]
  cases l with
  | nil => simp at hl; omega
  | cons x r =>
    cases r with
    | nil =>
      have : okCs [Sh.str] (List.take 1 (List.drop 0 (nth [] (strsK [x]) 0))) = true := rfl
      have h1 : ((([x] : List (List UInt8)).length : Int) == 1) = true := rfl
      rw [this, h1]
      have h2 : nth PV.nilp (nth [] (strsK [x]) 0) 0 = PV.str x := rfl
      rw [h2]
      simp only [bnd_some, ctl_true, ctl_false, ctl_and, ctl_or', ctl_or2, x_toPV, x_toCs, x_toCs2, x_toEs, x_bEs, x_bCs, x_aPV, x_aCs, x_int, x_bool, x_str, x_es, x_esn, nth_0, nth_1, nth_2, nth_3, nth_4, nth_5, nth_6, nth_7, nth_8, nth_9, y_nil, y_int, y_bool, y_str, y_sl, y_nils, y_agg, y_ownp, y_own, z_nil, z_int, z_bool, z_str, z_sl, z_nils, b_nil, b_arr, b_box1, b_box2, b_box3, b_box4, List.map_cons, List.map_nil, Bool.and_self, Bool.and_true, Bool.true_and, Bool.not_true, Bool.not_false, Bool.or_false, Bool.false_or, cond_true, cond_false, okPack, okPut, okPutBlks, okPutCells, q_isP, q_isAg, q_isBox, q_isArr, q_int, q_bool, q_str, q_sl, q_nils, e_exit, e_ret, e_nrm, e_ret_exit, e_exit_ret, e_nrm_exit, e_nrm_ret, e_exit_nrm, e_ret_nrm, Nat.zero_add, Nat.reduceAdd, noslR, noslP, noslB, noslA, List.all_cons, List.all_nil]
      cases x with
      | nil => rfl
      | cons b t => rfl
    | cons y r =>
      have h1 : (((x :: y :: r).length : Int) == 1) = false := by simp; omega
      rw [h1]
      simp only [bnd_some, ctl_true, ctl_false, ctl_and, ctl_or', ctl_or2, x_toPV, x_toCs, x_toCs2, x_toEs, x_bEs, x_bCs, x_aPV, x_aCs, x_int, x_bool, x_str, x_es, x_esn, nth_0, nth_1, nth_2, nth_3, nth_4, nth_5, nth_6, nth_7, nth_8, nth_9, y_nil, y_int, y_bool, y_str, y_sl, y_nils, y_agg, y_ownp, y_own, z_nil, z_int, z_bool, z_str, z_sl, z_nils, b_nil, b_arr, b_box1, b_box2, b_box3, b_box4, List.map_cons, List.map_nil, Bool.and_self, Bool.and_true, Bool.true_and, Bool.not_true, Bool.not_false, Bool.or_false, Bool.false_or, cond_true, cond_false, okPack, okPut, okPutBlks, okPutCells, q_isP, q_isAg, q_isBox, q_isArr, q_int, q_bool, q_str, q_sl, q_nils, e_exit, e_ret, e_nrm, e_ret_exit, e_exit_ret, e_nrm_exit, e_nrm_ret, e_exit_nrm, e_ret_nrm, Nat.zero_add, Nat.reduceAdd, noslR, noslP, noslB, noslA, List.all_cons, List.all_nil]
      rw [if_neg (by simp)]

def noise : List Int := [36, 42, 44, 65, 48, 13, 10, 0, 255, 32]
def takeB' (L : List Int) : Nat → Nat → List UInt8 × Nat
  | 0, k => ([], k)
  | n + 1, k => ((vPick L k noise).toNat.toUInt8 :: (takeB' L n (at' L k)).1, (takeB' L n (at' L k)).2)
theorem takeB'_at (L : List Int) (hL : L.length ≤ 600) : ∀ n k, k ≤ 600 → (takeB' L n k).2 ≤ 600
  | 0, k, h => h
  | n + 1, k, h => takeB'_at L hL n _ (at'_le hL h)
theorem takeB'_len (L : List Int) : ∀ n k, (takeB' L n k).1.length = n
  | 0, k => rfl
  | n + 1, k => by simp [takeB', takeB'_len L n]
theorem noise_byte : ∀ x ∈ noise, IntKind.u8.wrap x = (x.toNat.toUInt8.toNat : Int) := by decide +kernel

theorem l_Noise {L : List Int} (hL : L.length ≤ 600) : ∀ (n k : Nat) (done : List UInt8), k ≤ 600 → n ≤ 1000 → done.length + n ≤ 1000 →
    lp E (denC E) 26 1 [] 0 { vals := [AV.int .i64 n], blks := [src L k, Blk.arr 1 (byteEs done)] } =
    some (Ex.exit 0, { vals := [], blks := [src L (takeB' L n k).2, Blk.arr 1 (byteEs (done ++ (takeB' L n k).1))] }) := by
  intro n
  induction n with
  | zero =>
    intro k done hk hn hd
    rw [r26_0, ctl_dec, if_neg (by omega)]
    simp only [takeB', List.append_nil]
  | succ n ih =>
    intro k done hk hn hd
    have hw : ([[PV.int IntKind.i64 36], [PV.int IntKind.i64 42], [PV.int IntKind.i64 44], [PV.int IntKind.i64 65], [PV.int IntKind.i64 48], [PV.int IntKind.i64 13], [PV.int IntKind.i64 10], [PV.int IntKind.i64 0], [PV.int IntKind.i64 255], [PV.int IntKind.i64 32]] : List (List PV)) = intsK .i64 noise := rfl
    rw [r26_0, ctl_dec, if_pos (by omega), hw, c_Pick hL hk (by decide)]
    simp only [bnd_some, ctl_true, ctl_false, ctl_and, ctl_or', ctl_or2, x_toPV, x_toCs, x_toCs2, x_toEs, x_bEs, x_bCs, x_aPV, x_aCs, x_int, x_bool, x_str, x_es, x_esn, nth_0, nth_1, nth_2, nth_3, nth_4, nth_5, nth_6, nth_7, nth_8, nth_9, y_nil, y_int, y_bool, y_str, y_sl, y_nils, y_agg, y_ownp, y_own, z_nil, z_int, z_bool, z_str, z_sl, z_nils, b_nil, b_arr, b_box1, b_box2, b_box3, b_box4, List.map_cons, List.map_nil, Bool.and_self, Bool.and_true, Bool.true_and, Bool.not_true, Bool.not_false, Bool.or_false, Bool.false_or, cond_true, cond_false, okPack, okPut, okPutBlks, okPutCells, q_isP, q_isAg, q_isBox, q_isArr, q_int, q_bool, q_str, q_sl, q_nils, e_exit, e_ret, e_nrm, e_ret_exit, e_exit_ret, e_nrm_exit, e_nrm_ret, e_exit_nrm, e_ret_nrm, Nat.zero_add, Nat.reduceAdd, noslR, noslP, noslB, noslA, List.all_cons, List.all_nil]
    have e : byteEs done ++ [[PV.int IntKind.u8 (IntKind.u8.wrap (vPick L k noise))]] = byteEs (done ++ [(vPick L k noise).toNat.toUInt8]) := by
      rw [noise_byte _ (vPick_mem L k (by decide)), byteEs_app]; rfl
    have e1 : IntKind.i64.wrap (((n + 1 : Nat) : Int) - 1) = (n : Int) := by rw [w64 (by omega)]; omega
    rw [ctl_dec, if_pos (by rw [byteEs_length]; omega), e, e1, ih (at' L k) (done ++ [(vPick L k noise).toNat.toUInt8]) (at'_le hL hk) (by omega) (by simp; omega)]
    simp only [takeB', List.append_assoc, List.singleton_append]

def vNoise (L : List Int) (k : Nat) (m : Int) : List UInt8 := (takeB' L (vN L k (m + 1)).toNat (at' L k)).1
def atNoise (L : List Int) (k : Nat) (m : Int) : Nat := (takeB' L (vN L k (m + 1)).toNat (at' L k)).2
theorem atNoise_le {L : List Int} {k : Nat} {m : Int} (hL : L.length ≤ 600) (hk : k ≤ 600) : atNoise L k m ≤ 600 := takeB'_at L hL _ _ (at'_le hL hk)
theorem vNoise_len (L : List Int) (k : Nat) {m : Int} (hm : 0 ≤ m) : ((vNoise L k m).length : Int) ≤ m := by
  have hb := vN_bounds (L := L) (k := k) (n := m + 1) (by omega)
  unfold vNoise
  rw [takeB'_len]; omega
theorem c_Noise {L : List Int} {k : Nat} (hL : L.length ≤ 600) (hk : k ≤ 600) {m : Int} (hm : 0 ≤ m ∧ m ≤ 500) : denC E 26 [AV.t (.ptr 0 0), AV.int .i64 m] [src L k] = some ([RV.p (PV.sl 1 (byteEs (vNoise L k m)))], [src L (atNoise L k m)]) := by
  rw [denC_eq, r26, w64 (by omega), c_N hL hk _ (by omega)]
  have hb := vN_bounds (L := L) (k := k) (n := m + 1) (by omega)
  simp only [bnd_some, ctl_true, ctl_false, ctl_and, ctl_or', ctl_or2, x_toPV, x_toCs, x_toCs2, x_toEs, x_bEs, x_bCs, x_aPV, x_aCs, x_int, x_bool, x_str, x_es, x_esn, nth_0, nth_1, nth_2, nth_3, nth_4, nth_5, nth_6, nth_7, nth_8, nth_9, y_nil, y_int, y_bool, y_str, y_sl, y_nils, y_agg, y_ownp, y_own, z_nil, z_int, z_bool, z_str, z_sl, z_nils, b_nil, b_arr, b_box1, b_box2, b_box3, b_box4, List.map_cons, List.map_nil, Bool.and_self, Bool.and_true, Bool.true_and, Bool.not_true, Bool.not_false, Bool.or_false, Bool.false_or, cond_true, cond_false, okPack, okPut, okPutBlks, okPutCells, q_isP, q_isAg, q_isBox, q_isArr, q_int, q_bool, q_str, q_sl, q_nils, e_exit, e_ret, e_nrm, e_ret_exit, e_exit_ret, e_nrm_exit, e_nrm_ret, e_exit_nrm, e_ret_nrm, Nat.zero_add, Nat.reduceAdd, noslR, noslP, noslB, noslA, List.all_cons, List.all_nil]
  have e : vN L k (m + 1) = ((vN L k (m + 1)).toNat : Int) := by omega
  have hlp := l_Noise hL (vN L k (m + 1)).toNat (at' L k) [] (at'_le hL hk) (by omega) (by simp; omega)
  rw [← e] at hlp
  rw [show (Blk.arr 1 []) = Blk.arr 1 (byteEs []) from rfl, hlp]
  simp only [bnd_some, ctl_true, ctl_false, ctl_and, ctl_or', ctl_or2, x_toPV, x_toCs, x_toCs2, x_toEs, x_bEs, x_bCs, x_aPV, x_aCs, x_int, x_bool, x_str, x_es, x_esn, nth_0, nth_1, nth_2, nth_3, nth_4, nth_5, nth_6, nth_7, nth_8, nth_9, y_nil, y_int, y_bool, y_str, y_sl, y_nils, y_agg, y_ownp, y_own, z_nil, z_int, z_bool, z_str, z_sl, z_nils, b_nil, b_arr, b_box1, b_box2, b_box3, b_box4, List.map_cons, List.map_nil, Bool.and_self, Bool.and_true, Bool.true_and, Bool.not_true, Bool.not_false, Bool.or_false, Bool.false_or, cond_true, cond_false, okPack, okPut, okPutBlks, okPutCells, q_isP, q_isAg, q_isBox, q_isArr, q_int, q_bool, q_str, q_sl, q_nils, e_exit, e_ret, e_nrm, e_ret_exit, e_exit_ret, e_nrm_exit, e_nrm_ret, e_exit_nrm, e_ret_nrm, Nat.zero_add, Nat.reduceAdd, noslR, noslP, noslB, noslA, List.all_cons, List.all_nil, List.nil_append]
  rfl

end Go.Proofs.YtmlhemkadoadaaaDoor.Vm
