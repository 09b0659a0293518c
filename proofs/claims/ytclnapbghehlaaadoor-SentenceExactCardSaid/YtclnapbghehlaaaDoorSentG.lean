/- Chapter 04: texts and sentences go back and forth. -/
import Derived.Test.YtclnapbghehlaaaDoorSentF
namespace Go.Proofs.YtclnapbghehlaaaDoor.Vm
set_option linter.unusedVariables false
set_option linter.unusedSimpArgs false

theorem hexv_hexd {n : Nat} (h : n < 16) : hexv (hexd n) = n := (hexd_iff n (hexd n) h).1 rfl

theorem spl_no {s : List UInt8} (h : ∀ b ∈ s, b ≠ 44) : spl 44 s = [s] := by
  induction s with
  | nil => rfl
  | cons b l ih =>
    have hb : (b == 44) = false := by simpa using h b (by simp)
    unfold spl
    rw [hb, ih fun x hx => h x (by simp [hx])]
    rfl
theorem spl_step {b : UInt8} {l : List UInt8} (h : (b == 44) = false) : spl 44 (b :: l) = match spl 44 l with | [] => [[b]] | p :: r => (b :: p) :: r := by
  rw [spl, h]
  rfl
theorem spl_app {s : List UInt8} (h : ∀ b ∈ s, b ≠ 44) (t : List UInt8) : spl 44 (s ++ 44 :: t) = s :: spl 44 t := by
  induction s with
  | nil => rfl
  | cons b l ih =>
    have hb : (b == 44) = false := by simpa using h b (by simp)
    rw [List.cons_append, spl_step hb, ih fun x hx => h x (by simp [hx])]
theorem spl_join : ∀ (x : List UInt8) (r : List (List UInt8)), (∀ s ∈ x :: r, ∀ b ∈ s, b ≠ 44) → spl 44 (Lib.join (x :: r) [44]) = x :: r
  | x, [], h => by
    rw [Lib.join_one]
    exact spl_no (h x (by simp))
  | x, y :: r, h => by
    have e : Lib.join (x :: y :: r) [44] = x ++ 44 :: Lib.join (y :: r) [44] := by
      rw [Lib.join_cons, Lib.join_cons]
      simp [Lib.joinTail]
    rw [e, spl_app (h x (by simp)), spl_join y r fun s hs => h s (by simp [hs])]

theorem fld_no {s : List UInt8} (h : fldB s = true) : ∀ b ∈ s, b ≠ 44 := by
  intro b hb he
  unfold fldB at h
  simp only [Bool.and_eq_true] at h
  have := List.all_eq_true.1 h.2 b hb
  subst he
  exact absurd this (by decide)

theorem valid_ne {l : List (List UInt8)} (h : validB l = true) : l ≠ [] ∧ ∀ s ∈ l, fldB s = true := by
  unfold validB at h
  simp only [Bool.and_eq_true, decide_eq_true_eq] at h
  refine ⟨fun e => ?_, fun s hs => List.all_eq_true.1 h.1.2 s hs⟩
  subst e
  have := h.1.1.1
  simp at this

theorem spl_valid {l : List (List UInt8)} (h : validB l = true) : spl 44 (Lib.join l [44]) = l := by
  obtain ⟨hne, hf⟩ := valid_ne h
  cases l with
  | nil => exact absurd rfl hne
  | cons x r => exact spl_join x r fun s hs => fld_no (hf s hs)

theorem prs_txt {l : List (List UInt8)} (h : validB l = true) (hl : (txt (Lib.join l [44])).length ≤ 200) : prs (txt (Lib.join l [44])) = (.sl 1 (strsK l), 0) := by
  have hlt := (sumB (Lib.join l [44])).toNat_lt
  have h1 := hexv_hexd (n := (sumB (Lib.join l [44])).toNat / 16) (by omega)
  have h2 := hexv_hexd (n := (sumB (Lib.join l [44])).toNat % 16) (by omega)
  rw [txt_length] at hl
  unfold txt
  rw [prs_six _ _ _ _ _ _ _ hl, if_pos ⟨rfl, rfl, by omega, by omega, rfl, rfl⟩]
  unfold prsT
  rw [spl_valid h, if_pos h, if_pos (by rw [h1, h2]; omega)]

theorem frm_ok {l : List (List UInt8)} (h : validB l = true) (hl : (txt (Lib.join l [44])).length ≤ 200) : frm l = (txt (Lib.join l [44]), 0) := by
  unfold frm
  rw [if_pos h, if_neg (by omega)]

theorem txt_fields (L : List Int) (k : Nat) : (txt (Lib.join (vFields L k) [44])).length ≤ 26 := by
  obtain ⟨_, h2, h3⟩ := vFields_ok L k
  have := join_len (vFields L k)
  rw [txt_length]; omega

theorem c_sane : denC E 8 [] [] = some ([RV.p (PV.bool true)], []) := by
  rw [denC_eq, r8]
  have e1 : ([[PV.str [65]], [PV.str [49]]] : List (List PV)) = strsK [[65], [49]] := rfl
  have e2 : ([[PV.int IntKind.u8 36], [PV.int IntKind.u8 65], [PV.int IntKind.u8 44], [PV.int IntKind.u8 49], [PV.int IntKind.u8 42], [PV.int IntKind.u8 53], [PV.int IntKind.u8 67], [PV.int IntKind.u8 13], [PV.int IntKind.u8 10]] : List (List PV)) = byteEs [36, 65, 44, 49, 42, 53, 67, 13, 10] := rfl
  have e3 : ([[PV.int IntKind.u8 1], [PV.int IntKind.u8 2]] : List (List PV)) = byteEs [1, 2] := rfl
  have hv : validB [[65], [49]] = true := by decide +kernel
  have ht : txt (Lib.join [[65], [49]] [44]) = [36, 65, 44, 49, 42, 53, 67, 13, 10] := by decide +kernel
  have hf : frm [[65], [49]] = ([36, 65, 44, 49, 42, 53, 67, 13, 10], 0) := by rw [frm_ok hv (by rw [ht]; decide), ht]
  have hp : prs [36, 65, 44, 49, 42, 53, 67, 13, 10] = (.sl 1 (strsK [[65], [49]]), 0) := by rw [← ht]; exact prs_txt hv (by rw [ht]; decide)
  rw [e1, e2, e3, c_Format _ (by decide), hf]
  simp only [bnd_some, ctl_true, ctl_false, ctl_and, ctl_or', ctl_or2, x_toPV, x_toCs, x_toCs2, x_toEs, x_bEs, x_bCs, x_aPV, x_aCs, x_int, x_bool, x_str, x_es, x_esn, nth_0, nth_1, nth_2, nth_3, nth_4, nth_5, nth_6, nth_7, nth_8, nth_9, y_nil, y_int, y_bool, y_str, y_sl, y_nils, y_agg, y_ownp, y_own, z_nil, z_int, z_bool, z_str, z_sl, z_nils, b_nil, b_arr, b_box1, b_box2, b_box3, b_box4, List.map_cons, List.map_nil, Bool.and_self, Bool.and_true, Bool.true_and, Bool.not_true, Bool.not_false, Bool.or_false, Bool.false_or, cond_true, cond_false, okPack, okPut, okPutBlks, okPutCells, q_isP, q_isAg, q_isBox, q_isArr, q_int, q_bool, q_str, q_sl, q_nils, e_exit, e_ret, e_nrm, e_ret_exit, e_exit_ret, e_nrm_exit, e_nrm_ret, e_exit_nrm, e_ret_nrm, Nat.zero_add, Nat.reduceAdd, noslR, noslP, noslB, noslA, List.all_cons, List.all_nil]
  rw [c_Parse _ (by decide), hp]
  simp only [bnd_some, ctl_true, ctl_false, ctl_and, ctl_or', ctl_or2, x_toPV, x_toCs, x_toCs2, x_toEs, x_bEs, x_bCs, x_aPV, x_aCs, x_int, x_bool, x_str, x_es, x_esn, nth_0, nth_1, nth_2, nth_3, nth_4, nth_5, nth_6, nth_7, nth_8, nth_9, y_nil, y_int, y_bool, y_str, y_sl, y_nils, y_agg, y_ownp, y_own, z_nil, z_int, z_bool, z_str, z_sl, z_nils, b_nil, b_arr, b_box1, b_box2, b_box3, b_box4, List.map_cons, List.map_nil, Bool.and_self, Bool.and_true, Bool.true_and, Bool.not_true, Bool.not_false, Bool.or_false, Bool.false_or, cond_true, cond_false, okPack, okPut, okPutBlks, okPutCells, q_isP, q_isAg, q_isBox, q_isArr, q_int, q_bool, q_str, q_sl, q_nils, e_exit, e_ret, e_nrm, e_ret_exit, e_exit_ret, e_nrm_exit, e_nrm_ret, e_exit_nrm, e_ret_nrm, Nat.zero_add, Nat.reduceAdd, noslR, noslP, noslB, noslA, List.all_cons, List.all_nil]
  rw [bytesOk_byteEs, toBytes_byteEs, c_Texts _ _ (by decide), c_Sum _ (by decide)]
  simp only [beq_self_eq_true, bnd_some, ctl_true, ctl_false, ctl_and, ctl_or', ctl_or2, x_toPV, x_toCs, x_toCs2, x_toEs, x_bEs, x_bCs, x_aPV, x_aCs, x_int, x_bool, x_str, x_es, x_esn, nth_0, nth_1, nth_2, nth_3, nth_4, nth_5, nth_6, nth_7, nth_8, nth_9, y_nil, y_int, y_bool, y_str, y_sl, y_nils, y_agg, y_ownp, y_own, z_nil, z_int, z_bool, z_str, z_sl, z_nils, b_nil, b_arr, b_box1, b_box2, b_box3, b_box4, List.map_cons, List.map_nil, Bool.and_self, Bool.and_true, Bool.true_and, Bool.not_true, Bool.not_false, Bool.or_false, Bool.false_or, cond_true, cond_false, okPack, okPut, okPutBlks, okPutCells, q_isP, q_isAg, q_isBox, q_isArr, q_int, q_bool, q_str, q_sl, q_nils, e_exit, e_ret, e_nrm, e_ret_exit, e_exit_ret, e_nrm_exit, e_nrm_ret, e_exit_nrm, e_ret_nrm, Nat.zero_add, Nat.reduceAdd, noslR, noslP, noslB, noslA, List.all_cons, List.all_nil]
  rfl

theorem Lle {t : List Int} : (t.take 600).length ≤ 600 := by simp; omega

end Go.Proofs.YtclnapbghehlaaaDoor.Vm
