/- The law AngleArcs comes to true. -/
import Derived.Test.YtpemmbkflddhoaaAngleTab
namespace Go.Proofs.Ytpemmbkflddhoaa.Vm
set_option linter.unusedVariables false
set_option linter.unusedSimpArgs false

theorem Small_dir (p : Int) : Small (Cos p) (Sin p) = true := by
  have h1 := Cos_le p
  have h2 := Sin_le p
  exact Small_iff.2 (by omega)

theorem Cross_self (p : Int) : Cross p (Cos p) (Sin p) = 0 := by
  unfold Cross
  rw [Small_dir, if_pos rfl, Int.mul_comm]
  omega

theorem arcs_law {f w p : Int} (hf : f ∈ [0, 450, 800, 1350, 1800, 2600, 3500]) (hw : w ∈ [0, 100, 300, 900, 1799]) (hp : 0 ≤ p ∧ p < 3600) :
    Width f ((f + w) % 3600) = w ∧ Valid f ((f + w) % 3600) = true ∧ In f ((f + w) % 3600) f = true ∧ In f ((f + w) % 3600) ((f + w) % 3600) = true ∧ Within f ((f + w) % 3600) (Cos p) (Sin p) = In f ((f + w) % 3600) p ∧
    (ltB (w + 900) 3600 && In f ((f + w) % 3600) p && In (Norm ((f + w) % 3600 + 1)) (Norm ((f + w) % 3600 + 900)) p) = false := by
  have hdir := arc_dir hf hw hp
  have hf' : 0 ≤ f ∧ f ≤ 3500 := by simp only [List.mem_cons, List.not_mem_nil, or_false] at hf; omega
  have hw' : 0 ≤ w ∧ w ≤ 1799 := by simp only [List.mem_cons, List.not_mem_nil, or_false] at hw; omega
  have hW : Width f ((f + w) % 3600) = w := by unfold Width Norm; omega
  have hV : Valid f ((f + w) % 3600) = true := Valid_iff.2 ⟨by omega, by omega, by omega, by omega, by rw [hW]; omega⟩
  have hIn : ∀ a, In f ((f + w) % 3600) a = decide (Norm (Norm a - f) ≤ w) := fun a => by unfold In; rw [hV, hW, Bool.true_and]
  refine ⟨hW, hV, ?_, ?_, ?_, ?_⟩
  · rw [hIn]; simp only [decide_eq_true_eq]; unfold Norm; omega
  · rw [hIn]; simp only [decide_eq_true_eq]; unfold Norm; omega
  · rw [hIn]
    unfold Within
    have hc : ∀ a, Cross a (Cos p) (Sin p) = Cos a * Sin p - Sin a * Cos p := fun a => by unfold Cross; rw [Small_dir, if_pos rfl]
    rw [hV, Small_dir, hc, hc]
    unfold okA at hdir
    simp only [Bool.and_eq_true, beq_iff_eq, Bool.not_eq_true'] at hdir
    obtain ⟨h1, h2⟩ := hdir
    have hn : Norm (Norm p - f) = (p - f) % 3600 := by unfold Norm; omega
    rw [hn, h2]
    simp only [Bool.not_false, Bool.and_self, Bool.true_and]
    exact h1
  · cases h : (ltB (w + 900) 3600 && In f ((f + w) % 3600) p && In (Norm ((f + w) % 3600 + 1)) (Norm ((f + w) % 3600 + 900)) p) with
    | false => rfl
    | true =>
      exfalso
      simp only [Bool.and_eq_true, decide_eq_true_eq, hIn] at h
      obtain ⟨⟨h1, h2⟩, h3⟩ := h
      unfold In at h3
      simp only [Bool.and_eq_true, decide_eq_true_eq] at h3
      have h4 := h3.2
      unfold Width Norm at h4
      unfold Norm at h2
      omega

theorem d_AngleArcs (t : List Int) (_ : t.length ≤ maxLen) (_ : ∀ n ∈ t, -9223372036854775808 ≤ n ∧ n ≤ 9223372036854775807) (a : Int) (_ : -9223372036854775808 ≤ a ∧ a ≤ 9223372036854775807) :
    denC E 8 [AV.sl 1 (intsK .i64 t), AV.int .i64 a] [] = some ([RV.p (PV.bool true)], []) := by
  rw [denC_eq, r8, c_New, c_Norm]
  have hA := c_Arc (L := t.take 600) (k := 0) (by rw [List.length_take]; omega) (by omega)
  simp only [bnd_some, ctl_true, ctl_false, ctl_and, ctl_or', ctl_or2, x_toPV, x_toCs, x_toCs2, x_toEs, x_bEs, x_bCs, x_aPV, x_aCs, x_int, x_bool, x_str, x_es, x_esn, nth_0, nth_1, nth_2, nth_3, nth_4, nth_5, nth_6, nth_7, nth_8, nth_9, y_nil, y_int, y_bool, y_str, y_sl, y_nils, y_agg, y_ownp, y_own, z_nil, z_int, z_bool, z_str, z_sl, z_nils, b_nil, b_arr, b_box1, b_box2, b_box3, b_box4, List.map_cons, List.map_nil, Bool.and_self, Bool.and_true, Bool.true_and, Bool.not_true, Bool.not_false, Bool.or_false, Bool.false_or, cond_true, cond_false, okPack, okPut, okPutBlks, okPutCells, q_isP, q_isAg, q_isBox, q_isArr, q_int, q_bool, q_str, q_sl, q_nils, e_exit, e_ret, e_nrm, e_ret_exit, e_exit_ret, e_nrm_exit, e_nrm_ret, e_exit_nrm, e_ret_nrm, Nat.zero_add, Nat.reduceAdd, noslR, noslP, noslB, noslA, List.all_cons, List.all_nil]
  rw [src_zero, hA]
  have n1 := Norm_lt a
  simp only [bnd_some, ctl_true, ctl_false, ctl_and, ctl_or', ctl_or2, x_toPV, x_toCs, x_toCs2, x_toEs, x_bEs, x_bCs, x_aPV, x_aCs, x_int, x_bool, x_str, x_es, x_esn, nth_0, nth_1, nth_2, nth_3, nth_4, nth_5, nth_6, nth_7, nth_8, nth_9, y_nil, y_int, y_bool, y_str, y_sl, y_nils, y_agg, y_ownp, y_own, z_nil, z_int, z_bool, z_str, z_sl, z_nils, b_nil, b_arr, b_box1, b_box2, b_box3, b_box4, List.map_cons, List.map_nil, Bool.and_self, Bool.and_true, Bool.true_and, Bool.not_true, Bool.not_false, Bool.or_false, Bool.false_or, cond_true, cond_false, okPack, okPut, okPutBlks, okPutCells, q_isP, q_isAg, q_isBox, q_isArr, q_int, q_bool, q_str, q_sl, q_nils, e_exit, e_ret, e_nrm, e_ret_exit, e_exit_ret, e_nrm_exit, e_nrm_ret, e_exit_nrm, e_ret_nrm, Nat.zero_add, Nat.reduceAdd, noslR, noslP, noslB, noslA, List.all_cons, List.all_nil, c_Valid, c_In, c_Within, c_RCos, c_RSin, c_Cross, c_Norm, c_sane, c_WidthG]
  have hf := arcFrom_in (t.take 600) 0
  have hw := arcWidth_in (t.take 600) (at' (t.take 600) 0)
  have hto : arcTo (t.take 600) 0 = (arcFrom (t.take 600) 0 + vPick (t.take 600) (at' (t.take 600) 0) [0, 100, 300, 900, 1799]) % 3600 := rfl
  rw [hto]
  generalize arcFrom (t.take 600) 0 = f at *
  generalize vPick (t.take 600) (at' (t.take 600) 0) [0, 100, 300, 900, 1799] = w at *
  obtain ⟨q1, q2, q3, q4, q5, q6⟩ := arcs_law hf hw n1
  have hf' : 0 ≤ f ∧ f ≤ 3500 := by simp only [List.mem_cons, List.not_mem_nil, or_false] at hf; omega
  have hw' : 0 ≤ w ∧ w ≤ 1799 := by simp only [List.mem_cons, List.not_mem_nil, or_false] at hw; omega
  rw [WidthG_eq (by omega) (by omega), q1, w64 (n := w + 900) (by omega), w64 (n := (f + w) % 3600 + 1) (by omega), w64 (n := (f + w) % 3600 + 900) (by omega), q2, q3, q4, q5, q6, Cross_self]
  have k : (!(In f ((f + w) % 3600) (Norm a) == In f ((f + w) % 3600) (Norm a))) = false := by simp
  rw [k]
  rfl

end Go.Proofs.Ytpemmbkflddhoaa.Vm
