/- Contracts of the document's answer for the status. -/
import Derived.Test.YtiagcaefhjibjaaStatusL
import Derived.Test.YtiagcaefhjibjaaRawX
namespace Go.Proofs.Ytiagcaefhjibjaa.Vm
set_option linter.unusedVariables false
set_option linter.unusedSimpArgs false

theorem c_rlevel (n : Int) : denC E 28 [AV.int .i64 n] [] = some ([RV.p (PV.bool (Lev n))], []) := by
  rw [denC_eq, r28]
  simp only [bnd_some, ctl_true, ctl_false, ctl_and, ctl_or', ctl_or2, x_toPV, x_toCs, x_toCs2, x_toEs, x_bEs, x_bCs, x_aPV, x_aCs, x_int, x_bool, x_str, x_es, x_esn, nth_0, nth_1, nth_2, nth_3, nth_4, nth_5, nth_6, nth_7, nth_8, nth_9, y_nil, y_int, y_bool, y_str, y_sl, y_nils, y_agg, y_ownp, y_own, z_nil, z_int, z_bool, z_str, z_sl, z_nils, b_nil, b_arr, b_box1, b_box2, b_box3, b_box4, List.map_cons, List.map_nil, Bool.and_self, Bool.and_true, Bool.true_and, Bool.not_true, Bool.not_false, Bool.or_false, Bool.false_or, cond_true, cond_false, okPack, okPut, okPutBlks, okPutCells, q_isP, q_isAg, q_isBox, q_isArr, q_int, q_bool, q_str, q_sl, q_nils, e_exit, e_ret, e_nrm, e_ret_exit, e_exit_ret, e_nrm_exit, e_nrm_ret, e_exit_nrm, e_ret_nrm, Nat.zero_add, Nat.reduceAdd, noslR, noslP, noslB, noslA, List.all_cons, List.all_nil, Lev]

theorem c_rValid (c0 c1 time : Int) : denC E 14 [AV.agg [PV.int .i64 c0, PV.int .i64 c1], AV.int .i64 time] [] = some ([RV.p (PV.bool (VC c0 c1 time))], []) := by
  rw [denC_eq, r14, c_rlevel]
  simp only [bnd_some, ctl_true, ctl_false, ctl_and, ctl_or', ctl_or2, x_toPV, x_toCs, x_toCs2, x_toEs, x_bEs, x_bCs, x_aPV, x_aCs, x_int, x_bool, x_str, x_es, x_esn, nth_0, nth_1, nth_2, nth_3, nth_4, nth_5, nth_6, nth_7, nth_8, nth_9, y_nil, y_int, y_bool, y_str, y_sl, y_nils, y_agg, y_ownp, y_own, z_nil, z_int, z_bool, z_str, z_sl, z_nils, b_nil, b_arr, b_box1, b_box2, b_box3, b_box4, List.map_cons, List.map_nil, Bool.and_self, Bool.and_true, Bool.true_and, Bool.not_true, Bool.not_false, Bool.or_false, Bool.false_or, cond_true, cond_false, okPack, okPut, okPutBlks, okPutCells, q_isP, q_isAg, q_isBox, q_isArr, q_int, q_bool, q_str, q_sl, q_nils, e_exit, e_ret, e_nrm, e_ret_exit, e_exit_ret, e_nrm_exit, e_nrm_ret, e_exit_nrm, e_ret_nrm, Nat.zero_add, Nat.reduceAdd, noslR, noslP, noslB, noslA, List.all_cons, List.all_nil, VC]
  rw [Bool.or_comm (c1 == -1)]

theorem c_rNext (c0 c1 time judged delay : Int) : denC E 16 [AV.agg [PV.int .i64 c0, PV.int .i64 c1], AV.int .i64 time, AV.int .i64 judged, AV.int .i64 delay] [] =
    some ([RV.agg [PV.int .i64 (nextF c0 c1 time judged delay).1, PV.int .i64 (nextF c0 c1 time judged delay).2.1], RV.p (PV.int .i64 (nextF c0 c1 time judged delay).2.2)], []) := by
  rw [denC_eq, r16, c_rValid]
  simp only [bnd_some, ctl_true, ctl_false, ctl_and, ctl_or', ctl_or2, x_toPV, x_toCs, x_toCs2, x_toEs, x_bEs, x_bCs, x_aPV, x_aCs, x_int, x_bool, x_str, x_es, x_esn, nth_0, nth_1, nth_2, nth_3, nth_4, nth_5, nth_6, nth_7, nth_8, nth_9, y_nil, y_int, y_bool, y_str, y_sl, y_nils, y_agg, y_ownp, y_own, z_nil, z_int, z_bool, z_str, z_sl, z_nils, b_nil, b_arr, b_box1, b_box2, b_box3, b_box4, List.map_cons, List.map_nil, Bool.and_self, Bool.and_true, Bool.true_and, Bool.not_true, Bool.not_false, Bool.or_false, Bool.false_or, cond_true, cond_false, okPack, okPut, okPutBlks, okPutCells, q_isP, q_isAg, q_isBox, q_isArr, q_int, q_bool, q_str, q_sl, q_nils, e_exit, e_ret, e_nrm, e_ret_exit, e_exit_ret, e_nrm_exit, e_nrm_ret, e_exit_nrm, e_ret_nrm, Nat.zero_add, Nat.reduceAdd, noslR, noslP, noslB, noslA, List.all_cons, List.all_nil, c_rlevel]
  unfold nextF
  by_cases h1 : (!VC c0 c1 time || !Lev judged) = true
  · rw [h1]; simp only [ctl_true, if_true]
  · have h1' : (!VC c0 c1 time || !Lev judged) = false := by simpa using h1
    rw [h1']
    simp only [ctl_false, Bool.false_eq_true, if_false]
    by_cases h2 : (ltB time 0 || ltB 2147483648 time || ltB delay 0 || ltB 600 delay) = true
    · rw [h2]; simp only [ctl_true, if_true]
    · have h2' : (ltB time 0 || ltB 2147483648 time || ltB delay 0 || ltB 600 delay) = false := by simpa using h2
      rw [h2']
      simp only [ctl_false, Bool.false_eq_true, if_false]
      have hv : VC c0 c1 time = true := by
        simp only [Bool.or_eq_false_iff, Bool.not_eq_false'] at h1'; exact h1'.1
      have hv := VC_iff.1 hv
      simp only [Bool.or_eq_false_iff, decide_eq_false_iff_not] at h2'
      rw [w64 (n := c0 + 1) (by omega), w64 (n := time - time) (by omega), w64 (n := time - c1) (by omega)]
      rw [ctl_dec]
      by_cases h3 : judged ≤ c0
      · rw [if_pos h3, if_neg (show ¬ c0 < judged by omega)]
      · rw [if_neg h3, if_pos (show c0 < judged by omega)]
        by_cases h4 : c1 = -1
        · have k4 : (c1 == -1) = true := by simp [h4]
          rw [k4, ctl_true, ctl_dec]
          simp only [if_pos h4]
          by_cases h5 : time - time < delay
          · rw [if_neg (show ¬ delay ≤ time - time by omega), if_pos h5]
          · rw [if_pos (show delay ≤ time - time by omega), if_neg h5, ctl_dec]
            by_cases h6 : c0 + 1 < judged
            · rw [if_pos h6, if_pos h6]
            · rw [if_neg h6, if_neg h6]
        · have k4 : (c1 == -1) = false := by simp [h4]
          rw [k4, ctl_false, ctl_dec]
          simp only [if_neg h4]
          by_cases h5 : time - c1 < delay
          · rw [if_neg (show ¬ delay ≤ time - c1 by omega), if_pos h5]
          · rw [if_pos (show delay ≤ time - c1 by omega), if_neg h5, ctl_dec]
            by_cases h6 : c0 + 1 < judged
            · rw [if_pos h6, if_pos h6]
            · rw [if_neg h6, if_neg h6]

theorem c_rEnough (c0 c1 n : Int) : denC E 18 [AV.agg [PV.int .i64 c0, PV.int .i64 c1], AV.int .i64 n] [] = some ([RV.p (PV.bool (leB n c0))], []) := by
  rw [denC_eq, r18]

theorem c_rJudge (holds safe : Bool) (e0 e1 e2 e3 e4 causes : Int) :
    denC E 25 [AV.bool holds, AV.bool safe, AV.agg [PV.int .i64 e0, PV.int .i64 e1, PV.int .i64 e2, PV.int .i64 e3, PV.int .i64 e4], AV.int .i64 causes] [] = some ([RV.p (PV.int .i64 (judge holds safe e4 causes))], []) := by
  rw [denC_eq, r25]
  simp only [bnd_some, ctl_true, ctl_false, ctl_and, ctl_or', ctl_or2, x_toPV, x_toCs, x_toCs2, x_toEs, x_bEs, x_bCs, x_aPV, x_aCs, x_int, x_bool, x_str, x_es, x_esn, nth_0, nth_1, nth_2, nth_3, nth_4, nth_5, nth_6, nth_7, nth_8, nth_9, y_nil, y_int, y_bool, y_str, y_sl, y_nils, y_agg, y_ownp, y_own, z_nil, z_int, z_bool, z_str, z_sl, z_nils, b_nil, b_arr, b_box1, b_box2, b_box3, b_box4, List.map_cons, List.map_nil, Bool.and_self, Bool.and_true, Bool.true_and, Bool.not_true, Bool.not_false, Bool.or_false, Bool.false_or, cond_true, cond_false, okPack, okPut, okPutBlks, okPutCells, q_isP, q_isAg, q_isBox, q_isArr, q_int, q_bool, q_str, q_sl, q_nils, e_exit, e_ret, e_nrm, e_ret_exit, e_exit_ret, e_nrm_exit, e_nrm_ret, e_exit_nrm, e_ret_nrm, Nat.zero_add, Nat.reduceAdd, noslR, noslP, noslB, noslA, List.all_cons, List.all_nil]
  unfold judge
  cases (!holds || e4 != 1) <;> cases (safe && leB 2 causes) <;> rfl

theorem rrun_loop (delay : Int) : ∀ (l pre : List Int) (c0 c1 : Int) (acc : List (List PV)), (pre ++ l).length ≤ 400 → acc.length = pre.length →
    lp E (denC E) 21 0 [] 0 { vals := [AV.int .i64 delay, AV.sl 1 (intsK .i64 (pre ++ l)), AV.int .i64 ((pre ++ l).length : Int), AV.int .i64 (pre.length : Int)], blks := [Blk.box [AV.int .i64 c0, AV.int .i64 c1], Blk.arr 1 acc] } =
      if (runL delay l pre.length c0 c1).2 = 0 then some (Ex.exit 0, { vals := [], blks := [Blk.arr 1 (acc ++ intsK .i64 (runL delay l pre.length c0 c1).1)] })
      else some (Ex.ret, { vals := [AV.sl 1 [], AV.int .i64 (runL delay l pre.length c0 c1).2], blks := [] })
  | [], pre, c0, c1, acc, hl, ha => by
    rw [r21_0, ctl_dec, if_neg (by simp)]
    simp [runL, intsK]
  | x :: l, pre, c0, c1, acc, hl, ha => by
    simp only [List.length_append, List.length_cons] at hl
    rw [r21_0, ctl_dec, if_pos (by simp; omega), getE_ints (by simp; omega)]
    have hx : (pre ++ x :: l).getD ((pre.length : Int)).toNat 0 = x := by simp [List.getD]
    rw [hx]
    simp only [bnd_some, ctl_true, ctl_false, ctl_and, ctl_or', ctl_or2, x_toPV, x_toCs, x_toCs2, x_toEs, x_bEs, x_bCs, x_aPV, x_aCs, x_int, x_bool, x_str, x_es, x_esn, nth_0, nth_1, nth_2, nth_3, nth_4, nth_5, nth_6, nth_7, nth_8, nth_9, y_nil, y_int, y_bool, y_str, y_sl, y_nils, y_agg, y_ownp, y_own, z_nil, z_int, z_bool, z_str, z_sl, z_nils, b_nil, b_arr, b_box1, b_box2, b_box3, b_box4, List.map_cons, List.map_nil, Bool.and_self, Bool.and_true, Bool.true_and, Bool.not_true, Bool.not_false, Bool.or_false, Bool.false_or, cond_true, cond_false, okPack, okPut, okPutBlks, okPutCells, q_isP, q_isAg, q_isBox, q_isArr, q_int, q_bool, q_str, q_sl, q_nils, e_exit, e_ret, e_nrm, e_ret_exit, e_exit_ret, e_nrm_exit, e_nrm_ret, e_exit_nrm, e_ret_nrm, Nat.zero_add, Nat.reduceAdd, noslR, noslP, noslB, noslA, List.all_cons, List.all_nil, c_rNext]
    by_cases h : (nextF c0 c1 pre.length x delay).2.2 = 0
    · have hroom : (leN ((acc.length + 1) * 8) 140737488355328) = true := by simp; omega
      have hz : ((nextF c0 c1 pre.length x delay).2.2 != 0) = false := by simp [h]
      rw [hz, ctl_false, hroom, ctl_true, w64 (by omega)]
      have ih := rrun_loop delay l (pre ++ [x]) (nextF c0 c1 pre.length x delay).1 (nextF c0 c1 pre.length x delay).2.1 (acc ++ [[PV.int .i64 (nextF c0 c1 pre.length x delay).1]]) (by simp; omega) (by simp [ha])
      simp only [List.append_assoc, List.cons_append, List.nil_append, List.length_append, List.length_cons, List.length_nil] at ih
      simp only [List.length_append, List.length_cons]
      have e1 : ((pre.length : Int) + 1) = ((pre.length + (0 + 1) : Nat) : Int) := by omega
      rw [e1, ih]
      have e2 : ((pre.length + (0 + 1) : Nat) : Int) = (pre.length : Int) + 1 := by omega
      simp only [runL, if_pos h, e2]
      split
      · simp [intsK]
      · rfl
    · have hz : ((nextF c0 c1 pre.length x delay).2.2 != 0) = true := by simp [h]
      rw [hz, ctl_true]
      simp only [runL, if_neg h]

theorem c_rRun {L : List Int} (delay : Int) (hL : L.length ≤ 400) : denC E 21 [AV.sl 1 (intsK .i64 L), AV.int .i64 delay] [] =
    some ([RV.p (PV.sl 1 (if (runR L delay).2 = 0 then intsK .i64 (runR L delay).1 else [])), RV.p (PV.int .i64 (runR L delay).2)], []) := by
  rw [denC_eq, r21, intsK_length, ctl_dec, if_neg (by omega)]
  have h := rrun_loop delay L [] 1 (-1) [] (by simpa using hL) rfl
  simp only [List.nil_append, List.length_nil] at h
  have e0 : (((0 : Nat)) : Int) = 0 := rfl
  rw [e0] at h
  rw [h]
  unfold runR
  by_cases hz : (runL delay L 0 1 (-1)).2 = 0
  · rw [if_pos hz, if_pos hz]
    simp only [bnd_some, ctl_true, ctl_false, ctl_and, ctl_or', ctl_or2, x_toPV, x_toCs, x_toCs2, x_toEs, x_bEs, x_bCs, x_aPV, x_aCs, x_int, x_bool, x_str, x_es, x_esn, nth_0, nth_1, nth_2, nth_3, nth_4, nth_5, nth_6, nth_7, nth_8, nth_9, y_nil, y_int, y_bool, y_str, y_sl, y_nils, y_agg, y_ownp, y_own, z_nil, z_int, z_bool, z_str, z_sl, z_nils, b_nil, b_arr, b_box1, b_box2, b_box3, b_box4, List.map_cons, List.map_nil, Bool.and_self, Bool.and_true, Bool.true_and, Bool.not_true, Bool.not_false, Bool.or_false, Bool.false_or, cond_true, cond_false, okPack, okPut, okPutBlks, okPutCells, q_isP, q_isAg, q_isBox, q_isArr, q_int, q_bool, q_str, q_sl, q_nils, e_exit, e_ret, e_nrm, e_ret_exit, e_exit_ret, e_nrm_exit, e_nrm_ret, e_exit_nrm, e_ret_nrm, Nat.zero_add, Nat.reduceAdd, noslR, noslP, noslB, noslA, List.all_cons, List.all_nil]
    rw [hz]
  · rw [if_neg hz, if_neg hz]
    simp only [bnd_some, ctl_true, ctl_false, ctl_and, ctl_or', ctl_or2, x_toPV, x_toCs, x_toCs2, x_toEs, x_bEs, x_bCs, x_aPV, x_aCs, x_int, x_bool, x_str, x_es, x_esn, nth_0, nth_1, nth_2, nth_3, nth_4, nth_5, nth_6, nth_7, nth_8, nth_9, y_nil, y_int, y_bool, y_str, y_sl, y_nils, y_agg, y_ownp, y_own, z_nil, z_int, z_bool, z_str, z_sl, z_nils, b_nil, b_arr, b_box1, b_box2, b_box3, b_box4, List.map_cons, List.map_nil, Bool.and_self, Bool.and_true, Bool.true_and, Bool.not_true, Bool.not_false, Bool.or_false, Bool.false_or, cond_true, cond_false, okPack, okPut, okPutBlks, okPutCells, q_isP, q_isAg, q_isBox, q_isArr, q_int, q_bool, q_str, q_sl, q_nils, e_exit, e_ret, e_nrm, e_ret_exit, e_exit_ret, e_nrm_exit, e_nrm_ret, e_exit_nrm, e_ret_nrm, Nat.zero_add, Nat.reduceAdd, noslR, noslP, noslB, noslA, List.all_cons, List.all_nil]

theorem runL_len (delay : Int) : ∀ (l : List Int) (t c0 c1 : Int), (runL delay l t c0 c1).1.length ≤ l.length
  | [], _, _, _ => Nat.le_refl _
  | x :: l, t, c0, c1 => by
    unfold runL
    split
    · have := runL_len delay l (t + 1) (nextF c0 c1 t x delay).1 (nextF c0 c1 t x delay).2.1
      simp only [List.length_cons]; omega
    · simp

/-- Both sides' Run at once: the same answer, whatever the list. -/
theorem c_Runs (L : List Int) (delay : Int) : ∃ (a : PV) (b : List Int) (e : Int), a.toEs = intsK .i64 b ∧ (a = PV.nils ∨ a = PV.sl 1 (intsK .i64 b)) ∧ b.length ≤ 400 ∧
    denC E 20 [AV.sl 1 (intsK .i64 L), AV.int .i64 delay] [] = some ([RV.p a, RV.p (PV.int .i64 e)], []) ∧
    denC E 21 [AV.sl 1 (intsK .i64 L), AV.int .i64 delay] [] = some ([RV.p a, RV.p (PV.int .i64 e)], []) := by
  by_cases hL : L.length ≤ 400
  · have h1 := c_Run delay hL
    have h2 := c_rRun delay hL
    by_cases hz : (runR L delay).2 = 0
    · rw [if_pos hz] at h1 h2
      refine ⟨_, (runR L delay).1, _, rfl, Or.inr rfl, ?_, h1, h2⟩
      have := runL_len delay L 0 1 (-1)
      unfold runR; omega
    · rw [if_neg hz] at h1 h2
      exact ⟨_, [], _, rfl, Or.inr rfl, by simp, h1, h2⟩
  · refine ⟨PV.nils, [], 2, rfl, Or.inl rfl, by simp, ?_, ?_⟩
    · rw [denC_eq, r20, intsK_length, ctl_dec, if_pos (by omega)]
    · rw [denC_eq, r21, intsK_length, ctl_dec, if_pos (by omega)]

/-! ### Parameters that are structs -/
def fty (P : Program) (t : TypeId) : List TypeId := match P.underlying t with
  | some (.struct fs) => fs.toList.map fun (f : Field) => f.type
  | _ => []

theorem all2_mapl {α β γ : Type} {R : β → γ → Prop} (g : α → β) : ∀ {l : List α} {m : List γ}, All2 (fun a c => R (g a) c) l m → All2 R (l.map g) m
  | [], [], _ => trivial
  | [], _ :: _, h => h.elim
  | _ :: _, [], h => h.elim
  | _ :: _, _ :: _, h => ⟨h.1, all2_mapl g h.2⟩

theorem wfc_flds {P : Program} {t x : TypeId} {l : List TypeId} {k : Nat} {cs : List PV} (hf : fty P t = x :: l) (h : WFc P (k + 1) t cs) : ∃ xs, cs = xs.flatten ∧ All2 (WFc P k) (x :: l) xs := by
  rw [← hf]
  unfold fty at hf ⊢
  split at hf
  · rename_i fs hu
    obtain ⟨xs, h1, h2⟩ := wfc_struct hu h
    exact ⟨xs, h2, all2_mapl _ h1⟩
  · cases hf

theorem wfa_flds {P : Program} {t x : TypeId} {l : List TypeId} {a : AV} (hf : fty P t = x :: l) (h : WFA P t a) : ∃ xs, a = .t (.agg xs.flatten) ∧ All2 (WFc P 11) (x :: l) xs := by
  rw [← hf]
  unfold fty at hf ⊢
  split at hf
  · rename_i fs hu
    obtain ⟨cs, h0, xs, h1, h2⟩ := wfa_struct hu h
    exact ⟨xs, by rw [h0, h2], all2_mapl _ h1⟩
  · cases hf

end Go.Proofs.Ytiagcaefhjibjaa.Vm
