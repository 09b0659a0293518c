/- The law StatusNever comes to true. -/
import Derived.Test.YtiagcaefhjibjaaStatusL
namespace Go.Proofs.Ytiagcaefhjibjaa.Vm
set_option linter.unusedVariables false
set_option linter.unusedSimpArgs false

/-- No level is better than what was judged in the delay ticks before. -/
def neverP (D : Int) : List Int → List Int → List Int → Prop
  | p, x :: xs, j :: l => (∀ k : Nat, k < p.length + 1 → (p.length : Int) - D ≤ k → x ≤ (p ++ [j]).getD k 0) ∧ neverP D (p ++ [j]) xs l
  | _, [], [] => True
  | _, _, _ => False

theorem getD_snoc_lt {p : List Int} {j : Int} {k : Nat} (h : k < p.length) : (p ++ [j]).getD k 0 = p.getD k 0 := by
  simp only [List.getD]
  rw [List.getElem?_append_left h]
theorem getD_snoc_eq {p : List Int} {j : Int} {k : Nat} (h : k = p.length) : (p ++ [j]).getD k 0 = j := by subst h; simp [List.getD]

theorem runL_never {D : Int} (hd : 0 ≤ D ∧ D ≤ 600) : ∀ (l p : List Int) (c0 c1 : Int), (∀ x ∈ l, 1 ≤ x ∧ x ≤ 3) → VC c0 c1 p.length = true → p.length + l.length ≤ 1000 →
    (∀ k : Nat, k < p.length → (p.length : Int) - 1 - D ≤ k → c0 ≤ p.getD k 0) → (c1 ≠ -1 → ∀ k : Nat, k < p.length → c1 ≤ k → c0 < p.getD k 0) →
    neverP D p (runL D l p.length c0 c1).1 l
  | [], p, c0, c1, _, _, _, _, _ => trivial
  | j :: l, p, c0, c1, hx, hv, hl, hA, hB => by
    simp only [List.length_cons] at hl
    have hj := hx j (by simp)
    obtain ⟨h1, h2, h3⟩ := nextF_ok (judged := j) (delay := D) hv hj (by omega) hd
    have hv' := VC_iff.1 hv
    have e1 : (p.length : Int) + 1 = ((p ++ [j]).length : Nat) := by simp
    simp only [runL, if_pos h1]
    have main : (∀ k : Nat, k < p.length + 1 → (p.length : Int) - D ≤ k → (nextF c0 c1 p.length j D).1 ≤ (p ++ [j]).getD k 0) ∧
        ((nextF c0 c1 p.length j D).2.1 ≠ -1 → ∀ k : Nat, k < p.length + 1 → (nextF c0 c1 p.length j D).2.1 ≤ k → (nextF c0 c1 p.length j D).1 < (p ++ [j]).getD k 0) := by
      have split : ∀ k : Nat, k < p.length + 1 → (k < p.length ∧ (p ++ [j]).getD k 0 = p.getD k 0) ∨ (k = p.length ∧ (p ++ [j]).getD k 0 = j) := fun k hk => by
        by_cases h : k < p.length
        · exact .inl ⟨h, getD_snoc_lt h⟩
        · exact .inr ⟨by omega, getD_snoc_eq (by omega)⟩
      rcases h3 with ⟨a, e⟩ | ⟨a, b, e⟩ | ⟨a, b, e⟩
      · rw [e]
        refine ⟨fun k hk hk' => ?_, fun h => absurd rfl h⟩
        rcases split k hk with ⟨g1, g2⟩ | ⟨g1, g2⟩
        · rw [g2]
          have := hA k g1 (by omega)
          simp only; omega
        · rw [g2]; simp only; omega
      · rw [e]
        refine ⟨fun k hk hk' => ?_, fun h k hk hk' => ?_⟩
        · rcases split k hk with ⟨g1, g2⟩ | ⟨g1, g2⟩
          · rw [g2]
            have := hA k g1 (by omega)
            simp only; omega
          · rw [g2]; simp only; omega
        · simp only at hk' ⊢
          rcases split k hk with ⟨g1, g2⟩ | ⟨g1, g2⟩
          · rw [g2]
            by_cases hc : c1 = -1
            · rw [if_pos hc] at hk'; omega
            · rw [if_neg hc] at hk'
              exact hB hc k g1 hk'
          · rw [g2]; omega
      · rw [e]
        have hup : ∀ k : Nat, k < p.length + 1 → (p.length : Int) - D ≤ k → c0 + 1 ≤ (p ++ [j]).getD k 0 := fun k hk hk' => by
          rcases split k hk with ⟨g1, g2⟩ | ⟨g1, g2⟩
          · rw [g2]
            by_cases hc : c1 = -1
            · rw [if_pos hc] at b; omega
            · rw [if_neg hc] at b
              have := hB hc k g1 (by omega)
              omega
          · rw [g2]; omega
        refine ⟨fun k hk hk' => hup k hk hk', fun h k hk hk' => ?_⟩
        simp only at h hk' ⊢
        by_cases hc : c0 + 1 < j
        · rw [if_pos hc] at hk'
          rcases split k hk with ⟨g1, g2⟩ | ⟨g1, g2⟩
          · omega
          · rw [g2]; omega
        · rw [if_neg hc] at h
          exact absurd rfl h
    refine ⟨main.1, ?_⟩
    rw [e1]
    rw [e1] at h2
    exact runL_never hd l (p ++ [j]) _ _ (fun y hy => hx y (by simp [hy])) h2 (by simp; omega) (fun k hk hk' => main.1 k (by simpa using hk) (by simp at hk'; omega)) (fun h k hk hk' => main.2 h k (by simpa using hk) hk')

/-- The inner loop: the ticks from k on to tick i. -/
theorem never_in {l x : List Int} {D : Int} {i : Nat} (hi : i < x.length) (hil : i < l.length) (hlen : l.length ≤ 1000) : ∀ (m k : Nat), k + m = i + 1 → (∀ q : Nat, k ≤ q → q ≤ i → x.getD i 0 ≤ l.getD q 0) →
    lp E (denC E) 4 0 [] 2 { vals := [AV.sl 1 (intsK .i64 l), AV.int .i64 D, AV.sl 1 (intsK .i64 x), AV.int .i64 (i : Int), AV.int .i64 (k : Int), AV.int .i64 (x.length : Int), AV.int .i64 (i : Int)], blks := [] } =
      some (Ex.exit 2, { vals := [AV.sl 1 (intsK .i64 l), AV.int .i64 D, AV.sl 1 (intsK .i64 x), AV.int .i64 (x.length : Int), AV.int .i64 (i : Int)], blks := [] })
  | 0, k, hk, h => by
    rw [r4_2, ctl_dec, if_neg (by omega)]
  | m + 1, k, hk, h => by
    rw [r4_2, ctl_dec, if_pos (by omega), getE_ints (by omega), getE_ints (by omega)]
    simp only [bnd_some, ctl_true, ctl_false, ctl_and, ctl_or', ctl_or2, x_toPV, x_toCs, x_toCs2, x_toEs, x_bEs, x_bCs, x_aPV, x_aCs, x_int, x_bool, x_str, x_es, x_esn, nth_0, nth_1, nth_2, nth_3, nth_4, nth_5, nth_6, nth_7, nth_8, nth_9, y_nil, y_int, y_bool, y_str, y_sl, y_nils, y_agg, y_ownp, y_own, z_nil, z_int, z_bool, z_str, z_sl, z_nils, b_nil, b_arr, b_box1, b_box2, b_box3, b_box4, List.map_cons, List.map_nil, Bool.and_self, Bool.and_true, Bool.true_and, Bool.not_true, Bool.not_false, Bool.or_false, Bool.false_or, cond_true, cond_false, okPack, okPut, okPutBlks, okPutCells, q_isP, q_isAg, q_isBox, q_isArr, q_int, q_bool, q_str, q_sl, q_nils, e_exit, e_ret, e_nrm, e_ret_exit, e_exit_ret, e_nrm_exit, e_nrm_ret, e_exit_nrm, e_ret_nrm, Nat.zero_add, Nat.reduceAdd, noslR, noslP, noslB, noslA, List.all_cons, List.all_nil, Int.toNat_natCast]
    have h0 := h k (by omega) (by omega)
    have k1 : ltB (l.getD k 0) (x.getD i 0) = false := by simp only [decide_eq_false_iff_not]; omega
    rw [k1, ctl_false, w64 (by omega)]
    have ih := never_in (D := D) hi hil hlen m (k + 1) (by omega) fun q h1 h2 => h q (by omega) h2
    have e1 : ((k : Int) + 1) = ((k + 1 : Nat) : Int) := by omega
    rw [e1, ih]

theorem never_loop {D : Int} (hD : 0 ≤ D ∧ D ≤ 600) : ∀ (l x p px : List Int), p.length = px.length → (px ++ x).length ≤ 1000 → neverP D p x l →
    lp E (denC E) 4 0 [] 0 { vals := [AV.sl 1 (intsK .i64 (p ++ l)), AV.int .i64 D, AV.sl 1 (intsK .i64 (px ++ x)), AV.int .i64 ((px ++ x).length : Int), AV.int .i64 (px.length : Int)], blks := [] } =
      some (Ex.exit 0, { vals := [], blks := [] })
  | [], [], p, px, _, _, _ => by
    rw [r4_0, ctl_dec, if_neg (by simp)]
  | j :: l, y :: x, p, px, hp, hl, hn => by
    obtain ⟨h1, h2⟩ := hn
    have hpl : ∀ (a : Int) (b : List Int), (p ++ a :: b).length = p.length + (b.length + 1) := fun a b => by simp
    have hxl : ∀ (a : Int) (b : List Int), (px ++ a :: b).length = px.length + (b.length + 1) := fun a b => by simp
    have hll : l.length = x.length := by
      clear h1 hl hp hpl hxl
      revert h2
      generalize p ++ [j] = q
      intro h2
      induction l generalizing x q with
      | nil => cases x with | nil => rfl | cons => exact h2.elim
      | cons a l ih => cases x with | nil => exact h2.elim | cons b x => simp only [List.length_cons]; rw [ih x _ h2.2]
    rw [hxl] at hl
    rw [r4_0, ctl_dec, if_pos (by rw [hxl]; omega)]
    have hmx : IntKind.i64.wrap ((px.length : Int) - D) = (px.length : Int) - D := w64 (by omega)
    have hk0 : maxI ((px.length : Int) - D) 0 = ((px.length - D.toNat : Nat) : Int) := by unfold maxI; split <;> omega
    rw [hmx, hk0]
    have hin := never_in (l := p ++ j :: l) (x := px ++ y :: x) (D := D) (i := px.length) (by rw [hxl]; omega) (by rw [hpl]; omega) (by rw [hpl]; omega) (px.length + 1 - (px.length - D.toNat)) (px.length - D.toNat) (by omega) fun q hq hq' => by
      have hx : (px ++ y :: x).getD px.length 0 = y := by simp [List.getD]
      rw [hx]
      have := h1 q (by omega) (by omega)
      have e : (p ++ j :: l).getD q 0 = (p ++ [j]).getD q 0 := by
        simp only [List.getD]
        rw [show p ++ j :: l = (p ++ [j]) ++ l by simp, List.getElem?_append_left (by simp; omega)]
      rw [e]; exact this
    rw [hin]
    simp only [bnd_some, ctl_true, ctl_false, ctl_and, ctl_or', ctl_or2, x_toPV, x_toCs, x_toCs2, x_toEs, x_bEs, x_bCs, x_aPV, x_aCs, x_int, x_bool, x_str, x_es, x_esn, nth_0, nth_1, nth_2, nth_3, nth_4, nth_5, nth_6, nth_7, nth_8, nth_9, y_nil, y_int, y_bool, y_str, y_sl, y_nils, y_agg, y_ownp, y_own, z_nil, z_int, z_bool, z_str, z_sl, z_nils, b_nil, b_arr, b_box1, b_box2, b_box3, b_box4, List.map_cons, List.map_nil, Bool.and_self, Bool.and_true, Bool.true_and, Bool.not_true, Bool.not_false, Bool.or_false, Bool.false_or, cond_true, cond_false, okPack, okPut, okPutBlks, okPutCells, q_isP, q_isAg, q_isBox, q_isArr, q_int, q_bool, q_str, q_sl, q_nils, e_exit, e_ret, e_nrm, e_ret_exit, e_exit_ret, e_nrm_exit, e_nrm_ret, e_exit_nrm, e_ret_nrm, Nat.zero_add, Nat.reduceAdd, noslR, noslP, noslB, noslA, List.all_cons, List.all_nil]
    rw [w64 (by omega)]
    have ih := never_loop hD l x (p ++ [j]) (px ++ [y]) (by simp [hp]) (by simp; omega) h2
    simp only [List.append_assoc, List.cons_append, List.nil_append, List.length_append, List.length_cons, List.length_nil] at ih
    simp only [List.length_append, List.length_cons]
    have e1 : ((px.length : Int) + 1) = ((px.length + (0 + 1) : Nat) : Int) := by omega
    rw [e1, ih]
  | [], _ :: _, _, _, _, _, h => h.elim
  | _ :: _, [], _, _, _, _, h => h.elim

theorem d_StatusNever (t : List Int) (_ : t.length ≤ maxLen) (_ : ∀ n ∈ t, -9223372036854775808 ≤ n ∧ n ≤ 9223372036854775807) (d : Int) (hd : 0 ≤ d ∧ d ≤ 255) :
    denC E 4 [AV.sl 1 (intsK .i64 t), AV.int .u8 d] [] = some ([RV.p (PV.bool true)], []) := by
  rw [denC_eq, r4, intsK_length, ctl_dec]
  by_cases ht : 600 < (t.length : Int)
  · rw [if_pos ht, c_sane]
    simp only [bnd_some, ctl_true, ctl_false, ctl_and, ctl_or', ctl_or2, x_toPV, x_toCs, x_toCs2, x_toEs, x_bEs, x_bCs, x_aPV, x_aCs, x_int, x_bool, x_str, x_es, x_esn, nth_0, nth_1, nth_2, nth_3, nth_4, nth_5, nth_6, nth_7, nth_8, nth_9, y_nil, y_int, y_bool, y_str, y_sl, y_nils, y_agg, y_ownp, y_own, z_nil, z_int, z_bool, z_str, z_sl, z_nils, b_nil, b_arr, b_box1, b_box2, b_box3, b_box4, List.map_cons, List.map_nil, Bool.and_self, Bool.and_true, Bool.true_and, Bool.not_true, Bool.not_false, Bool.or_false, Bool.false_or, cond_true, cond_false, okPack, okPut, okPutBlks, okPutCells, q_isP, q_isAg, q_isBox, q_isArr, q_int, q_bool, q_str, q_sl, q_nils, e_exit, e_ret, e_nrm, e_ret_exit, e_exit_ret, e_nrm_exit, e_nrm_ret, e_exit_nrm, e_ret_nrm, Nat.zero_add, Nat.reduceAdd, noslR, noslP, noslB, noslA, List.all_cons, List.all_nil]
  · rw [if_neg ht, c_New]
    have hL : (t.take 600).length ≤ 600 := by rw [List.length_take]; omega
    simp only [bnd_some, ctl_true, ctl_false, ctl_and, ctl_or', ctl_or2, x_toPV, x_toCs, x_toCs2, x_toEs, x_bEs, x_bCs, x_aPV, x_aCs, x_int, x_bool, x_str, x_es, x_esn, nth_0, nth_1, nth_2, nth_3, nth_4, nth_5, nth_6, nth_7, nth_8, nth_9, y_nil, y_int, y_bool, y_str, y_sl, y_nils, y_agg, y_ownp, y_own, z_nil, z_int, z_bool, z_str, z_sl, z_nils, b_nil, b_arr, b_box1, b_box2, b_box3, b_box4, List.map_cons, List.map_nil, Bool.and_self, Bool.and_true, Bool.true_and, Bool.not_true, Bool.not_false, Bool.or_false, Bool.false_or, cond_true, cond_false, okPack, okPut, okPutBlks, okPutCells, q_isP, q_isAg, q_isBox, q_isArr, q_int, q_bool, q_str, q_sl, q_nils, e_exit, e_ret, e_nrm, e_ret_exit, e_exit_ret, e_nrm_exit, e_nrm_ret, e_exit_nrm, e_ret_nrm, Nat.zero_add, Nat.reduceAdd, noslR, noslP, noslB, noslA, List.all_cons, List.all_nil]
    rw [src_zero, c_levels hL (by omega) 30 (by omega)]
    simp only [bnd_some, ctl_true, ctl_false, ctl_and, ctl_or', ctl_or2, x_toPV, x_toCs, x_toCs2, x_toEs, x_bEs, x_bCs, x_aPV, x_aCs, x_int, x_bool, x_str, x_es, x_esn, nth_0, nth_1, nth_2, nth_3, nth_4, nth_5, nth_6, nth_7, nth_8, nth_9, y_nil, y_int, y_bool, y_str, y_sl, y_nils, y_agg, y_ownp, y_own, z_nil, z_int, z_bool, z_str, z_sl, z_nils, b_nil, b_arr, b_box1, b_box2, b_box3, b_box4, List.map_cons, List.map_nil, Bool.and_self, Bool.and_true, Bool.true_and, Bool.not_true, Bool.not_false, Bool.or_false, Bool.false_or, cond_true, cond_false, okPack, okPut, okPutBlks, okPutCells, q_isP, q_isAg, q_isBox, q_isArr, q_int, q_bool, q_str, q_sl, q_nils, e_exit, e_ret, e_nrm, e_ret_exit, e_exit_ret, e_nrm_exit, e_nrm_ret, e_exit_nrm, e_ret_nrm, Nat.zero_add, Nat.reduceAdd, noslR, noslP, noslB, noslA, List.all_cons, List.all_nil]
    obtain ⟨hl, hx⟩ := lvN_spec (L := t.take 600) (k := 0) (most := 30) (by omega)
    generalize lvN (t.take 600) 0 30 = l at *
    have hd6 : 0 ≤ d.tmod 6 ∧ d.tmod 6 ≤ 5 := by rw [Int.tmod_eq_emod_of_nonneg hd.1]; omega
    rw [w64 (n := d) (by omega), c_Run _ (by omega)]
    simp only [bnd_some, ctl_true, ctl_false, ctl_and, ctl_or', ctl_or2, x_toPV, x_toCs, x_toCs2, x_toEs, x_bEs, x_bCs, x_aPV, x_aCs, x_int, x_bool, x_str, x_es, x_esn, nth_0, nth_1, nth_2, nth_3, nth_4, nth_5, nth_6, nth_7, nth_8, nth_9, y_nil, y_int, y_bool, y_str, y_sl, y_nils, y_agg, y_ownp, y_own, z_nil, z_int, z_bool, z_str, z_sl, z_nils, b_nil, b_arr, b_box1, b_box2, b_box3, b_box4, List.map_cons, List.map_nil, Bool.and_self, Bool.and_true, Bool.true_and, Bool.not_true, Bool.not_false, Bool.or_false, Bool.false_or, cond_true, cond_false, okPack, okPut, okPutBlks, okPutCells, q_isP, q_isAg, q_isBox, q_isArr, q_int, q_bool, q_str, q_sl, q_nils, e_exit, e_ret, e_nrm, e_ret_exit, e_exit_ret, e_nrm_exit, e_nrm_ret, e_exit_nrm, e_ret_nrm, Nat.zero_add, Nat.reduceAdd, noslR, noslP, noslB, noslA, List.all_cons, List.all_nil]
    obtain ⟨h1, h2⟩ := runL_ok (delay := d.tmod 6) (by omega) l 0 1 (-1) hx vc_start (by omega) (by omega)
    have h3 := runL_never (D := d.tmod 6) (by omega) l [] 1 (-1) hx vc_start (by simp; omega) (fun k hk => by simp at hk) (fun h => absurd rfl h)
    have e : runL (d.tmod 6) l 0 1 (-1) = runR l (d.tmod 6) := rfl
    have e' : runL (d.tmod 6) l (([] : List Int).length : Nat) 1 (-1) = runR l (d.tmod 6) := rfl
    rw [e] at h1 h2
    rw [e'] at h3
    rw [h1, if_pos rfl, intsK_length, intsK_length, h2]
    generalize (runR l (d.tmod 6)).1 = x at *
    have hlp := never_loop (D := d.tmod 6) (by omega) l x [] [] rfl (by simp; omega) h3
    simp only [List.nil_append, List.length_nil] at hlp
    have e0 : (((0 : Nat)) : Int) = 0 := rfl
    rw [e0, h2] at hlp
    have k0 : ((0 : Int) != 0 || (l.length : Int) != (l.length : Int)) = false := by simp
    rw [k0, ctl_false, hlp]
    simp only [bnd_some, ctl_true, ctl_false, ctl_and, ctl_or', ctl_or2, x_toPV, x_toCs, x_toCs2, x_toEs, x_bEs, x_bCs, x_aPV, x_aCs, x_int, x_bool, x_str, x_es, x_esn, nth_0, nth_1, nth_2, nth_3, nth_4, nth_5, nth_6, nth_7, nth_8, nth_9, y_nil, y_int, y_bool, y_str, y_sl, y_nils, y_agg, y_ownp, y_own, z_nil, z_int, z_bool, z_str, z_sl, z_nils, b_nil, b_arr, b_box1, b_box2, b_box3, b_box4, List.map_cons, List.map_nil, Bool.and_self, Bool.and_true, Bool.true_and, Bool.not_true, Bool.not_false, Bool.or_false, Bool.false_or, cond_true, cond_false, okPack, okPut, okPutBlks, okPutCells, q_isP, q_isAg, q_isBox, q_isArr, q_int, q_bool, q_str, q_sl, q_nils, e_exit, e_ret, e_nrm, e_ret_exit, e_exit_ret, e_nrm_exit, e_nrm_ret, e_exit_nrm, e_ret_nrm, Nat.zero_add, Nat.reduceAdd, noslR, noslP, noslB, noslA, List.all_cons, List.all_nil, c_sane]

end Go.Proofs.Ytiagcaefhjibjaa.Vm
