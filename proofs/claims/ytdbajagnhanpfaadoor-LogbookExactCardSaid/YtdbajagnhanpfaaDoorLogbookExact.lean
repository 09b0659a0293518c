/- The law LogbookExact. -/
import Derived.Test.YtdbajagnhanpfaaDoorBookH
import Derived.Test.YtdbajagnhanpfaaDoorRawExact
import Derived.Test.YtdbajagnhanpfaaDoorFlds
namespace Go.Proofs.YtdbajagnhanpfaaDoor.Vm
set_option linter.unusedVariables false
set_option linter.unusedSimpArgs false

/-! ### Arguments -/
/-- An entry of numbers, not too long. -/
def bE (e : En) : Prop := wordOk e.t ∧ wordOk e.k ∧ (∀ x ∈ e.ws, wordOk x) ∧ e.ws.length ≤ 10
/-- An entry of numbers. -/
def nE (e : En) : Prop := wordOk e.t ∧ wordOk e.k ∧ (∀ x ∈ e.ws, wordOk x)
theorem un_int : Tryd.prog.underlying 3 = some (.int .i64) := by kernel_rfl
theorem un_u64 : Tryd.prog.underlying 23 = some (.int .u64) := by kernel_rfl
theorem wds_of : ∀ {es : List (List PV)}, (∀ x ∈ es, ∃ n, x = [PV.int .i64 n] ∧ wordOk n) → ∃ l : List Int, es = intsK .i64 l ∧ ∀ n ∈ l, wordOk n
  | [], _ => ⟨[], rfl, fun n hn => (List.not_mem_nil hn).elim⟩
  | x :: es, h => by
    obtain ⟨l, rfl, h1⟩ := wds_of (es := es) fun y hy => h y (by simp [hy])
    obtain ⟨n, rfl, h2⟩ := h x (by simp)
    exact ⟨n :: l, rfl, fun m hm => by
      rcases List.mem_cons.1 hm with rfl | hm
      · exact h2
      · exact h1 m hm⟩
theorem ens_of : ∀ {es : List (List PV)}, (∀ x ∈ es, ∃ e, x = enK e ∧ nE e) → ∃ l : List En, es = ensK l ∧ ∀ e ∈ l, nE e
  | [], _ => ⟨[], rfl, fun n hn => (List.not_mem_nil hn).elim⟩
  | x :: es, h => by
    obtain ⟨l, rfl, h1⟩ := ens_of (es := es) fun y hy => h y (by simp [hy])
    obtain ⟨n, rfl, h2⟩ := h x (by simp)
    exact ⟨n :: l, rfl, fun m hm => by
      rcases List.mem_cons.1 hm with rfl | hm
      · exact h2
      · exact h1 m hm⟩
theorem ft_En : fty Tryd.prog 29 = [3, 3, 27] := by kernel_rfl
theorem ft_Book : fty Tryd.prog 25 = [22, 23] := by kernel_rfl
theorem wf_w {n : Int} (h : (Lit.int .i64 n).wf = true) : wordOk n := wf_i64 h
set_option maxRecDepth 100000 in
theorem in_xs {xs : List (List PV)} {k : Nat} (hx : All2 (WFc Tryd.prog (k + 2)) [3, 3, 27] xs) : ∃ e : En, xs.flatten = enK e ∧ nE e := by
  obtain ⟨x0, xs0, rfl, h0, k0⟩ := all2_cons hx
  obtain ⟨x1, xs1, rfl, h1, k1⟩ := all2_cons k0
  obtain ⟨x2, xs2, rfl, h2, k2⟩ := all2_cons k1
  obtain rfl := all2_nil k2
  obtain ⟨c0, rfl, w0⟩ := wfc_int un_int h0
  obtain ⟨c1, rfl, w1⟩ := wfc_int un_int h1
  obtain ⟨es, rfl, h3, h4⟩ := wfc_sl (e := 3) (by kernel_rfl) h2
  obtain ⟨l, rfl, h5⟩ := wds_of fun x hx => by
    obtain ⟨n, hn, w⟩ := wfc_int un_int (h4 x hx)
    exact ⟨n, hn, wf_w w⟩
  exact ⟨⟨c0, c1, l⟩, rfl, wf_w w0, wf_w w1, h5⟩
theorem in_En {a : AV} (h : WFA Tryd.prog 29 a) : ∃ e : En, a = AV.agg (enK e) ∧ nE e := by
  obtain ⟨xs, rfl, hx⟩ := wfa_flds ft_En h
  obtain ⟨e, he, hn⟩ := in_xs (k := 9) hx
  exact ⟨e, by rw [he], hn⟩
set_option maxRecDepth 100000 in
theorem in_Book {a : AV} (h : WFA Tryd.prog 25 a) : ∃ (b : List En) (s : Int), a = AV.agg [PV.sl 3 (ensK b), PV.int .u64 s] ∧ (∀ e ∈ b, nE e) ∧ 0 ≤ s ∧ s ≤ 18446744073709551615 := by
  obtain ⟨xs, rfl, hx⟩ := wfa_flds ft_Book h
  obtain ⟨x0, xs0, rfl, h0, k0⟩ := all2_cons hx
  obtain ⟨x1, xs1, rfl, h1, k1⟩ := all2_cons k0
  obtain rfl := all2_nil k1
  obtain ⟨c1, rfl, w1⟩ := wfc_int un_u64 h1
  obtain ⟨es, rfl, h3, h4⟩ := wfc_sl (e := 29) (by kernel_rfl) h0
  obtain ⟨l, rfl, h5⟩ := ens_of fun x hx => by
    obtain ⟨ys, rfl, hy⟩ := wfc_flds ft_En (h4 x hx)
    exact in_xs hy
  exact ⟨l, c1, rfl, h5, wf_u64 w1⟩

/-! ### The entries of the book that came in -/
theorem l6_0 (t0 : List (List PV)) (kind frm to bs : Int) (o0 o1 : Int) (o2 : List (List PV)) (b : List En) (hb : b.length ≤ 1000) : ∀ (l pre : List En), pre ++ l = b →
    lp E (denC E) 6 0 [] 0 { vals := [AV.sl 1 t0, AV.int .i64 kind, AV.int .i64 frm, AV.int .i64 to, AV.sl 3 (ensK b), AV.int .i64 b.length, AV.int .i64 pre.length], blks := [Blk.box [AV.sl 3 (ensK b), AV.int .u64 bs], Blk.box [AV.int .i64 o0, AV.int .i64 o1, AV.sl 1 o2]] } =
      some (bif l.all fun e => !ltB 10 (e.ws.length : Int) then (Ex.exit 0, { vals := [AV.sl 1 t0, AV.int .i64 kind, AV.int .i64 frm, AV.int .i64 to], blks := [Blk.box [AV.sl 3 (ensK b), AV.int .u64 bs], Blk.box [AV.int .i64 o0, AV.int .i64 o1, AV.sl 1 o2]] }) else (Ex.ret, { vals := [AV.bool true], blks := [] })) := by
  intro l
  induction l with
  | nil =>
    intro pre hbb
    rw [r6_0]
    have h1 : ltB (pre.length : Int) (b.length : Int) = false := by rw [← hbb]; simp [ltB]
    rw [h1, ctl_false]
    rfl
  | cons e l ih =>
    intro pre hbb
    rw [r6_0]
    have hl : 0 ≤ (pre.length : Int) ∧ (pre.length : Int) < (b.length : Int) := by rw [← hbb]; exact mid_lt pre e l
    have h1 : ltB (pre.length : Int) (b.length : Int) = true := by simp [ltB]; omega
    rw [h1, ctl_true, getE_ens hl]
    have e1 : b.getD (pre.length : Int).toNat default = e := by rw [Int.toNat_natCast, ← hbb, getD_mid]
    have e2 : okCs [Sh.int IntKind.i64, Sh.int IntKind.i64, Sh.sl 1] (enK e) = true := rfl
    have c3 : (nth PV.nilp (enK e) 2).toEs = intsK .i64 e.ws := rfl
    rw [e1, e2, ctl_true, c3, intsK_len, c_sane36]
    simp only [bnd_some, ctl_true, ctl_false, ctl_and, ctl_or', ctl_or2, x_toPV, x_toCs, x_toCs2, x_toEs, x_bEs, x_bCs, x_aPV, x_aCs, x_int, x_bool, x_str, x_es, x_esn, nth_0, nth_1, nth_2, nth_3, nth_4, nth_5, nth_6, nth_7, nth_8, nth_9, y_nil, y_int, y_bool, y_str, y_sl, y_nils, y_agg, y_ownp, y_own, z_nil, z_int, z_bool, z_str, z_sl, z_nils, b_nil, b_arr, b_box1, b_box2, b_box3, b_box4, List.map_cons, List.map_nil, Bool.and_self, Bool.and_true, Bool.true_and, Bool.not_true, Bool.not_false, Bool.or_false, Bool.false_or, cond_true, cond_false, okPack, okPut, okPutBlks, okPutCells, q_isP, q_isAg, q_isBox, q_isArr, q_int, q_bool, q_str, q_sl, q_nils, e_exit, e_ret, e_nrm, e_ret_exit, e_exit_ret, e_nrm_exit, e_nrm_ret, e_exit_nrm, e_ret_nrm, Nat.zero_add, Nat.reduceAdd, noslR, noslP, noslB, noslA, List.all_cons, List.all_nil]
    cases hb : ltB 10 (e.ws.length : Int) with
    | true => simp only [hb, bnd_some, ctl_true, ctl_false, ctl_and, ctl_or', ctl_or2, x_toPV, x_toCs, x_toCs2, x_toEs, x_bEs, x_bCs, x_aPV, x_aCs, x_int, x_bool, x_str, x_es, x_esn, nth_0, nth_1, nth_2, nth_3, nth_4, nth_5, nth_6, nth_7, nth_8, nth_9, y_nil, y_int, y_bool, y_str, y_sl, y_nils, y_agg, y_ownp, y_own, z_nil, z_int, z_bool, z_str, z_sl, z_nils, b_nil, b_arr, b_box1, b_box2, b_box3, b_box4, List.map_cons, List.map_nil, Bool.and_self, Bool.and_true, Bool.true_and, Bool.not_true, Bool.not_false, Bool.or_false, Bool.false_or, cond_true, cond_false, okPack, okPut, okPutBlks, okPutCells, q_isP, q_isAg, q_isBox, q_isArr, q_int, q_bool, q_str, q_sl, q_nils, e_exit, e_ret, e_nrm, e_ret_exit, e_exit_ret, e_nrm_exit, e_nrm_ret, e_exit_nrm, e_ret_nrm, Nat.zero_add, Nat.reduceAdd, noslR, noslP, noslB, noslA, List.all_cons, List.all_nil, Bool.false_and]
    | false =>
      rw [w64 (n := (pre.length : Int) + 1) (by omega), len_snoc pre e]
      simp only [hb, bnd_some, ctl_true, ctl_false, ctl_and, ctl_or', ctl_or2, x_toPV, x_toCs, x_toCs2, x_toEs, x_bEs, x_bCs, x_aPV, x_aCs, x_int, x_bool, x_str, x_es, x_esn, nth_0, nth_1, nth_2, nth_3, nth_4, nth_5, nth_6, nth_7, nth_8, nth_9, y_nil, y_int, y_bool, y_str, y_sl, y_nils, y_agg, y_ownp, y_own, z_nil, z_int, z_bool, z_str, z_sl, z_nils, b_nil, b_arr, b_box1, b_box2, b_box3, b_box4, List.map_cons, List.map_nil, Bool.and_self, Bool.and_true, Bool.true_and, Bool.not_true, Bool.not_false, Bool.or_false, Bool.false_or, cond_true, cond_false, okPack, okPut, okPutBlks, okPutCells, q_isP, q_isAg, q_isBox, q_isArr, q_int, q_bool, q_str, q_sl, q_nils, e_exit, e_ret, e_nrm, e_ret_exit, e_exit_ret, e_nrm_exit, e_nrm_ret, e_exit_nrm, e_ret_nrm, Nat.zero_add, Nat.reduceAdd, noslR, noslP, noslB, noslA, List.all_cons, List.all_nil, Bool.true_and]
      exact ih (pre ++ [e]) (by rw [← hbb]; simp)

/-! ### Three entries at a book -/
theorem bE_join {e : En} (h : bE e) : (Lib.join (Lib.itoa e.t :: Lib.itoa e.k :: e.ws.map Lib.itoa) [32]).length ≤ 1000 := by
  have e1 : Lib.itoa e.t :: Lib.itoa e.k :: e.ws.map Lib.itoa = Lib.itoa e.t :: (e.k :: e.ws).map Lib.itoa := rfl
  rw [e1, Lib.join_cons, List.length_append]
  have a1 := itoa_len36 h.1
  have a2 := tail_len (e.k :: e.ws) (fun x hx => by
    rcases List.mem_cons.1 hx with rfl | hx
    · exact h.2.1
    · exact h.2.2.1 x hx)
  have := h.2.2.2
  simp only [List.length_cons] at a2
  omega
/-- A book of numbers, not too long. -/
structure bB (b : List En) (s : Int) : Prop where
  len : b.length ≤ 1000
  ws : ∀ e ∈ b, e.ws.length ≤ 1000000
  rng : 0 ≤ s ∧ s ≤ 18446744073709551615

abbrev b6 (X Y Z : List (List PV)) (x y z : Int) : List PV := [PV.sl 3 X, PV.int .u64 x, PV.sl 3 Y, PV.int .u64 y, PV.sl 3 Z, PV.int .u64 z]
abbrev e9 (p q w : En) : List PV := [PV.int .i64 p.t, PV.int .i64 p.k, PV.sl 1 (intsK .i64 p.ws), PV.int .i64 q.t, PV.int .i64 q.k, PV.sl 1 (intsK .i64 q.ws), PV.int .i64 w.t, PV.int .i64 w.k, PV.sl 1 (intsK .i64 w.ws)]
abbrev st4 (kind frm to : Int) (B : List PV) (i6 : Int) (p q w : En) (i : Int) (o : En) (S0 : List (List PV)) (S1 : Int) (b : List En) (s : Int) : Pack :=
  { vals := [AV.int .i64 kind, AV.int .i64 frm, AV.int .i64 to, AV.agg B, AV.int .i64 i6, AV.agg (e9 p q w), AV.int .i64 i], blks := [Blk.box [AV.int .i64 o.t, AV.int .i64 o.k, AV.sl 1 (intsK .i64 o.ws)], Blk.box [AV.sl 1 S0, AV.int .i64 S1], Blk.box [AV.sl 3 (ensK b), AV.int .u64 s]] }

theorem s6_4 (kind frm to : Int) (X Y Z : List (List PV)) (x y z i6 : Int) (p q w : En) (i : Int) (hi : 0 ≤ i ∧ i < 3) (o : En) (S0 : List (List PV)) (S1 : Int) (b : List En) (s : Int) (hB : bB b s) (e : En) (he : bE e)
    (hg : ∀ K : List PV → Option (Ex × Pack), getE [[PV.int .i64 p.t, PV.int .i64 p.k, PV.sl 1 (intsK .i64 p.ws)], [PV.int .i64 q.t, PV.int .i64 q.k, PV.sl 1 (intsK .i64 q.ws)], [PV.int .i64 w.t, PV.int .i64 w.k, PV.sl 1 (intsK .i64 w.ws)]] i K = K (enK e)) :
    lp E (denC E) 6 0 [] 4 (st4 kind frm to (b6 X Y Z x y z) i6 p q w i o S0 S1 b s) = lp E (denC E) 6 0 [] 4 (st4 kind frm to (b6 X Y Z x y z) i6 p q w (i + 1) o S0 S1 b s) := by
  have hj := bE_join he
  have hel : e.ws.length ≤ 1000000 := by have := he.2.2.2; omega
  have hA := c_AppendE b s e hB.ws hel
  have hD := c_AppendD b s e hB.ws hel
  have hLE := c_LineE e he.1 he.2.1 he.2.2.1 hel (by omega)
  have hLD := c_LineD e he.1 he.2.1 he.2.2.1 hel (by omega)
  have hVE := c_ValidE e.t e.k e.ws (by omega)
  have hVD := c_ValidD e.t e.k e.ws (by omega)
  have hS : ∃ r, (r = [PV.sl 3 (ensK (b ++ [e])), PV.int .u64 (sumB s (lineP e.t e.k e.ws))] ∨ r = [PV.nils, PV.int .u64 0]) ∧ appR b s e = [RV.agg r, RV.p (PV.int .i64 (appE b s e))] := by
    unfold appR
    by_cases h : appE b s e = 0
    · rw [if_pos h, h]; exact ⟨_, .inl rfl, rfl⟩
    · rw [if_neg h]; exact ⟨_, .inr rfl, rfl⟩
  obtain ⟨r, hr, hap⟩ := hS
  rw [hap] at hA hD
  obtain ⟨b', s', hb', hws', hcan⟩ : ∃ b' s', b'.length ≤ 1000000 ∧ (∀ e ∈ b', e.ws.length ≤ 1000000) ∧ ((nth PV.nilp r 0).toEs = ensK b' ∧ (nth PV.nilp r 1).toInt = s') := by
    rcases hr with rfl | rfl
    · refine ⟨b ++ [e], _, by have := hB.len; simp; omega, fun a ha => ?_, rfl, rfl⟩
      rcases List.mem_append.1 ha with ha | ha
      · exact hB.ws a ha
      · simp at ha; subst ha; exact hel
    · exact ⟨[], 0, by simp, fun a ha => (List.not_mem_nil ha).elim, rfl, rfl⟩
  have hok : okCs [Sh.sl 3, Sh.int IntKind.u64] r = true := by
    rcases hr with rfl | rfl <;> rfl
  have hSm := c_SameR b' s' hb' hws'
  have hgp : ∀ L : List RV, L = (if validP e.t e.k e.ws then [RV.p (PV.str (lineP e.t e.k e.ws)), RV.p (PV.int .i64 0)] else [RV.p (PV.str []), RV.p (PV.int .i64 72)]) → ∃ v n, L = [RV.p (PV.str v), RV.p (PV.int .i64 n)] := by
    rintro L rfl
    split <;> exact ⟨_, _, rfl⟩
  obtain ⟨v, n, hvn⟩ := hgp _ rfl
  rw [hvn] at hLE hLD
  unfold enK at hA hD hLE hLD hg
  rw [r6_4]
  have h1 : ltB i 3 = true := by simp [ltB]; omega
  rw [h1, ctl_true, hg]
  simp only [bnd_some, ctl_true, ctl_false, ctl_and, ctl_or', ctl_or2, x_toPV, x_toCs, x_toCs2, x_toEs, x_bEs, x_bCs, x_aPV, x_aCs, x_int, x_bool, x_str, x_es, x_esn, nth_0, nth_1, nth_2, nth_3, nth_4, nth_5, nth_6, nth_7, nth_8, nth_9, y_nil, y_int, y_bool, y_str, y_sl, y_nils, y_agg, y_ownp, y_own, z_nil, z_int, z_bool, z_str, z_sl, z_nils, b_nil, b_arr, b_box1, b_box2, b_box3, b_box4, List.map_cons, List.map_nil, Bool.and_self, Bool.and_true, Bool.true_and, Bool.not_true, Bool.not_false, Bool.or_false, Bool.false_or, cond_true, cond_false, okPack, okPut, okPutBlks, okPutCells, q_isP, q_isAg, q_isBox, q_isArr, q_int, q_bool, q_str, q_sl, q_nils, e_exit, e_ret, e_nrm, e_ret_exit, e_exit_ret, e_nrm_exit, e_nrm_ret, e_exit_nrm, e_ret_nrm, Nat.zero_add, Nat.reduceAdd, noslR, noslP, noslB, noslA, List.all_cons, List.all_nil]
  rw [hA]
  simp only [hok, bnd_some, ctl_true, ctl_false, ctl_and, ctl_or', ctl_or2, x_toPV, x_toCs, x_toCs2, x_toEs, x_bEs, x_bCs, x_aPV, x_aCs, x_int, x_bool, x_str, x_es, x_esn, nth_0, nth_1, nth_2, nth_3, nth_4, nth_5, nth_6, nth_7, nth_8, nth_9, y_nil, y_int, y_bool, y_str, y_sl, y_nils, y_agg, y_ownp, y_own, z_nil, z_int, z_bool, z_str, z_sl, z_nils, b_nil, b_arr, b_box1, b_box2, b_box3, b_box4, List.map_cons, List.map_nil, Bool.and_self, Bool.and_true, Bool.true_and, Bool.not_true, Bool.not_false, Bool.or_false, Bool.false_or, cond_true, cond_false, okPack, okPut, okPutBlks, okPutCells, q_isP, q_isAg, q_isBox, q_isArr, q_int, q_bool, q_str, q_sl, q_nils, e_exit, e_ret, e_nrm, e_ret_exit, e_exit_ret, e_nrm_exit, e_nrm_ret, e_exit_nrm, e_ret_nrm, Nat.zero_add, Nat.reduceAdd, noslR, noslP, noslB, noslA, List.all_cons, List.all_nil]
  rw [hD]
  simp only [hok, bnd_some, ctl_true, ctl_false, ctl_and, ctl_or', ctl_or2, x_toPV, x_toCs, x_toCs2, x_toEs, x_bEs, x_bCs, x_aPV, x_aCs, x_int, x_bool, x_str, x_es, x_esn, nth_0, nth_1, nth_2, nth_3, nth_4, nth_5, nth_6, nth_7, nth_8, nth_9, y_nil, y_int, y_bool, y_str, y_sl, y_nils, y_agg, y_ownp, y_own, z_nil, z_int, z_bool, z_str, z_sl, z_nils, b_nil, b_arr, b_box1, b_box2, b_box3, b_box4, List.map_cons, List.map_nil, Bool.and_self, Bool.and_true, Bool.true_and, Bool.not_true, Bool.not_false, Bool.or_false, Bool.false_or, cond_true, cond_false, okPack, okPut, okPutBlks, okPutCells, q_isP, q_isAg, q_isBox, q_isArr, q_int, q_bool, q_str, q_sl, q_nils, e_exit, e_ret, e_nrm, e_ret_exit, e_exit_ret, e_nrm_exit, e_nrm_ret, e_exit_nrm, e_ret_nrm, Nat.zero_add, Nat.reduceAdd, noslR, noslP, noslB, noslA, List.all_cons, List.all_nil]
  rw [hLE]
  simp only [bnd_some, ctl_true, ctl_false, ctl_and, ctl_or', ctl_or2, x_toPV, x_toCs, x_toCs2, x_toEs, x_bEs, x_bCs, x_aPV, x_aCs, x_int, x_bool, x_str, x_es, x_esn, nth_0, nth_1, nth_2, nth_3, nth_4, nth_5, nth_6, nth_7, nth_8, nth_9, y_nil, y_int, y_bool, y_str, y_sl, y_nils, y_agg, y_ownp, y_own, z_nil, z_int, z_bool, z_str, z_sl, z_nils, b_nil, b_arr, b_box1, b_box2, b_box3, b_box4, List.map_cons, List.map_nil, Bool.and_self, Bool.and_true, Bool.true_and, Bool.not_true, Bool.not_false, Bool.or_false, Bool.false_or, cond_true, cond_false, okPack, okPut, okPutBlks, okPutCells, q_isP, q_isAg, q_isBox, q_isArr, q_int, q_bool, q_str, q_sl, q_nils, e_exit, e_ret, e_nrm, e_ret_exit, e_exit_ret, e_nrm_exit, e_nrm_ret, e_exit_nrm, e_ret_nrm, Nat.zero_add, Nat.reduceAdd, noslR, noslP, noslB, noslA, List.all_cons, List.all_nil]
  rw [hLD]
  simp only [bne_self_eq_false, beq_self_eq_true, bnd_some, ctl_true, ctl_false, ctl_and, ctl_or', ctl_or2, x_toPV, x_toCs, x_toCs2, x_toEs, x_bEs, x_bCs, x_aPV, x_aCs, x_int, x_bool, x_str, x_es, x_esn, nth_0, nth_1, nth_2, nth_3, nth_4, nth_5, nth_6, nth_7, nth_8, nth_9, y_nil, y_int, y_bool, y_str, y_sl, y_nils, y_agg, y_ownp, y_own, z_nil, z_int, z_bool, z_str, z_sl, z_nils, b_nil, b_arr, b_box1, b_box2, b_box3, b_box4, List.map_cons, List.map_nil, Bool.and_self, Bool.and_true, Bool.true_and, Bool.not_true, Bool.not_false, Bool.or_false, Bool.false_or, cond_true, cond_false, okPack, okPut, okPutBlks, okPutCells, q_isP, q_isAg, q_isBox, q_isArr, q_int, q_bool, q_str, q_sl, q_nils, e_exit, e_ret, e_nrm, e_ret_exit, e_exit_ret, e_nrm_exit, e_nrm_ret, e_exit_nrm, e_ret_nrm, Nat.zero_add, Nat.reduceAdd, noslR, noslP, noslB, noslA, List.all_cons, List.all_nil]
  rw [hcan.1, hcan.2, hSm]
  simp only [bne_self_eq_false, beq_self_eq_true, bnd_some, ctl_true, ctl_false, ctl_and, ctl_or', ctl_or2, x_toPV, x_toCs, x_toCs2, x_toEs, x_bEs, x_bCs, x_aPV, x_aCs, x_int, x_bool, x_str, x_es, x_esn, nth_0, nth_1, nth_2, nth_3, nth_4, nth_5, nth_6, nth_7, nth_8, nth_9, y_nil, y_int, y_bool, y_str, y_sl, y_nils, y_agg, y_ownp, y_own, z_nil, z_int, z_bool, z_str, z_sl, z_nils, b_nil, b_arr, b_box1, b_box2, b_box3, b_box4, List.map_cons, List.map_nil, Bool.and_self, Bool.and_true, Bool.true_and, Bool.not_true, Bool.not_false, Bool.or_false, Bool.false_or, cond_true, cond_false, okPack, okPut, okPutBlks, okPutCells, q_isP, q_isAg, q_isBox, q_isArr, q_int, q_bool, q_str, q_sl, q_nils, e_exit, e_ret, e_nrm, e_ret_exit, e_exit_ret, e_nrm_exit, e_nrm_ret, e_exit_nrm, e_ret_nrm, Nat.zero_add, Nat.reduceAdd, noslR, noslP, noslB, noslA, List.all_cons, List.all_nil]
  rw [hVE]
  simp only [bnd_some, ctl_true, ctl_false, ctl_and, ctl_or', ctl_or2, x_toPV, x_toCs, x_toCs2, x_toEs, x_bEs, x_bCs, x_aPV, x_aCs, x_int, x_bool, x_str, x_es, x_esn, nth_0, nth_1, nth_2, nth_3, nth_4, nth_5, nth_6, nth_7, nth_8, nth_9, y_nil, y_int, y_bool, y_str, y_sl, y_nils, y_agg, y_ownp, y_own, z_nil, z_int, z_bool, z_str, z_sl, z_nils, b_nil, b_arr, b_box1, b_box2, b_box3, b_box4, List.map_cons, List.map_nil, Bool.and_self, Bool.and_true, Bool.true_and, Bool.not_true, Bool.not_false, Bool.or_false, Bool.false_or, cond_true, cond_false, okPack, okPut, okPutBlks, okPutCells, q_isP, q_isAg, q_isBox, q_isArr, q_int, q_bool, q_str, q_sl, q_nils, e_exit, e_ret, e_nrm, e_ret_exit, e_exit_ret, e_nrm_exit, e_nrm_ret, e_exit_nrm, e_ret_nrm, Nat.zero_add, Nat.reduceAdd, noslR, noslP, noslB, noslA, List.all_cons, List.all_nil]
  rw [hVD]
  simp only [beq_self_eq_true, bnd_some, ctl_true, ctl_false, ctl_and, ctl_or', ctl_or2, x_toPV, x_toCs, x_toCs2, x_toEs, x_bEs, x_bCs, x_aPV, x_aCs, x_int, x_bool, x_str, x_es, x_esn, nth_0, nth_1, nth_2, nth_3, nth_4, nth_5, nth_6, nth_7, nth_8, nth_9, y_nil, y_int, y_bool, y_str, y_sl, y_nils, y_agg, y_ownp, y_own, z_nil, z_int, z_bool, z_str, z_sl, z_nils, b_nil, b_arr, b_box1, b_box2, b_box3, b_box4, List.map_cons, List.map_nil, Bool.and_self, Bool.and_true, Bool.true_and, Bool.not_true, Bool.not_false, Bool.or_false, Bool.false_or, cond_true, cond_false, okPack, okPut, okPutBlks, okPutCells, q_isP, q_isAg, q_isBox, q_isArr, q_int, q_bool, q_str, q_sl, q_nils, e_exit, e_ret, e_nrm, e_ret_exit, e_exit_ret, e_nrm_exit, e_nrm_ret, e_exit_nrm, e_ret_nrm, Nat.zero_add, Nat.reduceAdd, noslR, noslP, noslB, noslA, List.all_cons, List.all_nil]
  rw [w64 (n := i + 1) (by omega)]

theorem l6_4 (kind frm to : Int) (X Y Z : List (List PV)) (x y z i6 : Int) (p q w o : En) (S0 : List (List PV)) (S1 : Int) (b : List En) (s : Int) (hB : bB b s) (hp : bE p) (hq : bE q) (hw : bE w) :
    lp E (denC E) 6 0 [] 4 (st4 kind frm to (b6 X Y Z x y z) i6 p q w 0 o S0 S1 b s) =
      some (.exit 4, { vals := [AV.int .i64 kind, AV.int .i64 frm, AV.int .i64 to, AV.agg (b6 X Y Z x y z), AV.int .i64 i6], blks := [Blk.box [AV.int .i64 o.t, AV.int .i64 o.k, AV.sl 1 (intsK .i64 o.ws)], Blk.box [AV.sl 1 S0, AV.int .i64 S1], Blk.box [AV.sl 3 (ensK b), AV.int .u64 s]] }) := by
  rw [s6_4 kind frm to X Y Z x y z i6 p q w 0 (by omega) o S0 S1 b s hB p hp (fun K => rfl), s6_4 kind frm to X Y Z x y z i6 p q w (0 + 1) (by omega) o S0 S1 b s hB q hq (fun K => rfl),
    s6_4 kind frm to X Y Z x y z i6 p q w (0 + 1 + 1) (by omega) o S0 S1 b s hB w hw (fun K => rfl), r6_4]
  rfl

/-! ### Two times at a book -/
abbrev i6L (a b c d e f : Int) : List PV := [PV.int .i64 a, PV.int .i64 b, PV.int .i64 c, PV.int .i64 d, PV.int .i64 e, PV.int .i64 f]
abbrev st6 (kind frm to : Int) (B : List PV) (i6 : Int) (a1 a2 a3 a4 a5 a6 : Int) (i : Int) (o : En) (S0 : List (List PV)) (S1 : Int) (b : List En) (s : Int) : Pack :=
  { vals := [AV.int .i64 kind, AV.int .i64 frm, AV.int .i64 to, AV.agg B, AV.int .i64 i6, AV.agg (i6L a1 a2 a3 a4 a5 a6), AV.int .i64 i], blks := [Blk.box [AV.int .i64 o.t, AV.int .i64 o.k, AV.sl 1 (intsK .i64 o.ws)], Blk.box [AV.sl 1 S0, AV.int .i64 S1], Blk.box [AV.sl 3 (ensK b), AV.int .u64 s]] }

theorem degrL_len (b : List En) (s frm to : Int) : (degrL b s frm to).length ≤ 201 := by
  have h1 := spanL_cnt (b := b) (bs := s) (kind := 1) (frm := frm) (to := to)
  have h2 := List.length_filter_le (fun x : Sp => decide (x.2.2 < 3)) (spanL b s 1 frm to)
  unfold degrL low
  omega
theorem spanK_nosl (l : List Sp) : ((spanK l).all fun e => e.all noslP) = true := by
  rw [List.all_eq_true]
  intro e he
  unfold spanK at he
  obtain ⟨x, _, rfl⟩ := List.mem_map.1 he
  rfl

theorem s6_6 (kind frm to : Int) (X Y Z : List (List PV)) (x y z i6 : Int) (a1 a2 a3 a4 a5 a6 : Int) (i : Int) (hi : 0 ≤ i ∧ i < 2) (o : En) (S0 : List (List PV)) (S1 : Int) (b : List En) (s : Int) (hB : bB b s) (u f t : Int)
    (hg : ∀ K : List PV → Option (Ex × Pack), getE [[PV.int .i64 a1, PV.int .i64 a2, PV.int .i64 a3], [PV.int .i64 a4, PV.int .i64 a5, PV.int .i64 a6]] i K = K [PV.int .i64 u, PV.int .i64 f, PV.int .i64 t]) :
    lp E (denC E) 6 0 [] 6 (st6 kind frm to (b6 X Y Z x y z) i6 a1 a2 a3 a4 a5 a6 i o S0 S1 b s) = lp E (denC E) 6 0 [] 6 (st6 kind frm to (b6 X Y Z x y z) i6 a1 a2 a3 a4 a5 a6 (i + 1) o S0 S1 b s) := by
  rw [r6_6]
  have h1 : ltB i 2 = true := by simp [ltB]; omega
  rw [h1, ctl_true, hg]
  simp only [bnd_some, ctl_true, ctl_false, ctl_and, ctl_or', ctl_or2, x_toPV, x_toCs, x_toCs2, x_toEs, x_bEs, x_bCs, x_aPV, x_aCs, x_int, x_bool, x_str, x_es, x_esn, nth_0, nth_1, nth_2, nth_3, nth_4, nth_5, nth_6, nth_7, nth_8, nth_9, y_nil, y_int, y_bool, y_str, y_sl, y_nils, y_agg, y_ownp, y_own, z_nil, z_int, z_bool, z_str, z_sl, z_nils, b_nil, b_arr, b_box1, b_box2, b_box3, b_box4, List.map_cons, List.map_nil, Bool.and_self, Bool.and_true, Bool.true_and, Bool.not_true, Bool.not_false, Bool.or_false, Bool.false_or, cond_true, cond_false, okPack, okPut, okPutBlks, okPutCells, q_isP, q_isAg, q_isBox, q_isArr, q_int, q_bool, q_str, q_sl, q_nils, e_exit, e_ret, e_nrm, e_ret_exit, e_exit_ret, e_nrm_exit, e_nrm_ret, e_exit_nrm, e_ret_nrm, Nat.zero_add, Nat.reduceAdd, noslR, noslP, noslB, noslA, List.all_cons, List.all_nil]
  rw [c_AtE b s u f hB.ws]
  simp only [bnd_some, ctl_true, ctl_false, ctl_and, ctl_or', ctl_or2, x_toPV, x_toCs, x_toCs2, x_toEs, x_bEs, x_bCs, x_aPV, x_aCs, x_int, x_bool, x_str, x_es, x_esn, nth_0, nth_1, nth_2, nth_3, nth_4, nth_5, nth_6, nth_7, nth_8, nth_9, y_nil, y_int, y_bool, y_str, y_sl, y_nils, y_agg, y_ownp, y_own, z_nil, z_int, z_bool, z_str, z_sl, z_nils, b_nil, b_arr, b_box1, b_box2, b_box3, b_box4, List.map_cons, List.map_nil, Bool.and_self, Bool.and_true, Bool.true_and, Bool.not_true, Bool.not_false, Bool.or_false, Bool.false_or, cond_true, cond_false, okPack, okPut, okPutBlks, okPutCells, q_isP, q_isAg, q_isBox, q_isArr, q_int, q_bool, q_str, q_sl, q_nils, e_exit, e_ret, e_nrm, e_ret_exit, e_exit_ret, e_nrm_exit, e_nrm_ret, e_exit_nrm, e_ret_nrm, Nat.zero_add, Nat.reduceAdd, noslR, noslP, noslB, noslA, List.all_cons, List.all_nil]
  rw [c_AtD b s u f hB.ws]
  simp only [bnd_some, ctl_true, ctl_false, ctl_and, ctl_or', ctl_or2, x_toPV, x_toCs, x_toCs2, x_toEs, x_bEs, x_bCs, x_aPV, x_aCs, x_int, x_bool, x_str, x_es, x_esn, nth_0, nth_1, nth_2, nth_3, nth_4, nth_5, nth_6, nth_7, nth_8, nth_9, y_nil, y_int, y_bool, y_str, y_sl, y_nils, y_agg, y_ownp, y_own, z_nil, z_int, z_bool, z_str, z_sl, z_nils, b_nil, b_arr, b_box1, b_box2, b_box3, b_box4, List.map_cons, List.map_nil, Bool.and_self, Bool.and_true, Bool.true_and, Bool.not_true, Bool.not_false, Bool.or_false, Bool.false_or, cond_true, cond_false, okPack, okPut, okPutBlks, okPutCells, q_isP, q_isAg, q_isBox, q_isArr, q_int, q_bool, q_str, q_sl, q_nils, e_exit, e_ret, e_nrm, e_ret_exit, e_exit_ret, e_nrm_exit, e_nrm_ret, e_exit_nrm, e_ret_nrm, Nat.zero_add, Nat.reduceAdd, noslR, noslP, noslB, noslA, List.all_cons, List.all_nil]
  rw [c_SpansE b s u f t hB.ws]
  simp only [bnd_some, ctl_true, ctl_false, ctl_and, ctl_or', ctl_or2, x_toPV, x_toCs, x_toCs2, x_toEs, x_bEs, x_bCs, x_aPV, x_aCs, x_int, x_bool, x_str, x_es, x_esn, nth_0, nth_1, nth_2, nth_3, nth_4, nth_5, nth_6, nth_7, nth_8, nth_9, y_nil, y_int, y_bool, y_str, y_sl, y_nils, y_agg, y_ownp, y_own, z_nil, z_int, z_bool, z_str, z_sl, z_nils, b_nil, b_arr, b_box1, b_box2, b_box3, b_box4, List.map_cons, List.map_nil, Bool.and_self, Bool.and_true, Bool.true_and, Bool.not_true, Bool.not_false, Bool.or_false, Bool.false_or, cond_true, cond_false, okPack, okPut, okPutBlks, okPutCells, q_isP, q_isAg, q_isBox, q_isArr, q_int, q_bool, q_str, q_sl, q_nils, e_exit, e_ret, e_nrm, e_ret_exit, e_exit_ret, e_nrm_exit, e_nrm_ret, e_exit_nrm, e_ret_nrm, Nat.zero_add, Nat.reduceAdd, noslR, noslP, noslB, noslA, List.all_cons, List.all_nil]
  rw [c_SpansD b s u f t hB.ws]
  simp only [bnd_some, ctl_true, ctl_false, ctl_and, ctl_or', ctl_or2, x_toPV, x_toCs, x_toCs2, x_toEs, x_bEs, x_bCs, x_aPV, x_aCs, x_int, x_bool, x_str, x_es, x_esn, nth_0, nth_1, nth_2, nth_3, nth_4, nth_5, nth_6, nth_7, nth_8, nth_9, y_nil, y_int, y_bool, y_str, y_sl, y_nils, y_agg, y_ownp, y_own, z_nil, z_int, z_bool, z_str, z_sl, z_nils, b_nil, b_arr, b_box1, b_box2, b_box3, b_box4, List.map_cons, List.map_nil, Bool.and_self, Bool.and_true, Bool.true_and, Bool.not_true, Bool.not_false, Bool.or_false, Bool.false_or, cond_true, cond_false, okPack, okPut, okPutBlks, okPutCells, q_isP, q_isAg, q_isBox, q_isArr, q_int, q_bool, q_str, q_sl, q_nils, e_exit, e_ret, e_nrm, e_ret_exit, e_exit_ret, e_nrm_exit, e_nrm_ret, e_exit_nrm, e_ret_nrm, Nat.zero_add, Nat.reduceAdd, noslR, noslP, noslB, noslA, List.all_cons, List.all_nil]
  rw [c_DegrE b s f t hB.ws]
  simp only [bnd_some, ctl_true, ctl_false, ctl_and, ctl_or', ctl_or2, x_toPV, x_toCs, x_toCs2, x_toEs, x_bEs, x_bCs, x_aPV, x_aCs, x_int, x_bool, x_str, x_es, x_esn, nth_0, nth_1, nth_2, nth_3, nth_4, nth_5, nth_6, nth_7, nth_8, nth_9, y_nil, y_int, y_bool, y_str, y_sl, y_nils, y_agg, y_ownp, y_own, z_nil, z_int, z_bool, z_str, z_sl, z_nils, b_nil, b_arr, b_box1, b_box2, b_box3, b_box4, List.map_cons, List.map_nil, Bool.and_self, Bool.and_true, Bool.true_and, Bool.not_true, Bool.not_false, Bool.or_false, Bool.false_or, cond_true, cond_false, okPack, okPut, okPutBlks, okPutCells, q_isP, q_isAg, q_isBox, q_isArr, q_int, q_bool, q_str, q_sl, q_nils, e_exit, e_ret, e_nrm, e_ret_exit, e_exit_ret, e_nrm_exit, e_nrm_ret, e_exit_nrm, e_ret_nrm, Nat.zero_add, Nat.reduceAdd, noslR, noslP, noslB, noslA, List.all_cons, List.all_nil]
  rw [c_DegrD b s f t hB.ws]
  simp only [bne_self_eq_false, beq_self_eq_true, bnd_some, ctl_true, ctl_false, ctl_and, ctl_or', ctl_or2, x_toPV, x_toCs, x_toCs2, x_toEs, x_bEs, x_bCs, x_aPV, x_aCs, x_int, x_bool, x_str, x_es, x_esn, nth_0, nth_1, nth_2, nth_3, nth_4, nth_5, nth_6, nth_7, nth_8, nth_9, y_nil, y_int, y_bool, y_str, y_sl, y_nils, y_agg, y_ownp, y_own, z_nil, z_int, z_bool, z_str, z_sl, z_nils, b_nil, b_arr, b_box1, b_box2, b_box3, b_box4, List.map_cons, List.map_nil, Bool.and_self, Bool.and_true, Bool.true_and, Bool.not_true, Bool.not_false, Bool.or_false, Bool.false_or, cond_true, cond_false, okPack, okPut, okPutBlks, okPutCells, q_isP, q_isAg, q_isBox, q_isArr, q_int, q_bool, q_str, q_sl, q_nils, e_exit, e_ret, e_nrm, e_ret_exit, e_exit_ret, e_nrm_exit, e_nrm_ret, e_exit_nrm, e_ret_nrm, Nat.zero_add, Nat.reduceAdd, noslR, noslP, noslB, noslA, List.all_cons, List.all_nil]
  rw [c_AllR (spanL b s u f t) (by have := spanL_cnt (b := b) (bs := s) (kind := u) (frm := f) (to := t); omega)]
  simp only [bne_self_eq_false, beq_self_eq_true, bnd_some, ctl_true, ctl_false, ctl_and, ctl_or', ctl_or2, x_toPV, x_toCs, x_toCs2, x_toEs, x_bEs, x_bCs, x_aPV, x_aCs, x_int, x_bool, x_str, x_es, x_esn, nth_0, nth_1, nth_2, nth_3, nth_4, nth_5, nth_6, nth_7, nth_8, nth_9, y_nil, y_int, y_bool, y_str, y_sl, y_nils, y_agg, y_ownp, y_own, z_nil, z_int, z_bool, z_str, z_sl, z_nils, b_nil, b_arr, b_box1, b_box2, b_box3, b_box4, List.map_cons, List.map_nil, Bool.and_self, Bool.and_true, Bool.true_and, Bool.not_true, Bool.not_false, Bool.or_false, Bool.false_or, cond_true, cond_false, okPack, okPut, okPutBlks, okPutCells, q_isP, q_isAg, q_isBox, q_isArr, q_int, q_bool, q_str, q_sl, q_nils, e_exit, e_ret, e_nrm, e_ret_exit, e_exit_ret, e_nrm_exit, e_nrm_ret, e_exit_nrm, e_ret_nrm, Nat.zero_add, Nat.reduceAdd, noslR, noslP, noslB, noslA, List.all_cons, List.all_nil]
  rw [c_AllR (degrL b s f t) (by have := degrL_len b s f t; omega)]
  simp only [bne_self_eq_false, beq_self_eq_true, bnd_some, ctl_true, ctl_false, ctl_and, ctl_or', ctl_or2, x_toPV, x_toCs, x_toCs2, x_toEs, x_bEs, x_bCs, x_aPV, x_aCs, x_int, x_bool, x_str, x_es, x_esn, nth_0, nth_1, nth_2, nth_3, nth_4, nth_5, nth_6, nth_7, nth_8, nth_9, y_nil, y_int, y_bool, y_str, y_sl, y_nils, y_agg, y_ownp, y_own, z_nil, z_int, z_bool, z_str, z_sl, z_nils, b_nil, b_arr, b_box1, b_box2, b_box3, b_box4, List.map_cons, List.map_nil, Bool.and_self, Bool.and_true, Bool.true_and, Bool.not_true, Bool.not_false, Bool.or_false, Bool.false_or, cond_true, cond_false, okPack, okPut, okPutBlks, okPutCells, q_isP, q_isAg, q_isBox, q_isArr, q_int, q_bool, q_str, q_sl, q_nils, e_exit, e_ret, e_nrm, e_ret_exit, e_exit_ret, e_nrm_exit, e_nrm_ret, e_exit_nrm, e_ret_nrm, Nat.zero_add, Nat.reduceAdd, noslR, noslP, noslB, noslA, List.all_cons, List.all_nil]
  rw [w64 (n := i + 1) (by omega)]

theorem l6_6 (kind frm to : Int) (X Y Z : List (List PV)) (x y z i6 : Int) (a1 a2 a3 a4 a5 a6 : Int) (o : En) (S0 : List (List PV)) (S1 : Int) (b : List En) (s : Int) (hB : bB b s) :
    lp E (denC E) 6 0 [] 6 (st6 kind frm to (b6 X Y Z x y z) i6 a1 a2 a3 a4 a5 a6 0 o S0 S1 b s) =
      some (.exit 6, { vals := [AV.int .i64 kind, AV.int .i64 frm, AV.int .i64 to, AV.agg (b6 X Y Z x y z), AV.int .i64 i6], blks := [Blk.box [AV.int .i64 o.t, AV.int .i64 o.k, AV.sl 1 (intsK .i64 o.ws)], Blk.box [AV.sl 1 S0, AV.int .i64 S1]] }) := by
  rw [s6_6 kind frm to X Y Z x y z i6 a1 a2 a3 a4 a5 a6 0 (by omega) o S0 S1 b s hB a1 a2 a3 (fun K => rfl), s6_6 kind frm to X Y Z x y z i6 a1 a2 a3 a4 a5 a6 (0 + 1) (by omega) o S0 S1 b s hB a4 a5 a6 (fun K => rfl), r6_6]
  rfl

/-! ### Three books -/
theorem okE_bE {e : En} (h : okE e) (ht : wordOk e.t) : bE e := by
  refine ⟨ht, ?_, fun x hx => ?_, by have := okE_len h; omega⟩
  · have := h.1; unfold wordOk; omega
  · have := List.all_eq_true.1 h.2.2 x hx
    simp only [Bool.and_eq_true, decide_eq_true_eq] at this
    unfold wordOk; omega
theorem textR_form (b : List En) (s : Int) : ∃ v n, textR b s = [RV.p (PV.str v), RV.p (PV.int .i64 n)] := by
  unfold textR
  split <;> exact ⟨_, _, rfl⟩

theorem s6_2 {L : List Int} (hL : L.length ≤ 600) (kind frm to : Int) (hto : wordOk to) (x y z : List En) (xs ys zs : Int) (i : Int) (hi : 0 ≤ i ∧ i < 3) (o : En) (ho : bE o) (k : Nat) (hk : k ≤ 600) (b : List En) (s : Int) (hB : bB b s)
    (hg : ∀ K : List PV → Option (Ex × Pack), getE [[PV.sl 3 (ensK x), PV.int .u64 xs], [PV.sl 3 (ensK y), PV.int .u64 ys], [PV.sl 3 (ensK z), PV.int .u64 zs]] i K = K [PV.sl 3 (ensK b), PV.int .u64 s]) :
    ∃ k', k' ≤ 600 ∧ lp E (denC E) 6 0 [] 2 { vals := [AV.int .i64 kind, AV.int .i64 frm, AV.int .i64 to, AV.agg (b6 (ensK x) (ensK y) (ensK z) xs ys zs), AV.int .i64 i], blks := [Blk.box [AV.int .i64 o.t, AV.int .i64 o.k, AV.sl 1 (intsK .i64 o.ws)], src L k] } =
      lp E (denC E) 6 0 [] 2 { vals := [AV.int .i64 kind, AV.int .i64 frm, AV.int .i64 to, AV.agg (b6 (ensK x) (ensK y) (ensK z) xs ys zs), AV.int .i64 (i + 1)], blks := [Blk.box [AV.int .i64 o.t, AV.int .i64 o.k, AV.sl 1 (intsK .i64 o.ws)], src L k'] } := by
  have hN := c_N hL hk 50 (by omega)
  have hNb := vN_bounds (L := L) (k := k) (n := 50) (by omega)
  have hk1 := at'_le hL hk
  generalize vN L k 50 = tm at *
  obtain ⟨p, k2, hk2, hpt, hpo, hP⟩ := c_Entry hL hk1 tm
  obtain ⟨q, k3, hk3, hqt, hqo, hQ⟩ := c_Entry hL hk2 to
  have hp : bE p := okE_bE hpo (by rw [hpt]; unfold wordOk; omega)
  have hq : bE q := okE_bE hqo (by rw [hqt]; exact hto)
  have h4 := l6_4 kind frm to (ensK x) (ensK y) (ensK z) xs ys zs i o p q o (intsK .i64 L) k3 b s hB ho hp hq
  have hR := c_Range (L := L) hL hk3 (lo := 0) (hi := 4) (by omega)
  have hk4 := at'_le hL hk3
  have hN2 := c_N hL hk4 20 (by omega)
  have hk5 := at'_le hL hk4
  have hN3 := c_N hL hk5 50 (by omega)
  have hk6 := at'_le hL hk5
  have h6 := l6_6 kind frm to (ensK x) (ensK y) (ensK z) xs ys zs i kind frm to (vRange L k3 0 4) (vN L (at' L k3) 20) (vN L (at' L (at' L k3)) 50) o (intsK .i64 L) (at' L (at' L (at' L k3)) : Nat) b s hB
  obtain ⟨v, n, htx⟩ := textR_form b s
  have hTE := c_TextE b s hB.rng hB.ws
  have hTD := c_TextD b s hB.rng hB.ws
  rw [htx] at hTE hTD
  refine ⟨at' L (at' L (at' L k3)), hk6, ?_⟩
  unfold enK at hP hQ
  rw [r6_2]
  have h1 : ltB i 3 = true := by simp [ltB]; omega
  rw [h1, ctl_true, hg]
  simp only [bnd_some, ctl_true, ctl_false, ctl_and, ctl_or', ctl_or2, x_toPV, x_toCs, x_toCs2, x_toEs, x_bEs, x_bCs, x_aPV, x_aCs, x_int, x_bool, x_str, x_es, x_esn, nth_0, nth_1, nth_2, nth_3, nth_4, nth_5, nth_6, nth_7, nth_8, nth_9, y_nil, y_int, y_bool, y_str, y_sl, y_nils, y_agg, y_ownp, y_own, z_nil, z_int, z_bool, z_str, z_sl, z_nils, b_nil, b_arr, b_box1, b_box2, b_box3, b_box4, List.map_cons, List.map_nil, Bool.and_self, Bool.and_true, Bool.true_and, Bool.not_true, Bool.not_false, Bool.or_false, Bool.false_or, cond_true, cond_false, okPack, okPut, okPutBlks, okPutCells, q_isP, q_isAg, q_isBox, q_isArr, q_int, q_bool, q_str, q_sl, q_nils, e_exit, e_ret, e_nrm, e_ret_exit, e_exit_ret, e_nrm_exit, e_nrm_ret, e_exit_nrm, e_ret_nrm, Nat.zero_add, Nat.reduceAdd, noslR, noslP, noslB, noslA, List.all_cons, List.all_nil]
  rw [c_CheckE b s hB.ws]
  simp only [bnd_some, ctl_true, ctl_false, ctl_and, ctl_or', ctl_or2, x_toPV, x_toCs, x_toCs2, x_toEs, x_bEs, x_bCs, x_aPV, x_aCs, x_int, x_bool, x_str, x_es, x_esn, nth_0, nth_1, nth_2, nth_3, nth_4, nth_5, nth_6, nth_7, nth_8, nth_9, y_nil, y_int, y_bool, y_str, y_sl, y_nils, y_agg, y_ownp, y_own, z_nil, z_int, z_bool, z_str, z_sl, z_nils, b_nil, b_arr, b_box1, b_box2, b_box3, b_box4, List.map_cons, List.map_nil, Bool.and_self, Bool.and_true, Bool.true_and, Bool.not_true, Bool.not_false, Bool.or_false, Bool.false_or, cond_true, cond_false, okPack, okPut, okPutBlks, okPutCells, q_isP, q_isAg, q_isBox, q_isArr, q_int, q_bool, q_str, q_sl, q_nils, e_exit, e_ret, e_nrm, e_ret_exit, e_exit_ret, e_nrm_exit, e_nrm_ret, e_exit_nrm, e_ret_nrm, Nat.zero_add, Nat.reduceAdd, noslR, noslP, noslB, noslA, List.all_cons, List.all_nil]
  rw [c_CheckD b s hB.ws]
  simp only [bne_self_eq_false, bnd_some, ctl_true, ctl_false, ctl_and, ctl_or', ctl_or2, x_toPV, x_toCs, x_toCs2, x_toEs, x_bEs, x_bCs, x_aPV, x_aCs, x_int, x_bool, x_str, x_es, x_esn, nth_0, nth_1, nth_2, nth_3, nth_4, nth_5, nth_6, nth_7, nth_8, nth_9, y_nil, y_int, y_bool, y_str, y_sl, y_nils, y_agg, y_ownp, y_own, z_nil, z_int, z_bool, z_str, z_sl, z_nils, b_nil, b_arr, b_box1, b_box2, b_box3, b_box4, List.map_cons, List.map_nil, Bool.and_self, Bool.and_true, Bool.true_and, Bool.not_true, Bool.not_false, Bool.or_false, Bool.false_or, cond_true, cond_false, okPack, okPut, okPutBlks, okPutCells, q_isP, q_isAg, q_isBox, q_isArr, q_int, q_bool, q_str, q_sl, q_nils, e_exit, e_ret, e_nrm, e_ret_exit, e_exit_ret, e_nrm_exit, e_nrm_ret, e_exit_nrm, e_ret_nrm, Nat.zero_add, Nat.reduceAdd, noslR, noslP, noslB, noslA, List.all_cons, List.all_nil]
  rw [hN]
  simp only [bnd_some, ctl_true, ctl_false, ctl_and, ctl_or', ctl_or2, x_toPV, x_toCs, x_toCs2, x_toEs, x_bEs, x_bCs, x_aPV, x_aCs, x_int, x_bool, x_str, x_es, x_esn, nth_0, nth_1, nth_2, nth_3, nth_4, nth_5, nth_6, nth_7, nth_8, nth_9, y_nil, y_int, y_bool, y_str, y_sl, y_nils, y_agg, y_ownp, y_own, z_nil, z_int, z_bool, z_str, z_sl, z_nils, b_nil, b_arr, b_box1, b_box2, b_box3, b_box4, List.map_cons, List.map_nil, Bool.and_self, Bool.and_true, Bool.true_and, Bool.not_true, Bool.not_false, Bool.or_false, Bool.false_or, cond_true, cond_false, okPack, okPut, okPutBlks, okPutCells, q_isP, q_isAg, q_isBox, q_isArr, q_int, q_bool, q_str, q_sl, q_nils, e_exit, e_ret, e_nrm, e_ret_exit, e_exit_ret, e_nrm_exit, e_nrm_ret, e_exit_nrm, e_ret_nrm, Nat.zero_add, Nat.reduceAdd, noslR, noslP, noslB, noslA, List.all_cons, List.all_nil]
  rw [hP]
  simp only [bnd_some, ctl_true, ctl_false, ctl_and, ctl_or', ctl_or2, x_toPV, x_toCs, x_toCs2, x_toEs, x_bEs, x_bCs, x_aPV, x_aCs, x_int, x_bool, x_str, x_es, x_esn, nth_0, nth_1, nth_2, nth_3, nth_4, nth_5, nth_6, nth_7, nth_8, nth_9, y_nil, y_int, y_bool, y_str, y_sl, y_nils, y_agg, y_ownp, y_own, z_nil, z_int, z_bool, z_str, z_sl, z_nils, b_nil, b_arr, b_box1, b_box2, b_box3, b_box4, List.map_cons, List.map_nil, Bool.and_self, Bool.and_true, Bool.true_and, Bool.not_true, Bool.not_false, Bool.or_false, Bool.false_or, cond_true, cond_false, okPack, okPut, okPutBlks, okPutCells, q_isP, q_isAg, q_isBox, q_isArr, q_int, q_bool, q_str, q_sl, q_nils, e_exit, e_ret, e_nrm, e_ret_exit, e_exit_ret, e_nrm_exit, e_nrm_ret, e_exit_nrm, e_ret_nrm, Nat.zero_add, Nat.reduceAdd, noslR, noslP, noslB, noslA, List.all_cons, List.all_nil]
  rw [hQ]
  simp only [bnd_some, ctl_true, ctl_false, ctl_and, ctl_or', ctl_or2, x_toPV, x_toCs, x_toCs2, x_toEs, x_bEs, x_bCs, x_aPV, x_aCs, x_int, x_bool, x_str, x_es, x_esn, nth_0, nth_1, nth_2, nth_3, nth_4, nth_5, nth_6, nth_7, nth_8, nth_9, y_nil, y_int, y_bool, y_str, y_sl, y_nils, y_agg, y_ownp, y_own, z_nil, z_int, z_bool, z_str, z_sl, z_nils, b_nil, b_arr, b_box1, b_box2, b_box3, b_box4, List.map_cons, List.map_nil, Bool.and_self, Bool.and_true, Bool.true_and, Bool.not_true, Bool.not_false, Bool.or_false, Bool.false_or, cond_true, cond_false, okPack, okPut, okPutBlks, okPutCells, q_isP, q_isAg, q_isBox, q_isArr, q_int, q_bool, q_str, q_sl, q_nils, e_exit, e_ret, e_nrm, e_ret_exit, e_exit_ret, e_nrm_exit, e_nrm_ret, e_exit_nrm, e_ret_nrm, Nat.zero_add, Nat.reduceAdd, noslR, noslP, noslB, noslA, List.all_cons, List.all_nil]
  rw [h4]
  simp only [bnd_some, ctl_true, ctl_false, ctl_and, ctl_or', ctl_or2, x_toPV, x_toCs, x_toCs2, x_toEs, x_bEs, x_bCs, x_aPV, x_aCs, x_int, x_bool, x_str, x_es, x_esn, nth_0, nth_1, nth_2, nth_3, nth_4, nth_5, nth_6, nth_7, nth_8, nth_9, y_nil, y_int, y_bool, y_str, y_sl, y_nils, y_agg, y_ownp, y_own, z_nil, z_int, z_bool, z_str, z_sl, z_nils, b_nil, b_arr, b_box1, b_box2, b_box3, b_box4, List.map_cons, List.map_nil, Bool.and_self, Bool.and_true, Bool.true_and, Bool.not_true, Bool.not_false, Bool.or_false, Bool.false_or, cond_true, cond_false, okPack, okPut, okPutBlks, okPutCells, q_isP, q_isAg, q_isBox, q_isArr, q_int, q_bool, q_str, q_sl, q_nils, e_exit, e_ret, e_nrm, e_ret_exit, e_exit_ret, e_nrm_exit, e_nrm_ret, e_exit_nrm, e_ret_nrm, Nat.zero_add, Nat.reduceAdd, noslR, noslP, noslB, noslA, List.all_cons, List.all_nil]
  rw [hTE]
  simp only [bnd_some, ctl_true, ctl_false, ctl_and, ctl_or', ctl_or2, x_toPV, x_toCs, x_toCs2, x_toEs, x_bEs, x_bCs, x_aPV, x_aCs, x_int, x_bool, x_str, x_es, x_esn, nth_0, nth_1, nth_2, nth_3, nth_4, nth_5, nth_6, nth_7, nth_8, nth_9, y_nil, y_int, y_bool, y_str, y_sl, y_nils, y_agg, y_ownp, y_own, z_nil, z_int, z_bool, z_str, z_sl, z_nils, b_nil, b_arr, b_box1, b_box2, b_box3, b_box4, List.map_cons, List.map_nil, Bool.and_self, Bool.and_true, Bool.true_and, Bool.not_true, Bool.not_false, Bool.or_false, Bool.false_or, cond_true, cond_false, okPack, okPut, okPutBlks, okPutCells, q_isP, q_isAg, q_isBox, q_isArr, q_int, q_bool, q_str, q_sl, q_nils, e_exit, e_ret, e_nrm, e_ret_exit, e_exit_ret, e_nrm_exit, e_nrm_ret, e_exit_nrm, e_ret_nrm, Nat.zero_add, Nat.reduceAdd, noslR, noslP, noslB, noslA, List.all_cons, List.all_nil]
  rw [hTD]
  simp only [bne_self_eq_false, beq_self_eq_true, bnd_some, ctl_true, ctl_false, ctl_and, ctl_or', ctl_or2, x_toPV, x_toCs, x_toCs2, x_toEs, x_bEs, x_bCs, x_aPV, x_aCs, x_int, x_bool, x_str, x_es, x_esn, nth_0, nth_1, nth_2, nth_3, nth_4, nth_5, nth_6, nth_7, nth_8, nth_9, y_nil, y_int, y_bool, y_str, y_sl, y_nils, y_agg, y_ownp, y_own, z_nil, z_int, z_bool, z_str, z_sl, z_nils, b_nil, b_arr, b_box1, b_box2, b_box3, b_box4, List.map_cons, List.map_nil, Bool.and_self, Bool.and_true, Bool.true_and, Bool.not_true, Bool.not_false, Bool.or_false, Bool.false_or, cond_true, cond_false, okPack, okPut, okPutBlks, okPutCells, q_isP, q_isAg, q_isBox, q_isArr, q_int, q_bool, q_str, q_sl, q_nils, e_exit, e_ret, e_nrm, e_ret_exit, e_exit_ret, e_nrm_exit, e_nrm_ret, e_exit_nrm, e_ret_nrm, Nat.zero_add, Nat.reduceAdd, noslR, noslP, noslB, noslA, List.all_cons, List.all_nil]
  rw [hR]
  simp only [bnd_some, ctl_true, ctl_false, ctl_and, ctl_or', ctl_or2, x_toPV, x_toCs, x_toCs2, x_toEs, x_bEs, x_bCs, x_aPV, x_aCs, x_int, x_bool, x_str, x_es, x_esn, nth_0, nth_1, nth_2, nth_3, nth_4, nth_5, nth_6, nth_7, nth_8, nth_9, y_nil, y_int, y_bool, y_str, y_sl, y_nils, y_agg, y_ownp, y_own, z_nil, z_int, z_bool, z_str, z_sl, z_nils, b_nil, b_arr, b_box1, b_box2, b_box3, b_box4, List.map_cons, List.map_nil, Bool.and_self, Bool.and_true, Bool.true_and, Bool.not_true, Bool.not_false, Bool.or_false, Bool.false_or, cond_true, cond_false, okPack, okPut, okPutBlks, okPutCells, q_isP, q_isAg, q_isBox, q_isArr, q_int, q_bool, q_str, q_sl, q_nils, e_exit, e_ret, e_nrm, e_ret_exit, e_exit_ret, e_nrm_exit, e_nrm_ret, e_exit_nrm, e_ret_nrm, Nat.zero_add, Nat.reduceAdd, noslR, noslP, noslB, noslA, List.all_cons, List.all_nil]
  rw [hN2]
  simp only [bnd_some, ctl_true, ctl_false, ctl_and, ctl_or', ctl_or2, x_toPV, x_toCs, x_toCs2, x_toEs, x_bEs, x_bCs, x_aPV, x_aCs, x_int, x_bool, x_str, x_es, x_esn, nth_0, nth_1, nth_2, nth_3, nth_4, nth_5, nth_6, nth_7, nth_8, nth_9, y_nil, y_int, y_bool, y_str, y_sl, y_nils, y_agg, y_ownp, y_own, z_nil, z_int, z_bool, z_str, z_sl, z_nils, b_nil, b_arr, b_box1, b_box2, b_box3, b_box4, List.map_cons, List.map_nil, Bool.and_self, Bool.and_true, Bool.true_and, Bool.not_true, Bool.not_false, Bool.or_false, Bool.false_or, cond_true, cond_false, okPack, okPut, okPutBlks, okPutCells, q_isP, q_isAg, q_isBox, q_isArr, q_int, q_bool, q_str, q_sl, q_nils, e_exit, e_ret, e_nrm, e_ret_exit, e_exit_ret, e_nrm_exit, e_nrm_ret, e_exit_nrm, e_ret_nrm, Nat.zero_add, Nat.reduceAdd, noslR, noslP, noslB, noslA, List.all_cons, List.all_nil]
  rw [hN3]
  simp only [bnd_some, ctl_true, ctl_false, ctl_and, ctl_or', ctl_or2, x_toPV, x_toCs, x_toCs2, x_toEs, x_bEs, x_bCs, x_aPV, x_aCs, x_int, x_bool, x_str, x_es, x_esn, nth_0, nth_1, nth_2, nth_3, nth_4, nth_5, nth_6, nth_7, nth_8, nth_9, y_nil, y_int, y_bool, y_str, y_sl, y_nils, y_agg, y_ownp, y_own, z_nil, z_int, z_bool, z_str, z_sl, z_nils, b_nil, b_arr, b_box1, b_box2, b_box3, b_box4, List.map_cons, List.map_nil, Bool.and_self, Bool.and_true, Bool.true_and, Bool.not_true, Bool.not_false, Bool.or_false, Bool.false_or, cond_true, cond_false, okPack, okPut, okPutBlks, okPutCells, q_isP, q_isAg, q_isBox, q_isArr, q_int, q_bool, q_str, q_sl, q_nils, e_exit, e_ret, e_nrm, e_ret_exit, e_exit_ret, e_nrm_exit, e_nrm_ret, e_exit_nrm, e_ret_nrm, Nat.zero_add, Nat.reduceAdd, noslR, noslP, noslB, noslA, List.all_cons, List.all_nil]
  rw [h6]
  simp only [bnd_some, ctl_true, ctl_false, ctl_and, ctl_or', ctl_or2, x_toPV, x_toCs, x_toCs2, x_toEs, x_bEs, x_bCs, x_aPV, x_aCs, x_int, x_bool, x_str, x_es, x_esn, nth_0, nth_1, nth_2, nth_3, nth_4, nth_5, nth_6, nth_7, nth_8, nth_9, y_nil, y_int, y_bool, y_str, y_sl, y_nils, y_agg, y_ownp, y_own, z_nil, z_int, z_bool, z_str, z_sl, z_nils, b_nil, b_arr, b_box1, b_box2, b_box3, b_box4, List.map_cons, List.map_nil, Bool.and_self, Bool.and_true, Bool.true_and, Bool.not_true, Bool.not_false, Bool.or_false, Bool.false_or, cond_true, cond_false, okPack, okPut, okPutBlks, okPutCells, q_isP, q_isAg, q_isBox, q_isArr, q_int, q_bool, q_str, q_sl, q_nils, e_exit, e_ret, e_nrm, e_ret_exit, e_exit_ret, e_nrm_exit, e_nrm_ret, e_exit_nrm, e_ret_nrm, Nat.zero_add, Nat.reduceAdd, noslR, noslP, noslB, noslA, List.all_cons, List.all_nil]
  rw [w64 (n := i + 1) (by omega)]

theorem d_LogbookExact (t : List Int) (_ : t.length ≤ maxLen) (_ : ∀ n ∈ t, -9223372036854775808 ≤ n ∧ n ≤ 9223372036854775807) (raw : AV) (hr : WFA Tryd.prog 25 raw) (odd : AV) (ho : WFA Tryd.prog 29 odd) (kind : Int) (_ : -9223372036854775808 ≤ kind ∧ kind ≤ 9223372036854775807)
    (frm : Int) (_ : -9223372036854775808 ≤ frm ∧ frm ≤ 9223372036854775807) (to : Int) (hto : -9223372036854775808 ≤ to ∧ to ≤ 9223372036854775807) :
    denC E 6 [AV.sl 1 (intsK .i64 t), raw, odd, AV.int .i64 kind, AV.int .i64 frm, AV.int .i64 to] [] = some ([RV.p (PV.bool true)], []) := by
  obtain ⟨b, s, rfl, hb, hs⟩ := in_Book hr
  obtain ⟨o, rfl, hon⟩ := in_En ho
  unfold enK
  rw [denC_eq, r6, intsK_len, ensK_len, intsK_len]
  have hcond : ∀ K : Bool → Option Res, (bnd (ctl (!ltB 600 (t.length : Int)) (some (ltB 30 (b.length : Int))) (some true)) fun v : Bool => bnd (ctl (!v) (some (ltB 10 (o.ws.length : Int))) (some true)) K) = K (ltB 600 (t.length : Int) || (ltB 30 (b.length : Int) || ltB 10 (o.ws.length : Int))) := by
    intro K
    cases ltB 600 (t.length : Int) <;> cases ltB 30 (b.length : Int) <;> rfl
  rw [hcond]
  cases hbig : (ltB 600 (t.length : Int) || (ltB 30 (b.length : Int) || ltB 10 (o.ws.length : Int))) with
  | true =>
    rw [ctl_true, c_sane36]
    rfl
  | false =>
    simp only [Bool.or_eq_false_iff, decide_eq_false_iff_not] at hbig
    obtain ⟨ht, hbl, hol⟩ := hbig
    have hlp := l6_0 (intsK .i64 t) kind frm to s o.t o.k (intsK .i64 o.ws) b (by omega) b [] rfl
    simp only [List.length_nil, Int.ofNat_zero] at hlp
    rw [ctl_false, hlp]
    cases hall : (b.all fun e => !ltB 10 (e.ws.length : Int)) with
    | false => rfl
    | true =>
      have hle : ∀ e ∈ b, e.ws.length ≤ 10 := fun e he => by
        have := List.all_eq_true.1 hall e he
        simp only [Bool.not_eq_true', decide_eq_false_iff_not] at this
        omega
      have hob : bE o := ⟨hon.1, hon.2.1, hon.2.2, by omega⟩
      simp only [bnd_some, ctl_true, ctl_false, ctl_and, ctl_or', ctl_or2, x_toPV, x_toCs, x_toCs2, x_toEs, x_bEs, x_bCs, x_aPV, x_aCs, x_int, x_bool, x_str, x_es, x_esn, nth_0, nth_1, nth_2, nth_3, nth_4, nth_5, nth_6, nth_7, nth_8, nth_9, y_nil, y_int, y_bool, y_str, y_sl, y_nils, y_agg, y_ownp, y_own, z_nil, z_int, z_bool, z_str, z_sl, z_nils, b_nil, b_arr, b_box1, b_box2, b_box3, b_box4, List.map_cons, List.map_nil, Bool.and_self, Bool.and_true, Bool.true_and, Bool.not_true, Bool.not_false, Bool.or_false, Bool.false_or, cond_true, cond_false, okPack, okPut, okPutBlks, okPutCells, q_isP, q_isAg, q_isBox, q_isArr, q_int, q_bool, q_str, q_sl, q_nils, e_exit, e_ret, e_nrm, e_ret_exit, e_exit_ret, e_nrm_exit, e_nrm_ret, e_exit_nrm, e_ret_nrm, Nat.zero_add, Nat.reduceAdd, noslR, noslP, noslB, noslA, List.all_cons, List.all_nil]
      rw [c_New]
      simp only [bnd_some, ctl_true, ctl_false, ctl_and, ctl_or', ctl_or2, x_toPV, x_toCs, x_toCs2, x_toEs, x_bEs, x_bCs, x_aPV, x_aCs, x_int, x_bool, x_str, x_es, x_esn, nth_0, nth_1, nth_2, nth_3, nth_4, nth_5, nth_6, nth_7, nth_8, nth_9, y_nil, y_int, y_bool, y_str, y_sl, y_nils, y_agg, y_ownp, y_own, z_nil, z_int, z_bool, z_str, z_sl, z_nils, b_nil, b_arr, b_box1, b_box2, b_box3, b_box4, List.map_cons, List.map_nil, Bool.and_self, Bool.and_true, Bool.true_and, Bool.not_true, Bool.not_false, Bool.or_false, Bool.false_or, cond_true, cond_false, okPack, okPut, okPutBlks, okPutCells, q_isP, q_isAg, q_isBox, q_isArr, q_int, q_bool, q_str, q_sl, q_nils, e_exit, e_ret, e_nrm, e_ret_exit, e_exit_ret, e_nrm_exit, e_nrm_ret, e_exit_nrm, e_ret_nrm, Nat.zero_add, Nat.reduceAdd, noslR, noslP, noslB, noslA, List.all_cons, List.all_nil]
      rw [src_zero]
      have hL : (t.take 600).length ≤ 600 := by simp; omega
      obtain ⟨x, xs, k1, hk1, hc, hxl, hxt, hX⟩ := c_Book (L := t.take 600) (k := 0) hL (by omega) 12 (by omega)
      rw [hX]
      simp only [bnd_some, ctl_true, ctl_false, ctl_and, ctl_or', ctl_or2, x_toPV, x_toCs, x_toCs2, x_toEs, x_bEs, x_bCs, x_aPV, x_aCs, x_int, x_bool, x_str, x_es, x_esn, nth_0, nth_1, nth_2, nth_3, nth_4, nth_5, nth_6, nth_7, nth_8, nth_9, y_nil, y_int, y_bool, y_str, y_sl, y_nils, y_agg, y_ownp, y_own, z_nil, z_int, z_bool, z_str, z_sl, z_nils, b_nil, b_arr, b_box1, b_box2, b_box3, b_box4, List.map_cons, List.map_nil, Bool.and_self, Bool.and_true, Bool.true_and, Bool.not_true, Bool.not_false, Bool.or_false, Bool.false_or, cond_true, cond_false, okPack, okPut, okPutBlks, okPutCells, q_isP, q_isAg, q_isBox, q_isArr, q_int, q_bool, q_str, q_sl, q_nils, e_exit, e_ret, e_nrm, e_ret_exit, e_exit_ret, e_nrm_exit, e_nrm_ret, e_exit_nrm, e_ret_nrm, Nat.zero_add, Nat.reduceAdd, noslR, noslP, noslB, noslA, List.all_cons, List.all_nil]
      have hxr := checkP_rng hc
      obtain ⟨y, ys, k2, hk2, hyl, hyw, hyr, hY⟩ := c_BentBook (L := t.take 600) (k := k1) hL hk1 x xs (by omega) (checkP_ws hc) hxr
      rw [hY]
      simp only [bnd_some, ctl_true, ctl_false, ctl_and, ctl_or', ctl_or2, x_toPV, x_toCs, x_toCs2, x_toEs, x_bEs, x_bCs, x_aPV, x_aCs, x_int, x_bool, x_str, x_es, x_esn, nth_0, nth_1, nth_2, nth_3, nth_4, nth_5, nth_6, nth_7, nth_8, nth_9, y_nil, y_int, y_bool, y_str, y_sl, y_nils, y_agg, y_ownp, y_own, z_nil, z_int, z_bool, z_str, z_sl, z_nils, b_nil, b_arr, b_box1, b_box2, b_box3, b_box4, List.map_cons, List.map_nil, Bool.and_self, Bool.and_true, Bool.true_and, Bool.not_true, Bool.not_false, Bool.or_false, Bool.false_or, cond_true, cond_false, okPack, okPut, okPutBlks, okPutCells, q_isP, q_isAg, q_isBox, q_isArr, q_int, q_bool, q_str, q_sl, q_nils, e_exit, e_ret, e_nrm, e_ret_exit, e_exit_ret, e_nrm_exit, e_nrm_ret, e_exit_nrm, e_ret_nrm, Nat.zero_add, Nat.reduceAdd, noslR, noslP, noslB, noslA, List.all_cons, List.all_nil]
      have hBx : bB x xs := ⟨by omega, checkP_ws hc, hxr⟩
      have hBy : bB y ys := ⟨by omega, hyw, hyr⟩
      have hBb : bB b s := ⟨by omega, fun e he => by have := hle e he; omega, hs⟩
      obtain ⟨k3, hk3, h1⟩ := s6_2 hL kind frm to hto x y b xs ys s 0 (by omega) o hob k2 hk2 x xs hBx (fun K => rfl)
      obtain ⟨k4, hk4, h2⟩ := s6_2 hL kind frm to hto x y b xs ys s (0 + 1) (by omega) o hob k3 hk3 y ys hBy (fun K => rfl)
      obtain ⟨k5, hk5, h3⟩ := s6_2 hL kind frm to hto x y b xs ys s (0 + 1 + 1) (by omega) o hob k4 hk4 b s hBb (fun K => rfl)
      rw [h1, h2, h3, r6_2]
      have h4 : ltB (0 + 1 + 1 + 1) 3 = false := rfl
      rw [h4, ctl_false]
      simp only [bnd_some, ctl_true, ctl_false, ctl_and, ctl_or', ctl_or2, x_toPV, x_toCs, x_toCs2, x_toEs, x_bEs, x_bCs, x_aPV, x_aCs, x_int, x_bool, x_str, x_es, x_esn, nth_0, nth_1, nth_2, nth_3, nth_4, nth_5, nth_6, nth_7, nth_8, nth_9, y_nil, y_int, y_bool, y_str, y_sl, y_nils, y_agg, y_ownp, y_own, z_nil, z_int, z_bool, z_str, z_sl, z_nils, b_nil, b_arr, b_box1, b_box2, b_box3, b_box4, List.map_cons, List.map_nil, Bool.and_self, Bool.and_true, Bool.true_and, Bool.not_true, Bool.not_false, Bool.or_false, Bool.false_or, cond_true, cond_false, okPack, okPut, okPutBlks, okPutCells, q_isP, q_isAg, q_isBox, q_isArr, q_int, q_bool, q_str, q_sl, q_nils, e_exit, e_ret, e_nrm, e_ret_exit, e_exit_ret, e_nrm_exit, e_nrm_ret, e_exit_nrm, e_ret_nrm, Nat.zero_add, Nat.reduceAdd, noslR, noslP, noslB, noslA, List.all_cons, List.all_nil]
      rw [c_New36]
      simp only [bnd_some, ctl_true, ctl_false, ctl_and, ctl_or', ctl_or2, x_toPV, x_toCs, x_toCs2, x_toEs, x_bEs, x_bCs, x_aPV, x_aCs, x_int, x_bool, x_str, x_es, x_esn, nth_0, nth_1, nth_2, nth_3, nth_4, nth_5, nth_6, nth_7, nth_8, nth_9, y_nil, y_int, y_bool, y_str, y_sl, y_nils, y_agg, y_ownp, y_own, z_nil, z_int, z_bool, z_str, z_sl, z_nils, b_nil, b_arr, b_box1, b_box2, b_box3, b_box4, List.map_cons, List.map_nil, Bool.and_self, Bool.and_true, Bool.true_and, Bool.not_true, Bool.not_false, Bool.or_false, Bool.false_or, cond_true, cond_false, okPack, okPut, okPutBlks, okPutCells, q_isP, q_isAg, q_isBox, q_isArr, q_int, q_bool, q_str, q_sl, q_nils, e_exit, e_ret, e_nrm, e_ret_exit, e_exit_ret, e_nrm_exit, e_nrm_ret, e_exit_nrm, e_ret_nrm, Nat.zero_add, Nat.reduceAdd, noslR, noslP, noslB, noslA, List.all_cons, List.all_nil]
      rw [c_NewD]
      simp only [bnd_some, ctl_true, ctl_false, ctl_and, ctl_or', ctl_or2, x_toPV, x_toCs, x_toCs2, x_toEs, x_bEs, x_bCs, x_aPV, x_aCs, x_int, x_bool, x_str, x_es, x_esn, nth_0, nth_1, nth_2, nth_3, nth_4, nth_5, nth_6, nth_7, nth_8, nth_9, y_nil, y_int, y_bool, y_str, y_sl, y_nils, y_agg, y_ownp, y_own, z_nil, z_int, z_bool, z_str, z_sl, z_nils, b_nil, b_arr, b_box1, b_box2, b_box3, b_box4, List.map_cons, List.map_nil, Bool.and_self, Bool.and_true, Bool.true_and, Bool.not_true, Bool.not_false, Bool.or_false, Bool.false_or, cond_true, cond_false, okPack, okPut, okPutBlks, okPutCells, q_isP, q_isAg, q_isBox, q_isArr, q_int, q_bool, q_str, q_sl, q_nils, e_exit, e_ret, e_nrm, e_ret_exit, e_exit_ret, e_nrm_exit, e_nrm_ret, e_exit_nrm, e_ret_nrm, Nat.zero_add, Nat.reduceAdd, noslR, noslP, noslB, noslA, List.all_cons, List.all_nil]
      have h5 := c_SameR [] begin36 (by simp) (fun e he => (List.not_mem_nil he).elim)
      have e0 : ensK [] = [] := rfl
      rw [e0] at h5
      rw [h5]
      simp only [bnd_some, ctl_true, ctl_false, ctl_and, ctl_or', ctl_or2, x_toPV, x_toCs, x_toCs2, x_toEs, x_bEs, x_bCs, x_aPV, x_aCs, x_int, x_bool, x_str, x_es, x_esn, nth_0, nth_1, nth_2, nth_3, nth_4, nth_5, nth_6, nth_7, nth_8, nth_9, y_nil, y_int, y_bool, y_str, y_sl, y_nils, y_agg, y_ownp, y_own, z_nil, z_int, z_bool, z_str, z_sl, z_nils, b_nil, b_arr, b_box1, b_box2, b_box3, b_box4, List.map_cons, List.map_nil, Bool.and_self, Bool.and_true, Bool.true_and, Bool.not_true, Bool.not_false, Bool.or_false, Bool.false_or, cond_true, cond_false, okPack, okPut, okPutBlks, okPutCells, q_isP, q_isAg, q_isBox, q_isArr, q_int, q_bool, q_str, q_sl, q_nils, e_exit, e_ret, e_nrm, e_ret_exit, e_exit_ret, e_nrm_exit, e_nrm_ret, e_exit_nrm, e_ret_nrm, Nat.zero_add, Nat.reduceAdd, noslR, noslP, noslB, noslA, List.all_cons, List.all_nil]
      rw [c_sane36]
      rfl

end Go.Proofs.YtdbajagnhanpfaaDoor.Vm
