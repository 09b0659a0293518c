/- TopCommands: the law. -/
import Derived.Test.YtcgpckiieocdbaaNetD
import Derived.Test.YtcgpckiieocdbaaRawCommands
namespace Go.Proofs.Ytcgpckiieocdbaa.Vm
set_option linter.unusedVariables false
set_option linter.unusedSimpArgs false

theorem kv_has_put (k x : Int) (v : MV) : ∀ m : List (Int × MV), kvHas x (kvPut k v m) = ((k == x) || kvHas x m)
  | [] => by simp only [kvPut, kvHas]; cases (k == x) <;> rfl
  | (y, u) :: m => by
    simp only [kvPut]
    cases h : (y == k) with
    | true =>
      have : y = k := by simpa using h
      subst this
      simp only [cond_true, kvHas]
      cases (y == x) <;> rfl
    | false =>
      simp only [cond_false, kvHas, kv_has_put k x v m]
      cases (y == x) <;> cases (k == x) <;> rfl

abbrev own0 (x : Int) (kv : List (Int × MV)) : MV := kvGet (MV.pv (PV.int .i64 0)) x kv
/-- Who owns which epoch: no epoch above M is owned, and an active controller's epoch is owned by nobody else. -/
structure Own (kv : List (Int × MV)) (l : List Ct) (M : Int) : Prop where
  le : ∀ x, kvHas x kv = true → x ≤ M
  int : ∀ x, ∃ v, own0 x kv = MV.pv (PV.int .i64 v)
  me : ∀ j, j < l.length → (gt l j).st = 1 → kvHas (gt l j).ep kv = true → own0 (gt l j).ep kv = MV.pv (PV.int .i64 (j : Int))

theorem Own.put {kv : List (Int × MV)} {o : List Ct} {M : Int} (h : Own kv o M) (hI : Inv o M) {k : Nat} (hk : k < o.length) (hs : (gt o k).st = 1) : Own (kvPut (gt o k).ep (MV.pv (PV.int .i64 (k : Int))) kv) o M := by
  refine ⟨fun x hx => ?_, fun x => ?_, fun j hj h1 h2 => ?_⟩
  · rw [kv_has_put] at hx
    rcases Bool.or_eq_true _ _ ▸ hx with h1 | h1
    · have : (gt o k).ep = x := by simpa using h1
      rw [← this]; exact hI.le k hk hs
    · exact h.le x h1
  · by_cases hx : (gt o k).ep = x
    · exact ⟨k, by rw [← hx]; exact kv_put ..⟩
    · obtain ⟨v, hv⟩ := h.int x
      exact ⟨v, by rw [← hv]; exact kv_put_ne _ _ hx _⟩
  · by_cases hjk : j = k
    · subst hjk; exact kv_put ..
    · have hne := hI.ne j k hj hk hjk h1 hs
      show kvGet _ _ _ = _
      rw [kv_put_ne _ _ (fun e => hne e.symm)]
      refine h.me j hj h1 ?_
      rw [kv_has_put] at h2
      rcases Bool.or_eq_true _ _ ▸ h2 with h3 | h3
      · exact (hne (by simpa using (eq_of_beq h3).symm)).elim
      · exact h3

theorem cmd_in {L : List Int} {q : Nat} {n : Int} {cs : List Cb} {o : List Ct} {R : List (List Bool)} (hS : Sq o R) {at' : Nat} (hat : at' < o.length) {M tm : Int} (hI : Inv o M) (hV : Val o tm) :
    ∀ (m k : Nat) (d : Int) (kv : List (Int × MV)), k + m = o.length → (0 ≤ d ∧ d ≤ 2147483648) → Own kv o M →
    ∃ d' kv', (0 ≤ d' ∧ d' ≤ 2147483648) ∧ Own kv' o M ∧ lp E (denC E) 3 0 [] 6 { vals := [AV.sl 3 (ctrs o), AV.int .i64 d, AV.int .i64 at', AV.int .i64 tm, AV.sl 1 (rch R), AV.sl 3 (ctrs o), AV.int .i64 o.length, AV.int .i64 k], blks := [src L q, bxC n cs, Blk.tab true 0 kv] } =
      some (Ex.exit 6, { vals := [AV.sl 3 (ctrs o), AV.int .i64 d', AV.int .i64 at', AV.int .i64 tm], blks := [src L q, bxC n cs, Blk.tab true 0 kv'] }) := by
  have h5 := hS.n5
  intro m
  induction m with
  | zero =>
    intro k d kv hk hd hO
    rw [r3_6, ctl_dec, if_neg (by omega)]
    exact ⟨d, kv, hd, hO, rfl⟩
  | succ m ih =>
    intro k d kv hk hd hO
    have hko : k < o.length := by omega
    rw [r3_6, ctl_dec, if_pos (by omega), getE_ctrs hko]
    simp only [bnd_some, ctl_true, ctl_false, ctl_and, ctl_or', ctl_or2, x_toPV, x_toCs, x_toCs2, x_toEs, x_bEs, x_bCs, x_aPV, x_aCs, x_int, x_bool, x_str, x_es, x_esn, nth_0, nth_1, nth_2, nth_3, nth_4, nth_5, nth_6, nth_7, nth_8, nth_9, y_nil, y_int, y_bool, y_str, y_sl, y_nils, y_agg, y_ownp, y_own, z_nil, z_int, z_bool, z_str, z_sl, z_nils, b_nil, b_arr, b_box1, b_box2, b_box3, b_box4, List.map_cons, List.map_nil, Bool.and_self, Bool.and_true, Bool.true_and, Bool.not_true, Bool.not_false, Bool.or_false, Bool.false_or, cond_true, cond_false, okPack, okPut, okPutBlks, okPutCells, q_isP, q_isAg, q_isBox, q_isArr, q_int, q_bool, q_str, q_sl, q_nils, e_exit, e_ret, e_nrm, e_ret_exit, e_exit_ret, e_nrm_exit, e_nrm_ret, e_exit_nrm, e_ret_nrm, Nat.zero_add, Nat.reduceAdd, noslR, noslP, noslB, noslA, List.all_cons, List.all_nil]
    rw [w64 (n := (k : Int) + 1) (by omega), succ_cast]
    by_cases hst : (gt o k).st = 1
    · have hs1 : ((gt o k).st != 1) = false := by rw [hst]; rfl
      obtain ⟨v, hv⟩ := hO.int (gt o k).ep
      have hO' := hO.put hI hko hst
      have hown : (kvHas (gt o k).ep kv && (kvGet (MV.pv (PV.int .i64 0)) (gt o k).ep kv).toPV.toInt != (k : Int)) = false := by
        cases hh : kvHas (gt o k).ep kv with
        | false => rfl
        | true =>
          have hme := hO.me k hko hst hh
          unfold own0 at hme
          rw [hme]
          show (true && ((k : Int) != (k : Int))) = _
          simp
      have hok : MV.pvOk (Sh.int .i64) (kvGet (MV.pv (PV.int .i64 0)) (gt o k).ep kv) = true := by
        unfold own0 at hv
        rw [hv]; rfl
      have hep := (hV.c k hko).2.1
      rw [hs1, hok, ctl_false, ctl_true, hown, ctl_false, getE_rch (by rw [hS.r]; exact hko)]
      simp only [bnd_some, ctl_true, ctl_false, ctl_and, ctl_or', ctl_or2, x_toPV, x_toCs, x_toCs2, x_toEs, x_bEs, x_bCs, x_aPV, x_aCs, x_int, x_bool, x_str, x_es, x_esn, nth_0, nth_1, nth_2, nth_3, nth_4, nth_5, nth_6, nth_7, nth_8, nth_9, y_nil, y_int, y_bool, y_str, y_sl, y_nils, y_agg, y_ownp, y_own, z_nil, z_int, z_bool, z_str, z_sl, z_nils, b_nil, b_arr, b_box1, b_box2, b_box3, b_box4, List.map_cons, List.map_nil, Bool.and_self, Bool.and_true, Bool.true_and, Bool.not_true, Bool.not_false, Bool.or_false, Bool.false_or, cond_true, cond_false, okPack, okPut, okPutBlks, okPutCells, q_isP, q_isAg, q_isBox, q_isArr, q_int, q_bool, q_str, q_sl, q_nils, e_exit, e_ret, e_nrm, e_ret_exit, e_exit_ret, e_nrm_exit, e_nrm_ret, e_exit_nrm, e_ret_nrm, Nat.zero_add, Nat.reduceAdd, noslR, noslP, noslB, noslA, List.all_cons, List.all_nil]
      rw [getE_brow (by rw [hS.c k hko]; exact hat)]
      simp only [bnd_some, ctl_true, ctl_false, ctl_and, ctl_or', ctl_or2, x_toPV, x_toCs, x_toCs2, x_toEs, x_bEs, x_bCs, x_aPV, x_aCs, x_int, x_bool, x_str, x_es, x_esn, nth_0, nth_1, nth_2, nth_3, nth_4, nth_5, nth_6, nth_7, nth_8, nth_9, y_nil, y_int, y_bool, y_str, y_sl, y_nils, y_agg, y_ownp, y_own, z_nil, z_int, z_bool, z_str, z_sl, z_nils, b_nil, b_arr, b_box1, b_box2, b_box3, b_box4, List.map_cons, List.map_nil, Bool.and_self, Bool.and_true, Bool.true_and, Bool.not_true, Bool.not_false, Bool.or_false, Bool.false_or, cond_true, cond_false, okPack, okPut, okPutBlks, okPutCells, q_isP, q_isAg, q_isBox, q_isArr, q_int, q_bool, q_str, q_sl, q_nils, e_exit, e_ret, e_nrm, e_ret_exit, e_exit_ret, e_nrm_exit, e_nrm_ret, e_exit_nrm, e_ret_nrm, Nat.zero_add, Nat.reduceAdd, noslR, noslP, noslB, noslA, List.all_cons, List.all_nil]
      rw [c_Fence hd hep]
      generalize (R.getD k []).getD at' false = rbit
      cases rbit with
      | false => exact ih (k + 1) d _ (by omega) hd hO'
      | true =>
        by_cases hlt : (gt o k).ep < d
        · rw [if_pos hlt]
          exact ih (k + 1) d _ (by omega) hd hO'
        · rw [if_neg hlt]
          simp only [bnd_some, ctl_true, ctl_false, ctl_and, ctl_or', ctl_or2, x_toPV, x_toCs, x_toCs2, x_toEs, x_bEs, x_bCs, x_aPV, x_aCs, x_int, x_bool, x_str, x_es, x_esn, nth_0, nth_1, nth_2, nth_3, nth_4, nth_5, nth_6, nth_7, nth_8, nth_9, y_nil, y_int, y_bool, y_str, y_sl, y_nils, y_agg, y_ownp, y_own, z_nil, z_int, z_bool, z_str, z_sl, z_nils, b_nil, b_arr, b_box1, b_box2, b_box3, b_box4, List.map_cons, List.map_nil, Bool.and_self, Bool.and_true, Bool.true_and, Bool.not_true, Bool.not_false, Bool.or_false, Bool.false_or, cond_true, cond_false, okPack, okPut, okPutBlks, okPutCells, q_isP, q_isAg, q_isBox, q_isArr, q_int, q_bool, q_str, q_sl, q_nils, e_exit, e_ret, e_nrm, e_ret_exit, e_exit_ret, e_nrm_exit, e_nrm_ret, e_exit_nrm, e_ret_nrm, Nat.zero_add, Nat.reduceAdd, noslR, noslP, noslB, noslA, List.all_cons, List.all_nil]
          rw [show ((0 : Int) == 0) = true from rfl, ctl_true, show ltB (gt o k).ep d = false by simp only [decide_eq_false_iff_not]; exact hlt]
          exact ih (k + 1) (gt o k).ep _ (by omega) hep hO'
    · have hs1 : ((gt o k).st != 1) = true := by simpa using hst
      rw [hs1]
      exact ih (k + 1) d kv (by omega) hd hO

section
variable {L : List Int} {q : Nat} {n : Nat} (hn : n ≤ 5) {cs : List Cb} (hcs : cs.length ≤ 1000) (hok : ∀ x ∈ cs, okCb n x) {ps : List Int} (hps : ps.length ≤ 1000) {l : List Ct} {d tm at' : Int} {kv : List (Int × MV)}
include hn hcs hok hps
theorem cmdr_in {i : Nat} {y : Int} (hin : i < n) : ∀ (m k : Nat) (X : List (List Bool)), k + m = n → i < X.length → (X.getD i []).length = k →
    ∃ r, r.length = n ∧ lp E (denC E) 3 0 [] 4 { vals := [AV.sl 3 (ctrs l), AV.int .i64 d, AV.int .i64 at', AV.int .i64 tm, AV.sl 2 (prts ps), AV.int .i64 i, AV.int .i64 k, AV.int .i64 y, AV.int .i64 i], blks := [src L q, bxC n cs, Blk.tab true 0 kv, Blk.tab false 1 (tabR X)] } =
      some (Ex.exit 4, { vals := [AV.sl 3 (ctrs l), AV.int .i64 d, AV.int .i64 at', AV.int .i64 tm, AV.sl 2 (prts ps), AV.int .i64 y, AV.int .i64 i], blks := [src L q, bxC n cs, Blk.tab true 0 kv, Blk.tab false 1 (tabR (X.set i r))] }) := by
  intro m
  induction m with
  | zero =>
    intro k X hk hi hl
    rw [r3_4, ctl_dec, if_neg (by omega)]
    have : X.set i (X.getD i []) = X := by simp [List.getD, hi]
    exact ⟨X.getD i [], by omega, by rw [this]⟩
  | succ m ih =>
    intro k X hk hi hl
    have e1 : (leB 0 (i : Int) && ltB (i : Int) ((tabR X).length : Int)) = true := by rw [tabR_length]; exact in_len hi
    have e2 : (leB 0 (i : Int) && ltB (i : Int) ((upd (0, MV.gone) (tabR X) i).length : Int)) = true := by rw [upd_eq, List.length_set, tabR_length]; exact in_len hi
    have e3 : leN (((brow (X.getD i [])).length + 1) * 1) 140737488355328 = true := by rw [List.length_map]; simp only [decide_eq_true_eq]; omega
    have e4 : ∀ b : Bool, brow (X.getD i []) ++ [[PV.bool b]] = brow (X.getD i [] ++ [b]) := fun b => by simp
    obtain ⟨c, hc⟩ := c_Copies (n := (n : Int)) (a := (i : Int)) (b := (k : Int)) (by omega) (by omega) (by omega) hps hcs hok
    obtain ⟨r, h1, h2⟩ := ih (k + 1) (X.set i (X.getD i [] ++ [ltB 0 c])) (by omega) (by simpa using hi) (by rw [setD_eq hi, List.length_append, List.length_singleton]; omega)
    rw [List.set_set] at h2
    refine ⟨r, h1, ?_⟩
    rw [r3_4, ctl_dec, if_pos (by omega), Int.toNat_natCast, e1, tabR_get hi, m_es, m_row, e3, e2, w64 (n := (k : Int) + 1) (by omega), succ_cast]
    simp only [ctl_true]
    rw [hc]
    simp only [bnd_some, ctl_true, ctl_false, ctl_and, ctl_or', ctl_or2, x_toPV, x_toCs, x_toCs2, x_toEs, x_bEs, x_bCs, x_aPV, x_aCs, x_int, x_bool, x_str, x_es, x_esn, nth_0, nth_1, nth_2, nth_3, nth_4, nth_5, nth_6, nth_7, nth_8, nth_9, y_nil, y_int, y_bool, y_str, y_sl, y_nils, y_agg, y_ownp, y_own, z_nil, z_int, z_bool, z_str, z_sl, z_nils, b_nil, b_arr, b_box1, b_box2, b_box3, b_box4, List.map_cons, List.map_nil, Bool.and_self, Bool.and_true, Bool.true_and, Bool.not_true, Bool.not_false, Bool.or_false, Bool.false_or, cond_true, cond_false, okPack, okPut, okPutBlks, okPutCells, q_isP, q_isAg, q_isBox, q_isArr, q_int, q_bool, q_str, q_sl, q_nils, e_exit, e_ret, e_nrm, e_ret_exit, e_exit_ret, e_nrm_exit, e_nrm_ret, e_exit_nrm, e_ret_nrm, Nat.zero_add, Nat.reduceAdd, noslR, noslP, noslB, noslA, List.all_cons, List.all_nil]
    rw [e4, tabR_set]
    exact h2

theorem cmdr_out : ∀ (m i : Nat) (X : List (List Bool)), i + m = n → X.length = n → (∀ j, i ≤ j → X.getD j [] = []) → (∀ j, j < i → (X.getD j []).length = n) →
    ∃ Y, Y.length = n ∧ (∀ j, j < n → (Y.getD j []).length = n) ∧ lp E (denC E) 3 0 [] 2 { vals := [AV.sl 3 (ctrs l), AV.int .i64 d, AV.int .i64 at', AV.int .i64 tm, AV.sl 2 (prts ps), AV.int .i64 n, AV.int .i64 i], blks := [src L q, bxC n cs, Blk.tab true 0 kv, Blk.tab false 1 (tabR X)] } =
      some (Ex.exit 2, { vals := [AV.sl 3 (ctrs l), AV.int .i64 d, AV.int .i64 at', AV.int .i64 tm], blks := [src L q, bxC n cs, Blk.tab true 0 kv, Blk.tab false 1 (tabR Y)] }) := by
  intro m
  induction m with
  | zero =>
    intro i X hi hX h1 h2
    rw [r3_2, ctl_dec, if_neg (by omega)]
    exact ⟨X, hX, fun j hj => h2 j (by omega), rfl⟩
  | succ m ih =>
    intro i X hi hX h1 h2
    have hil : i < X.length := by omega
    obtain ⟨r, g2, h⟩ := cmdr_in (L := L) (q := q) hn hcs hok hps (l := l) (d := d) (tm := tm) (at' := at') (kv := kv) (y := n) (i := i) (by omega) n 0 X (by omega) hil (by rw [h1 i (by omega)]; rfl)
    rw [nc0] at h
    obtain ⟨Y, y2, y3, y4⟩ := ih (i + 1) (X.set i r) (by omega) (by simpa using hX) (fun j hj => by rw [setD_ne (by omega)]; exact h1 j (by omega)) fun j hj => by
      by_cases he : j = i
      · subst he; rw [setD_eq hil]; exact g2
      · rw [setD_ne (by omega)]; exact h2 j (by omega)
    refine ⟨Y, y2, y3, ?_⟩
    rw [r3_2, ctl_dec, if_pos (by omega), h]
    simp only [bnd_some, ctl_true, ctl_false, ctl_and, ctl_or', ctl_or2, x_toPV, x_toCs, x_toCs2, x_toEs, x_bEs, x_bCs, x_aPV, x_aCs, x_int, x_bool, x_str, x_es, x_esn, nth_0, nth_1, nth_2, nth_3, nth_4, nth_5, nth_6, nth_7, nth_8, nth_9, y_nil, y_int, y_bool, y_str, y_sl, y_nils, y_agg, y_ownp, y_own, z_nil, z_int, z_bool, z_str, z_sl, z_nils, b_nil, b_arr, b_box1, b_box2, b_box3, b_box4, List.map_cons, List.map_nil, Bool.and_self, Bool.and_true, Bool.true_and, Bool.not_true, Bool.not_false, Bool.or_false, Bool.false_or, cond_true, cond_false, okPack, okPut, okPutBlks, okPutCells, q_isP, q_isAg, q_isBox, q_isArr, q_int, q_bool, q_str, q_sl, q_nils, e_exit, e_ret, e_nrm, e_ret_exit, e_exit_ret, e_nrm_exit, e_nrm_ret, e_exit_nrm, e_ret_nrm, Nat.zero_add, Nat.reduceAdd, noslR, noslP, noslB, noslA, List.all_cons, List.all_nil, iT_f1, iT_m0, k_kvs]
    rw [w64 (n := (i : Int) + 1) (by omega), succ_cast]
    exact y4
end

theorem cmd_out {L : List Int} (hL : L.length ≤ 600) {n : Nat} (hn : 1 ≤ n ∧ n ≤ 5) {cs : List Cb} (hcs : cs.length ≤ 1000) (hok : ∀ x ∈ cs, okCb n x) {at' : Nat} (hat : at' < n) :
    ∀ (m k : Nat) (l : List Ct) (M d : Int) (kv : List (Int × MV)) (q : Nat), q ≤ 600 → k + m = 12 → l.length = n → Val l k → (∀ i, i < l.length → (gt l i).ep ≤ k) → Inv l M → (0 ≤ d ∧ d ≤ 2147483648) → Own kv l M →
    lp E (denC E) 3 0 [] 0 { vals := [AV.sl 3 (ctrs l), AV.int .i64 d, AV.int .i64 at', AV.int .i64 k], blks := [src L q, bxC n cs, Blk.tab true 0 kv] } = some (Ex.exit 0, { vals := [], blks := [] }) := by
  intro m
  induction m with
  | zero =>
    intro k l M d kv q hq hk hlen hV he hI hd hO
    rw [r3_0, show ltB (k : Int) 12 = false by simp only [decide_eq_false_iff_not]; omega]
    rfl
  | succ m ih =>
    intro k l M d kv q hq hk hlen hV he hI hd hO
    obtain ⟨ps, q1, p1, p2, hps⟩ := c_Cables hL hq (n : Int) (l := cs) hcs
    obtain ⟨R, r1, r2, hr⟩ := cmdr_out (L := L) (q := q1) (n := n) (by omega) hcs hok (ps := ps) (by omega) (l := l) (d := d) (tm := (k : Int)) (at' := (at' : Int)) (kv := kv) n 0 (List.replicate n []) (by omega) (by simp)
      (fun j _ => by simp only [List.getD, List.getElem?_replicate]; split <;> rfl) (fun j hj => by omega)
    obtain ⟨a, hsh, ha⟩ := c_Shaken hL p1 hV.n1 hV.n5 (k : Int)
    have hVa := hsh.val (by omega) hV
    have hIa := hsh.inv hI
    have hal : a.length = n := by rw [hsh.len]; exact hlen
    have hea : ∀ i, i < a.length → (gt a i).ep ≤ k := fun i hi => by rw [(hsh.get i).1]; exact he i (by rw [← hsh.len]; exact hi)
    have hS : Sq a R := ⟨hVa.n1, hVa.n5, by omega, fun i hi => by rw [r2 i (by omega), hal]⟩
    have hNb := vN_bounds (L := L) (k := _root_.Go.Proofs.Ytcgpckiieocdbaa.Vm.at' L q1) (n := 2) (by omega)
    have hN := c_N hL (at'_le hL p1) 2 (by omega)
    obtain ⟨o, ho, hst, heo⟩ := tick_step (l := a) (R := R) (t := (k : Int)) (d := 1 + vN L (_root_.Go.Proofs.Ytcgpckiieocdbaa.Vm.at' L q1) 2) (B := (k : Int)) (by omega) hea
    obtain ⟨M', m1, m2, m3⟩ := tick_inv2 hIa ho
    have hVo := tick_val hVa (by omega) ho
    have hSo : Sq o R := ⟨by rw [hst.len]; exact hS.n1, by rw [hst.len]; exact hS.n5, by rw [hst.len]; exact hS.r, fun i hi => by rw [hst.len] at hi ⊢; exact hS.c i hi⟩
    have hOo : Own kv o M' := by
      refine ⟨fun x hx => by have := hO.le x hx; omega, hO.int, fun j hj h1 h2 => ?_⟩
      rw [hst.len] at hj
      rcases m3 j hj h1 with ⟨g1, g2⟩ | g
      · have h3 := (hsh.get j).2.1 g1
        have h4 := (hsh.get j).1
        rw [g2, h4] at h2 ⊢
        exact hO.me j (by rw [← hsh.len]; exact hj) h3 h2
      · have := hO.le _ h2
        omega
    obtain ⟨d', kv', i1, i2, i3⟩ := cmd_in (L := L) (q := _root_.Go.Proofs.Ytcgpckiieocdbaa.Vm.at' L (_root_.Go.Proofs.Ytcgpckiieocdbaa.Vm.at' L q1)) (n := (n : Int)) (cs := cs) hSo (at' := at') (by rw [hst.len]; omega) (tm := (k : Int)) m2 hVo o.length 0 d kv (by omega) hd hOo
    have h := ih (k + 1) o M' d' kv' (_root_.Go.Proofs.Ytcgpckiieocdbaa.Vm.at' L (_root_.Go.Proofs.Ytcgpckiieocdbaa.Vm.at' L q1)) (at'_le hL (at'_le hL p1)) (by omega) (by rw [hst.len, hal]) (hVo.mono (by omega)) (fun i hi => by have := heo i (by rw [← hst.len]; exact hi); omega) m2 i1 i2
    have e1 : (leB 0 (n : Int) && (leB (n : Int) n && (leB (n : Int) 9223372036854775807 && leB ((n : Int) * 24) 140737488355328))) = true := by
      simp only [Bool.and_eq_true, decide_eq_true_eq]; omega
    rw [nc0] at hr i3
    rw [r3_0, show ltB (k : Int) 12 = true by simp only [decide_eq_true_eq]; omega, hps]
    simp only [bnd_some, ctl_true, ctl_false, ctl_and, ctl_or', ctl_or2, x_toPV, x_toCs, x_toCs2, x_toEs, x_bEs, x_bCs, x_aPV, x_aCs, x_int, x_bool, x_str, x_es, x_esn, nth_0, nth_1, nth_2, nth_3, nth_4, nth_5, nth_6, nth_7, nth_8, nth_9, y_nil, y_int, y_bool, y_str, y_sl, y_nils, y_agg, y_ownp, y_own, z_nil, z_int, z_bool, z_str, z_sl, z_nils, b_nil, b_arr, b_box1, b_box2, b_box3, b_box4, List.map_cons, List.map_nil, Bool.and_self, Bool.and_true, Bool.true_and, Bool.not_true, Bool.not_false, Bool.or_false, Bool.false_or, cond_true, cond_false, okPack, okPut, okPutBlks, okPutCells, q_isP, q_isAg, q_isBox, q_isArr, q_int, q_bool, q_str, q_sl, q_nils, e_exit, e_ret, e_nrm, e_ret_exit, e_exit_ret, e_nrm_exit, e_nrm_ret, e_exit_nrm, e_ret_nrm, Nat.zero_add, Nat.reduceAdd, noslR, noslP, noslB, noslA, List.all_cons, List.all_nil]
    rw [e1, ctl_true, Int.toNat_natCast, tabR_new, tabR_length, List.length_replicate, hr]
    simp only [bnd_some, ctl_true, ctl_false, ctl_and, ctl_or', ctl_or2, x_toPV, x_toCs, x_toCs2, x_toEs, x_bEs, x_bCs, x_aPV, x_aCs, x_int, x_bool, x_str, x_es, x_esn, nth_0, nth_1, nth_2, nth_3, nth_4, nth_5, nth_6, nth_7, nth_8, nth_9, y_nil, y_int, y_bool, y_str, y_sl, y_nils, y_agg, y_ownp, y_own, z_nil, z_int, z_bool, z_str, z_sl, z_nils, b_nil, b_arr, b_box1, b_box2, b_box3, b_box4, List.map_cons, List.map_nil, Bool.and_self, Bool.and_true, Bool.true_and, Bool.not_true, Bool.not_false, Bool.or_false, Bool.false_or, cond_true, cond_false, okPack, okPut, okPutBlks, okPutCells, q_isP, q_isAg, q_isBox, q_isArr, q_int, q_bool, q_str, q_sl, q_nils, e_exit, e_ret, e_nrm, e_ret_exit, e_exit_ret, e_nrm_exit, e_nrm_ret, e_exit_nrm, e_ret_nrm, Nat.zero_add, Nat.reduceAdd, noslR, noslP, noslB, noslA, List.all_cons, List.all_nil, iT_f1, iT_m0, k_kvs]
    rw [tabR_rch, ha]
    simp only [bnd_some, ctl_true, ctl_false, ctl_and, ctl_or', ctl_or2, x_toPV, x_toCs, x_toCs2, x_toEs, x_bEs, x_bCs, x_aPV, x_aCs, x_int, x_bool, x_str, x_es, x_esn, nth_0, nth_1, nth_2, nth_3, nth_4, nth_5, nth_6, nth_7, nth_8, nth_9, y_nil, y_int, y_bool, y_str, y_sl, y_nils, y_agg, y_ownp, y_own, z_nil, z_int, z_bool, z_str, z_sl, z_nils, b_nil, b_arr, b_box1, b_box2, b_box3, b_box4, List.map_cons, List.map_nil, Bool.and_self, Bool.and_true, Bool.true_and, Bool.not_true, Bool.not_false, Bool.or_false, Bool.false_or, cond_true, cond_false, okPack, okPut, okPutBlks, okPutCells, q_isP, q_isAg, q_isBox, q_isArr, q_int, q_bool, q_str, q_sl, q_nils, e_exit, e_ret, e_nrm, e_ret_exit, e_exit_ret, e_nrm_exit, e_nrm_ret, e_exit_nrm, e_ret_nrm, Nat.zero_add, Nat.reduceAdd, noslR, noslP, noslB, noslA, List.all_cons, List.all_nil]
    rw [hN]
    simp only [bnd_some, ctl_true, ctl_false, ctl_and, ctl_or', ctl_or2, x_toPV, x_toCs, x_toCs2, x_toEs, x_bEs, x_bCs, x_aPV, x_aCs, x_int, x_bool, x_str, x_es, x_esn, nth_0, nth_1, nth_2, nth_3, nth_4, nth_5, nth_6, nth_7, nth_8, nth_9, y_nil, y_int, y_bool, y_str, y_sl, y_nils, y_agg, y_ownp, y_own, z_nil, z_int, z_bool, z_str, z_sl, z_nils, b_nil, b_arr, b_box1, b_box2, b_box3, b_box4, List.map_cons, List.map_nil, Bool.and_self, Bool.and_true, Bool.true_and, Bool.not_true, Bool.not_false, Bool.or_false, Bool.false_or, cond_true, cond_false, okPack, okPut, okPutBlks, okPutCells, q_isP, q_isAg, q_isBox, q_isArr, q_int, q_bool, q_str, q_sl, q_nils, e_exit, e_ret, e_nrm, e_ret_exit, e_exit_ret, e_nrm_exit, e_nrm_ret, e_exit_nrm, e_ret_nrm, Nat.zero_add, Nat.reduceAdd, noslR, noslP, noslB, noslA, List.all_cons, List.all_nil]
    rw [w64 (n := 1 + vN L (_root_.Go.Proofs.Ytcgpckiieocdbaa.Vm.at' L q1) 2) (by omega), c_Tick hVa hS (by omega) (by omega), ho]
    simp only [bnd_some, ctl_true, ctl_false, ctl_and, ctl_or', ctl_or2, x_toPV, x_toCs, x_toCs2, x_toEs, x_bEs, x_bCs, x_aPV, x_aCs, x_int, x_bool, x_str, x_es, x_esn, nth_0, nth_1, nth_2, nth_3, nth_4, nth_5, nth_6, nth_7, nth_8, nth_9, y_nil, y_int, y_bool, y_str, y_sl, y_nils, y_agg, y_ownp, y_own, z_nil, z_int, z_bool, z_str, z_sl, z_nils, b_nil, b_arr, b_box1, b_box2, b_box3, b_box4, List.map_cons, List.map_nil, Bool.and_self, Bool.and_true, Bool.true_and, Bool.not_true, Bool.not_false, Bool.or_false, Bool.false_or, cond_true, cond_false, okPack, okPut, okPutBlks, okPutCells, q_isP, q_isAg, q_isBox, q_isArr, q_int, q_bool, q_str, q_sl, q_nils, e_exit, e_ret, e_nrm, e_ret_exit, e_exit_ret, e_nrm_exit, e_nrm_ret, e_exit_nrm, e_ret_nrm, Nat.zero_add, Nat.reduceAdd, noslR, noslP, noslB, noslA, List.all_cons, List.all_nil]
    rw [show ((0 : Int) != 0) = false from rfl, ctrs_length, ctl_false, i3]
    simp only [bnd_some, ctl_true, ctl_false, ctl_and, ctl_or', ctl_or2, x_toPV, x_toCs, x_toCs2, x_toEs, x_bEs, x_bCs, x_aPV, x_aCs, x_int, x_bool, x_str, x_es, x_esn, nth_0, nth_1, nth_2, nth_3, nth_4, nth_5, nth_6, nth_7, nth_8, nth_9, y_nil, y_int, y_bool, y_str, y_sl, y_nils, y_agg, y_ownp, y_own, z_nil, z_int, z_bool, z_str, z_sl, z_nils, b_nil, b_arr, b_box1, b_box2, b_box3, b_box4, List.map_cons, List.map_nil, Bool.and_self, Bool.and_true, Bool.true_and, Bool.not_true, Bool.not_false, Bool.or_false, Bool.false_or, cond_true, cond_false, okPack, okPut, okPutBlks, okPutCells, q_isP, q_isAg, q_isBox, q_isArr, q_int, q_bool, q_str, q_sl, q_nils, e_exit, e_ret, e_nrm, e_ret_exit, e_exit_ret, e_nrm_exit, e_nrm_ret, e_exit_nrm, e_ret_nrm, Nat.zero_add, Nat.reduceAdd, noslR, noslP, noslB, noslA, List.all_cons, List.all_nil, iT_f1, iT_m0, k_kvs]
    rw [w64 (n := (k : Int) + 1) (by omega), succ_cast]
    exact h

theorem c_awake : denC E 4 [] [] = some ([RV.p (PV.bool true)], []) := by
  rw [denC_eq, r4, c_Fence (by omega) (by omega), if_neg (by omega)]
  simp only [bnd_some, ctl_true, ctl_false, ctl_and, ctl_or', ctl_or2, x_toPV, x_toCs, x_toCs2, x_toEs, x_bEs, x_bCs, x_aPV, x_aCs, x_int, x_bool, x_str, x_es, x_esn, nth_0, nth_1, nth_2, nth_3, nth_4, nth_5, nth_6, nth_7, nth_8, nth_9, y_nil, y_int, y_bool, y_str, y_sl, y_nils, y_agg, y_ownp, y_own, z_nil, z_int, z_bool, z_str, z_sl, z_nils, b_nil, b_arr, b_box1, b_box2, b_box3, b_box4, List.map_cons, List.map_nil, Bool.and_self, Bool.and_true, Bool.true_and, Bool.not_true, Bool.not_false, Bool.or_false, Bool.false_or, cond_true, cond_false, okPack, okPut, okPutBlks, okPutCells, q_isP, q_isAg, q_isBox, q_isArr, q_int, q_bool, q_str, q_sl, q_nils, e_exit, e_ret, e_nrm, e_ret_exit, e_exit_ret, e_nrm_exit, e_nrm_ret, e_exit_nrm, e_ret_nrm, Nat.zero_add, Nat.reduceAdd, noslR, noslP, noslB, noslA, List.all_cons, List.all_nil]
  rfl

theorem d_TopCommands (t : List Int) (_ : t.length ≤ maxLen) (_ : ∀ n ∈ t, -9223372036854775808 ≤ n ∧ n ≤ 9223372036854775807) :
    denC E 3 [AV.sl 1 (intsK .i64 t)] [] = some ([RV.p (PV.bool true)], []) := by
  rw [denC_eq, r3, c_awake, intsK_length, ctl_dec]
  by_cases h : 600 < (t.length : Int)
  · rw [if_pos h]
    simp only [bnd_some, ctl_true, ctl_false, ctl_and, ctl_or', ctl_or2, x_toPV, x_toCs, x_toCs2, x_toEs, x_bEs, x_bCs, x_aPV, x_aCs, x_int, x_bool, x_str, x_es, x_esn, nth_0, nth_1, nth_2, nth_3, nth_4, nth_5, nth_6, nth_7, nth_8, nth_9, y_nil, y_int, y_bool, y_str, y_sl, y_nils, y_agg, y_ownp, y_own, z_nil, z_int, z_bool, z_str, z_sl, z_nils, b_nil, b_arr, b_box1, b_box2, b_box3, b_box4, List.map_cons, List.map_nil, Bool.and_self, Bool.and_true, Bool.true_and, Bool.not_true, Bool.not_false, Bool.or_false, Bool.false_or, cond_true, cond_false, okPack, okPut, okPutBlks, okPutCells, q_isP, q_isAg, q_isBox, q_isArr, q_int, q_bool, q_str, q_sl, q_nils, e_exit, e_ret, e_nrm, e_ret_exit, e_exit_ret, e_nrm_exit, e_nrm_ret, e_exit_nrm, e_ret_nrm, Nat.zero_add, Nat.reduceAdd, noslR, noslP, noslB, noslA, List.all_cons, List.all_nil]
  · have hL : (t.take 600).length ≤ 600 := by rw [List.length_take]; omega
    obtain ⟨n, cs, q, hq, hn, hcs, hok, hnet⟩ := c_Net (L := t.take 600) (q := 0) hL (by omega)
    have hN := c_N hL hq (n : Int) (by omega)
    have hNb := vN_bounds (L := t.take 600) (k := q) (n := (n : Int)) (by omega)
    obtain ⟨at', hat⟩ : ∃ at' : Nat, vN (t.take 600) q n = at' := ⟨(vN (t.take 600) q n).toNat, by omega⟩
    rw [hat] at hN hNb
    rw [if_neg h, c_New]
    simp only [bnd_some, ctl_true, ctl_false, ctl_and, ctl_or', ctl_or2, x_toPV, x_toCs, x_toCs2, x_toEs, x_bEs, x_bCs, x_aPV, x_aCs, x_int, x_bool, x_str, x_es, x_esn, nth_0, nth_1, nth_2, nth_3, nth_4, nth_5, nth_6, nth_7, nth_8, nth_9, y_nil, y_int, y_bool, y_str, y_sl, y_nils, y_agg, y_ownp, y_own, z_nil, z_int, z_bool, z_str, z_sl, z_nils, b_nil, b_arr, b_box1, b_box2, b_box3, b_box4, List.map_cons, List.map_nil, Bool.and_self, Bool.and_true, Bool.true_and, Bool.not_true, Bool.not_false, Bool.or_false, Bool.false_or, cond_true, cond_false, okPack, okPut, okPutBlks, okPutCells, q_isP, q_isAg, q_isBox, q_isArr, q_int, q_bool, q_str, q_sl, q_nils, e_exit, e_ret, e_nrm, e_ret_exit, e_exit_ret, e_nrm_exit, e_nrm_ret, e_exit_nrm, e_ret_nrm, Nat.zero_add, Nat.reduceAdd, noslR, noslP, noslB, noslA, List.all_cons, List.all_nil]
    rw [src_zero, hnet]
    simp only [bnd_some, ctl_true, ctl_false, ctl_and, ctl_or', ctl_or2, x_toPV, x_toCs, x_toCs2, x_toEs, x_bEs, x_bCs, x_aPV, x_aCs, x_int, x_bool, x_str, x_es, x_esn, nth_0, nth_1, nth_2, nth_3, nth_4, nth_5, nth_6, nth_7, nth_8, nth_9, y_nil, y_int, y_bool, y_str, y_sl, y_nils, y_agg, y_ownp, y_own, z_nil, z_int, z_bool, z_str, z_sl, z_nils, b_nil, b_arr, b_box1, b_box2, b_box3, b_box4, List.map_cons, List.map_nil, Bool.and_self, Bool.and_true, Bool.true_and, Bool.not_true, Bool.not_false, Bool.or_false, Bool.false_or, cond_true, cond_false, okPack, okPut, okPutBlks, okPutCells, q_isP, q_isAg, q_isBox, q_isArr, q_int, q_bool, q_str, q_sl, q_nils, e_exit, e_ret, e_nrm, e_ret_exit, e_exit_ret, e_nrm_exit, e_nrm_ret, e_exit_nrm, e_ret_nrm, Nat.zero_add, Nat.reduceAdd, noslR, noslP, noslB, noslA, List.all_cons, List.all_nil]
    rw [c_FNew (by omega)]
    simp only [bnd_some, ctl_true, ctl_false, ctl_and, ctl_or', ctl_or2, x_toPV, x_toCs, x_toCs2, x_toEs, x_bEs, x_bCs, x_aPV, x_aCs, x_int, x_bool, x_str, x_es, x_esn, nth_0, nth_1, nth_2, nth_3, nth_4, nth_5, nth_6, nth_7, nth_8, nth_9, y_nil, y_int, y_bool, y_str, y_sl, y_nils, y_agg, y_ownp, y_own, z_nil, z_int, z_bool, z_str, z_sl, z_nils, b_nil, b_arr, b_box1, b_box2, b_box3, b_box4, List.map_cons, List.map_nil, Bool.and_self, Bool.and_true, Bool.true_and, Bool.not_true, Bool.not_false, Bool.or_false, Bool.false_or, cond_true, cond_false, okPack, okPut, okPutBlks, okPutCells, q_isP, q_isAg, q_isBox, q_isArr, q_int, q_bool, q_str, q_sl, q_nils, e_exit, e_ret, e_nrm, e_ret_exit, e_exit_ret, e_nrm_exit, e_nrm_ret, e_exit_nrm, e_ret_nrm, Nat.zero_add, Nat.reduceAdd, noslR, noslP, noslB, noslA, List.all_cons, List.all_nil]
    have hlen : (new n).length = n := by simp [new]
    have hg : ∀ j, gt (new n) j = ⟨0, 0, 0⟩ := fun j => by
      unfold gt new
      simp only [List.getD, List.getElem?_replicate]
      split <;> rfl
    have hV : Val (new n) ((0 : Nat) : Int) := ⟨by omega, by omega, fun i _ => by rw [hg]; exact ⟨by simp, by simp, by simp⟩⟩
    have hI : Inv (new n) 0 := by
      refine ⟨Int.le_refl _, ?_, fun i _ h => ?_, fun i j _ _ _ h => ?_⟩
      · have : cnt (new n) 0 = List.range' 0 n := by
          unfold cnt
          rw [hlen, List.filter_eq_self]
          intro k _
          rw [hg]; rfl
        rw [this]
        unfold maj
        rw [hlen]
        simp
        omega
      · rw [hg] at h; exact absurd h (by decide)
      · rw [hg] at h; exact absurd h (by decide)
    have hlp := cmd_out hL hn (cs := cs) (by omega) hok (at' := at') (by omega) 12 0 (new n) 0 0 [] (_root_.Go.Proofs.Ytcgpckiieocdbaa.Vm.at' (t.take 600) q) (at'_le hL hq) rfl hlen hV (fun i _ => by rw [hg]; simp) hI (by omega)
      ⟨fun x hx => (by cases hx), fun x => ⟨0, rfl⟩, fun j _ _ hx => (by cases hx)⟩
    rw [nc0] at hlp
    rw [show ((0 : Int) != 0) = false from rfl, ctl_false, hN]
    simp only [bnd_some, ctl_true, ctl_false, ctl_and, ctl_or', ctl_or2, x_toPV, x_toCs, x_toCs2, x_toEs, x_bEs, x_bCs, x_aPV, x_aCs, x_int, x_bool, x_str, x_es, x_esn, nth_0, nth_1, nth_2, nth_3, nth_4, nth_5, nth_6, nth_7, nth_8, nth_9, y_nil, y_int, y_bool, y_str, y_sl, y_nils, y_agg, y_ownp, y_own, z_nil, z_int, z_bool, z_str, z_sl, z_nils, b_nil, b_arr, b_box1, b_box2, b_box3, b_box4, List.map_cons, List.map_nil, Bool.and_self, Bool.and_true, Bool.true_and, Bool.not_true, Bool.not_false, Bool.or_false, Bool.false_or, cond_true, cond_false, okPack, okPut, okPutBlks, okPutCells, q_isP, q_isAg, q_isBox, q_isArr, q_int, q_bool, q_str, q_sl, q_nils, e_exit, e_ret, e_nrm, e_ret_exit, e_exit_ret, e_nrm_exit, e_nrm_ret, e_exit_nrm, e_ret_nrm, Nat.zero_add, Nat.reduceAdd, noslR, noslP, noslB, noslA, List.all_cons, List.all_nil]
    rw [hlp]
    simp only [bnd_some, ctl_true, ctl_false, ctl_and, ctl_or', ctl_or2, x_toPV, x_toCs, x_toCs2, x_toEs, x_bEs, x_bCs, x_aPV, x_aCs, x_int, x_bool, x_str, x_es, x_esn, nth_0, nth_1, nth_2, nth_3, nth_4, nth_5, nth_6, nth_7, nth_8, nth_9, y_nil, y_int, y_bool, y_str, y_sl, y_nils, y_agg, y_ownp, y_own, z_nil, z_int, z_bool, z_str, z_sl, z_nils, b_nil, b_arr, b_box1, b_box2, b_box3, b_box4, List.map_cons, List.map_nil, Bool.and_self, Bool.and_true, Bool.true_and, Bool.not_true, Bool.not_false, Bool.or_false, Bool.false_or, cond_true, cond_false, okPack, okPut, okPutBlks, okPutCells, q_isP, q_isAg, q_isBox, q_isArr, q_int, q_bool, q_str, q_sl, q_nils, e_exit, e_ret, e_nrm, e_ret_exit, e_exit_ret, e_nrm_exit, e_nrm_ret, e_exit_nrm, e_ret_nrm, Nat.zero_add, Nat.reduceAdd, noslR, noslP, noslB, noslA, List.all_cons, List.all_nil]

end Go.Proofs.Ytcgpckiieocdbaa.Vm
