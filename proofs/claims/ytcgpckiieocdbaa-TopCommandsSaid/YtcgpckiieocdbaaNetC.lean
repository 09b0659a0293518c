/- TopCommands: contracts of the nets: Some, Net, Cables, Check, right, whole, Reach, Copies. -/
import Derived.Test.YtcgpckiieocdbaaFoN
namespace Go.Proofs.Ytcgpckiieocdbaa.Vm
set_option linter.unusedVariables false
set_option linter.unusedSimpArgs false

abbrev Cb := Int × Int × Int
theorem spanK_len (l : List Cb) : (spanK l).length = l.length := by simp [spanK]
theorem spanK_app (l : List Cb) (x : Cb) : spanK l ++ [[PV.int .i64 x.1, PV.int .i64 x.2.1, PV.int .i64 x.2.2]] = spanK (l ++ [x]) := by simp [spanK]
theorem getE_spanK {α : Type} {L : List Cb} {i : Nat} (hi : i < L.length) (K : List PV → Option α) : getE (spanK L) (i : Int) K = K [PV.int .i64 (L.getD i (0, 0, 0)).1, PV.int .i64 (L.getD i (0, 0, 0)).2.1, PV.int .i64 (L.getD i (0, 0, 0)).2.2] := getE_map (fun x : Cb => [PV.int .i64 x.1, PV.int .i64 x.2.1, PV.int .i64 x.2.2]) (0, 0, 0) hi K
theorem spansE_K' : ∀ l : List Cb, spansE (spanK l) = some l
  | [] => rfl
  | x :: l => by
    have h := spansE_K' l
    show (match spanE [PV.int .i64 x.1, PV.int .i64 x.2.1, PV.int .i64 x.2.2], spansE (spanK l) with | some x, some r => some (x :: r) | _, _ => none) = _
    rw [h]
    rfl
abbrev netA (n : Int) (l : List Cb) : AV := AV.agg [PV.int .i64 n, PV.sl 3 (spanK l)]
/-- The ends of a cable are nodes. -/
def okCb (n : Int) (x : Cb) : Prop := (0 ≤ x.2.1 ∧ x.2.1 < n) ∧ (0 ≤ x.2.2 ∧ x.2.2 < n)

theorem iT_n (sz : Nat) (h : Nat.blt sz 1000000 = true) (es : List (List PV)) : isArrT sz (.arr sz es) = true := by
  unfold isArrT
  rw [h]
  simp [isArr]

theorem some_loop {L : List Int} (hL : L.length ≤ 600) {n : Nat} {k : Int} (hk : 1 ≤ k ∧ k ≤ 1000) (hn : n ≤ 1000) : ∀ (m i q : Nat) (out : List Int), q ≤ 600 → i + m = n → out.length ≤ i →
    ∃ o q', q' ≤ 600 ∧ o.length ≤ n ∧ lp E (denC E) 16 1 [] 0 { vals := [AV.int .i64 n, AV.int .i64 k, AV.int .i64 i], blks := [src L q, Blk.arr 1 (intsK .i64 out)] } =
      some (Ex.exit 0, { vals := [], blks := [src L q', Blk.arr 1 (intsK .i64 o)] }) := by
  intro m
  induction m with
  | zero =>
    intro i q out hq hi ho
    rw [r16_0, ctl_dec, if_neg (by omega)]
    exact ⟨out, q, hq, by omega, rfl⟩
  | succ m ih =>
    intro i q out hq hi ho
    have e3 : leN (((intsK .i64 out).length + 1) * 8) 140737488355328 = true := by rw [intsK_length]; simp only [decide_eq_true_eq]; omega
    have e4 : intsK .i64 out ++ [[PV.int .i64 (i : Int)]] = intsK .i64 (out ++ [(i : Int)]) := by simp [intsK]
    obtain ⟨o1, q1, h1, h2, h3⟩ := ih (i + 1) (at' L q) (out ++ [(i : Int)]) (at'_le hL hq) (by omega) (by simp; omega)
    obtain ⟨o2, q2, g1, g2, g3⟩ := ih (i + 1) (at' L q) out (at'_le hL hq) (by omega) (by omega)
    cases hb : (vN L q k == k - 1) with
    | true =>
      refine ⟨o1, q1, h1, h2, ?_⟩
      rw [r16_0, ctl_dec, if_pos (by omega), c_N hL hq k (by omega)]
      simp only [bnd_some, ctl_true, ctl_false, ctl_and, ctl_or', ctl_or2, x_toPV, x_toCs, x_toCs2, x_toEs, x_bEs, x_bCs, x_aPV, x_aCs, x_int, x_bool, x_str, x_es, x_esn, nth_0, nth_1, nth_2, nth_3, nth_4, nth_5, nth_6, nth_7, nth_8, nth_9, y_nil, y_int, y_bool, y_str, y_sl, y_nils, y_agg, y_ownp, y_own, z_nil, z_int, z_bool, z_str, z_sl, z_nils, b_nil, b_arr, b_box1, b_box2, b_box3, b_box4, List.map_cons, List.map_nil, Bool.and_self, Bool.and_true, Bool.true_and, Bool.not_true, Bool.not_false, Bool.or_false, Bool.false_or, cond_true, cond_false, okPack, okPut, okPutBlks, okPutCells, q_isP, q_isAg, q_isBox, q_isArr, q_int, q_bool, q_str, q_sl, q_nils, e_exit, e_ret, e_nrm, e_ret_exit, e_exit_ret, e_nrm_exit, e_nrm_ret, e_exit_nrm, e_ret_nrm, Nat.zero_add, Nat.reduceAdd, noslR, noslP, noslB, noslA, List.all_cons, List.all_nil]
      rw [w64 (n := k - 1) (by omega), hb, e3, e4, w64 (n := (i : Int) + 1) (by omega), succ_cast]
      exact h3
    | false =>
      refine ⟨o2, q2, g1, g2, ?_⟩
      rw [r16_0, ctl_dec, if_pos (by omega), c_N hL hq k (by omega)]
      simp only [bnd_some, ctl_true, ctl_false, ctl_and, ctl_or', ctl_or2, x_toPV, x_toCs, x_toCs2, x_toEs, x_bEs, x_bCs, x_aPV, x_aCs, x_int, x_bool, x_str, x_es, x_esn, nth_0, nth_1, nth_2, nth_3, nth_4, nth_5, nth_6, nth_7, nth_8, nth_9, y_nil, y_int, y_bool, y_str, y_sl, y_nils, y_agg, y_ownp, y_own, z_nil, z_int, z_bool, z_str, z_sl, z_nils, b_nil, b_arr, b_box1, b_box2, b_box3, b_box4, List.map_cons, List.map_nil, Bool.and_self, Bool.and_true, Bool.true_and, Bool.not_true, Bool.not_false, Bool.or_false, Bool.false_or, cond_true, cond_false, okPack, okPut, okPutBlks, okPutCells, q_isP, q_isAg, q_isBox, q_isArr, q_int, q_bool, q_str, q_sl, q_nils, e_exit, e_ret, e_nrm, e_ret_exit, e_exit_ret, e_nrm_exit, e_nrm_ret, e_exit_nrm, e_ret_nrm, Nat.zero_add, Nat.reduceAdd, noslR, noslP, noslB, noslA, List.all_cons, List.all_nil]
      rw [w64 (n := k - 1) (by omega), hb, w64 (n := (i : Int) + 1) (by omega), succ_cast]
      exact g3

theorem c_Some {L : List Int} {q : Nat} (hL : L.length ≤ 600) (hq : q ≤ 600) {n : Nat} {k : Int} (hk : 1 ≤ k ∧ k ≤ 1000) (hn : n ≤ 1000) : ∃ o q', q' ≤ 600 ∧ o.length ≤ n ∧
    denC E 16 [AV.t (.ptr 0 0), AV.int .i64 (n : Int), AV.int .i64 k] [src L q] = some ([RV.p (PV.sl 1 (intsK .i64 o))], [src L q']) := by
  obtain ⟨o, q', h1, h2, h⟩ := some_loop hL hk hn n 0 q [] hq (by omega) (by simp)
  refine ⟨o, q', h1, h2, ?_⟩
  have e0 : intsK .i64 [] = [] := rfl
  rw [nc0, e0] at h
  rw [denC_eq, r16, h]
  simp only [bnd_some, ctl_true, ctl_false, ctl_and, ctl_or', ctl_or2, x_toPV, x_toCs, x_toCs2, x_toEs, x_bEs, x_bCs, x_aPV, x_aCs, x_int, x_bool, x_str, x_es, x_esn, nth_0, nth_1, nth_2, nth_3, nth_4, nth_5, nth_6, nth_7, nth_8, nth_9, y_nil, y_int, y_bool, y_str, y_sl, y_nils, y_agg, y_ownp, y_own, z_nil, z_int, z_bool, z_str, z_sl, z_nils, b_nil, b_arr, b_box1, b_box2, b_box3, b_box4, List.map_cons, List.map_nil, Bool.and_self, Bool.and_true, Bool.true_and, Bool.not_true, Bool.not_false, Bool.or_false, Bool.false_or, cond_true, cond_false, okPack, okPut, okPutBlks, okPutCells, q_isP, q_isAg, q_isBox, q_isArr, q_int, q_bool, q_str, q_sl, q_nils, e_exit, e_ret, e_nrm, e_ret_exit, e_exit_ret, e_nrm_exit, e_nrm_ret, e_exit_nrm, e_ret_nrm, Nat.zero_add, Nat.reduceAdd, noslR, noslP, noslB, noslA, List.all_cons, List.all_nil, iT_n _ (rfl : Nat.blt 1 1000000 = true), iT_n _ (rfl : Nat.blt 2 1000000 = true), iT_n _ (rfl : Nat.blt 3 1000000 = true)]

abbrev bxN (n : Int) : Blk := Blk.box [AV.int .i64 n, AV.t (.hsl 3)]
abbrev bx0 : Blk := Blk.box [AV.int .i64 0, AV.sl 3 []]
theorem net_4 {L : List Int} (hL : L.length ≤ 600) {n : Nat} (hn : n ≤ 5) {k a : Nat} (ha : a < n) : ∀ (m b q : Nat) (l : List Cb), q ≤ 600 → b + m = n → l.length + m ≤ 100 → (∀ x ∈ l, okCb n x) →
    ∃ l' q', q' ≤ 600 ∧ l'.length ≤ l.length + m ∧ (∀ x ∈ l', okCb n x) ∧ lp E (denC E) 6 1 [] 4 { vals := [AV.int .i64 k, AV.int .i64 a, AV.int .i64 b], blks := [src L q, bx0, bxN n, Blk.arr 3 (spanK l)] } =
      some (Ex.exit 4, { vals := [AV.int .i64 k, AV.int .i64 a], blks := [src L q', bx0, bxN n, Blk.arr 3 (spanK l')] }) := by
  intro m
  induction m with
  | zero =>
    intro b q l hq hb hl hx
    rw [r6_4, ctl_dec, if_neg (by omega)]
    exact ⟨l, q, hq, by omega, hx, rfl⟩
  | succ m ih =>
    intro b q l hq hb hl hx
    have e3 : leN (((spanK l).length + 1) * 24) 140737488355328 = true := by rw [spanK_len]; simp only [decide_eq_true_eq]; omega
    obtain ⟨o1, q1, h1, h2, h3, h4⟩ := ih (b + 1) (at' L q) (l ++ [((k : Int), (a : Int), (b : Int))]) (at'_le hL hq) (by omega) (by simp; omega) (fun x h => by
      rcases List.mem_append.1 h with h | h
      · exact hx x h
      · rw [List.mem_singleton] at h
        rw [h]
        refine ⟨⟨?_, ?_⟩, ?_, ?_⟩ <;> simp only <;> omega)
    obtain ⟨o2, q2, g1, g2, g3, g4⟩ := ih (b + 1) (at' L q) l (at'_le hL hq) (by omega) (by omega) hx
    have e4 := spanK_app l ((k : Int), (a : Int), (b : Int))
    dsimp only at e4
    cases hb2 : (vN L q 2 == 1) with
    | true =>
      refine ⟨o1, q1, h1, by simp at h2; omega, h3, ?_⟩
      rw [r6_4, ctl_dec, if_pos (by omega), c_N hL hq 2 (by omega)]
      simp only [bnd_some, ctl_true, ctl_false, ctl_and, ctl_or', ctl_or2, x_toPV, x_toCs, x_toCs2, x_toEs, x_bEs, x_bCs, x_aPV, x_aCs, x_int, x_bool, x_str, x_es, x_esn, nth_0, nth_1, nth_2, nth_3, nth_4, nth_5, nth_6, nth_7, nth_8, nth_9, y_nil, y_int, y_bool, y_str, y_sl, y_nils, y_agg, y_ownp, y_own, z_nil, z_int, z_bool, z_str, z_sl, z_nils, b_nil, b_arr, b_box1, b_box2, b_box3, b_box4, List.map_cons, List.map_nil, Bool.and_self, Bool.and_true, Bool.true_and, Bool.not_true, Bool.not_false, Bool.or_false, Bool.false_or, cond_true, cond_false, okPack, okPut, okPutBlks, okPutCells, q_isP, q_isAg, q_isBox, q_isArr, q_int, q_bool, q_str, q_sl, q_nils, e_exit, e_ret, e_nrm, e_ret_exit, e_exit_ret, e_nrm_exit, e_nrm_ret, e_exit_nrm, e_ret_nrm, Nat.zero_add, Nat.reduceAdd, noslR, noslP, noslB, noslA, List.all_cons, List.all_nil]
      rw [hb2, e3, e4, w64 (n := (b : Int) + 1) (by omega), succ_cast]
      exact h4
    | false =>
      refine ⟨o2, q2, g1, by omega, g3, ?_⟩
      rw [r6_4, ctl_dec, if_pos (by omega), c_N hL hq 2 (by omega)]
      simp only [bnd_some, ctl_true, ctl_false, ctl_and, ctl_or', ctl_or2, x_toPV, x_toCs, x_toCs2, x_toEs, x_bEs, x_bCs, x_aPV, x_aCs, x_int, x_bool, x_str, x_es, x_esn, nth_0, nth_1, nth_2, nth_3, nth_4, nth_5, nth_6, nth_7, nth_8, nth_9, y_nil, y_int, y_bool, y_str, y_sl, y_nils, y_agg, y_ownp, y_own, z_nil, z_int, z_bool, z_str, z_sl, z_nils, b_nil, b_arr, b_box1, b_box2, b_box3, b_box4, List.map_cons, List.map_nil, Bool.and_self, Bool.and_true, Bool.true_and, Bool.not_true, Bool.not_false, Bool.or_false, Bool.false_or, cond_true, cond_false, okPack, okPut, okPutBlks, okPutCells, q_isP, q_isAg, q_isBox, q_isArr, q_int, q_bool, q_str, q_sl, q_nils, e_exit, e_ret, e_nrm, e_ret_exit, e_exit_ret, e_nrm_exit, e_nrm_ret, e_exit_nrm, e_ret_nrm, Nat.zero_add, Nat.reduceAdd, noslR, noslP, noslB, noslA, List.all_cons, List.all_nil]
      rw [hb2, w64 (n := (b : Int) + 1) (by omega), succ_cast]
      exact g4

theorem net_2 {L : List Int} (hL : L.length ≤ 600) {n : Nat} (hn : n ≤ 5) {k : Nat} : ∀ (m a q : Nat) (l : List Cb), q ≤ 600 → a + m = n → l.length + m * 5 ≤ 90 → (∀ x ∈ l, okCb n x) →
    ∃ l' q', q' ≤ 600 ∧ l'.length ≤ l.length + m * 5 ∧ (∀ x ∈ l', okCb n x) ∧ lp E (denC E) 6 1 [] 2 { vals := [AV.int .i64 k, AV.int .i64 a], blks := [src L q, bx0, bxN n, Blk.arr 3 (spanK l)] } =
      some (Ex.exit 2, { vals := [AV.int .i64 k], blks := [src L q', bx0, bxN n, Blk.arr 3 (spanK l')] }) := by
  intro m
  induction m with
  | zero =>
    intro a q l hq ha hl hx
    rw [r6_2, ctl_dec, if_neg (by omega)]
    exact ⟨l, q, hq, by omega, hx, rfl⟩
  | succ m ih =>
    intro a q l hq ha hl hx
    obtain ⟨l1, q1, h1, h2, h3, h4⟩ := net_4 hL hn (k := k) (a := a) (by omega) (n - (a + 1)) (a + 1) q l hq (by omega) (by omega) hx
    obtain ⟨o1, q2, g1, g2, g3, g4⟩ := ih (a + 1) q1 l1 h1 (by omega) (by omega) h3
    refine ⟨o1, q2, g1, by omega, g3, ?_⟩
    rw [← succ_cast] at h4
    rw [r6_2, ctl_dec, if_pos (by omega), w64 (n := (a : Int) + 1) (by omega), h4]
    simp only [bnd_some, ctl_true, ctl_false, ctl_and, ctl_or', ctl_or2, x_toPV, x_toCs, x_toCs2, x_toEs, x_bEs, x_bCs, x_aPV, x_aCs, x_int, x_bool, x_str, x_es, x_esn, nth_0, nth_1, nth_2, nth_3, nth_4, nth_5, nth_6, nth_7, nth_8, nth_9, y_nil, y_int, y_bool, y_str, y_sl, y_nils, y_agg, y_ownp, y_own, z_nil, z_int, z_bool, z_str, z_sl, z_nils, b_nil, b_arr, b_box1, b_box2, b_box3, b_box4, List.map_cons, List.map_nil, Bool.and_self, Bool.and_true, Bool.true_and, Bool.not_true, Bool.not_false, Bool.or_false, Bool.false_or, cond_true, cond_false, okPack, okPut, okPutBlks, okPutCells, q_isP, q_isAg, q_isBox, q_isArr, q_int, q_bool, q_str, q_sl, q_nils, e_exit, e_ret, e_nrm, e_ret_exit, e_exit_ret, e_nrm_exit, e_nrm_ret, e_exit_nrm, e_ret_nrm, Nat.zero_add, Nat.reduceAdd, noslR, noslP, noslB, noslA, List.all_cons, List.all_nil]
    rw [w64 (n := (a : Int) + 1) (by omega), succ_cast]
    exact g4

theorem net_0 {L : List Int} (hL : L.length ≤ 600) {n : Nat} (hn : n ≤ 5) : ∀ (m k q : Nat) (l : List Cb), q ≤ 600 → k + m = 2 → l.length + m * 25 ≤ 60 → (∀ x ∈ l, okCb n x) →
    ∃ l' q', q' ≤ 600 ∧ l'.length ≤ l.length + m * 25 ∧ (∀ x ∈ l', okCb n x) ∧ lp E (denC E) 6 1 [] 0 { vals := [AV.int .i64 k], blks := [src L q, bx0, bxN n, Blk.arr 3 (spanK l)] } =
      some (Ex.exit 0, { vals := [], blks := [src L q', bx0, bxN n, Blk.arr 3 (spanK l')] }) := by
  intro m
  induction m with
  | zero =>
    intro k q l hq hk hl hx
    rw [r6_0, ctl_dec, if_neg (by omega)]
    exact ⟨l, q, hq, by omega, hx, rfl⟩
  | succ m ih =>
    intro k q l hq hk hl hx
    obtain ⟨l1, q1, h1, h2, h3, h4⟩ := net_2 hL hn (k := k) n 0 q l hq (by omega) (by omega) hx
    obtain ⟨o1, q2, g1, g2, g3, g4⟩ := ih (k + 1) q1 l1 h1 (by omega) (by omega) h3
    refine ⟨o1, q2, g1, by omega, g3, ?_⟩
    rw [nc0] at h4
    rw [r6_0, ctl_dec, if_pos (by omega), h4]
    simp only [bnd_some, ctl_true, ctl_false, ctl_and, ctl_or', ctl_or2, x_toPV, x_toCs, x_toCs2, x_toEs, x_bEs, x_bCs, x_aPV, x_aCs, x_int, x_bool, x_str, x_es, x_esn, nth_0, nth_1, nth_2, nth_3, nth_4, nth_5, nth_6, nth_7, nth_8, nth_9, y_nil, y_int, y_bool, y_str, y_sl, y_nils, y_agg, y_ownp, y_own, z_nil, z_int, z_bool, z_str, z_sl, z_nils, b_nil, b_arr, b_box1, b_box2, b_box3, b_box4, List.map_cons, List.map_nil, Bool.and_self, Bool.and_true, Bool.true_and, Bool.not_true, Bool.not_false, Bool.or_false, Bool.false_or, cond_true, cond_false, okPack, okPut, okPutBlks, okPutCells, q_isP, q_isAg, q_isBox, q_isArr, q_int, q_bool, q_str, q_sl, q_nils, e_exit, e_ret, e_nrm, e_ret_exit, e_exit_ret, e_nrm_exit, e_nrm_ret, e_exit_nrm, e_ret_nrm, Nat.zero_add, Nat.reduceAdd, noslR, noslP, noslB, noslA, List.all_cons, List.all_nil]
    rw [w64 (n := (k : Int) + 1) (by omega), succ_cast]
    exact g4

theorem c_Net {L : List Int} {q : Nat} (hL : L.length ≤ 600) (hq : q ≤ 600) : ∃ (n : Nat) (l : List Cb) (q' : Nat), q' ≤ 600 ∧ (1 ≤ n ∧ n ≤ 5) ∧ l.length ≤ 50 ∧ (∀ x ∈ l, okCb n x) ∧
    denC E 6 [AV.t (.ptr 0 0)] [src L q] = some ([RV.agg [PV.int .i64 (n : Int), PV.sl 3 (spanK l)]], [src L q']) := by
  have hb := vRange_bounds (L := L) (k := q) (lo := 1) (hi := 5) (by omega)
  have hR := c_Range hL hq (lo := 1) (hi := 5) (by omega)
  obtain ⟨n, hn⟩ : ∃ n : Nat, vRange L q 1 5 = n := ⟨(vRange L q 1 5).toNat, by omega⟩
  rw [hn] at hb hR
  obtain ⟨l, q', h1, h2, h3, h4⟩ := net_0 hL (n := n) (by omega) 2 0 (at' L q) [] (at'_le hL hq) rfl (by simp) (fun x h => by cases h)
  refine ⟨n, l, q', h1, by omega, by simp at h2; omega, h3, ?_⟩
  have e0 : spanK [] = [] := rfl
  rw [nc0, e0] at h4
  rw [denC_eq, r6, hR]
  simp only [bnd_some, ctl_true, ctl_false, ctl_and, ctl_or', ctl_or2, x_toPV, x_toCs, x_toCs2, x_toEs, x_bEs, x_bCs, x_aPV, x_aCs, x_int, x_bool, x_str, x_es, x_esn, nth_0, nth_1, nth_2, nth_3, nth_4, nth_5, nth_6, nth_7, nth_8, nth_9, y_nil, y_int, y_bool, y_str, y_sl, y_nils, y_agg, y_ownp, y_own, z_nil, z_int, z_bool, z_str, z_sl, z_nils, b_nil, b_arr, b_box1, b_box2, b_box3, b_box4, List.map_cons, List.map_nil, Bool.and_self, Bool.and_true, Bool.true_and, Bool.not_true, Bool.not_false, Bool.or_false, Bool.false_or, cond_true, cond_false, okPack, okPut, okPutBlks, okPutCells, q_isP, q_isAg, q_isBox, q_isArr, q_int, q_bool, q_str, q_sl, q_nils, e_exit, e_ret, e_nrm, e_ret_exit, e_exit_ret, e_nrm_exit, e_nrm_ret, e_exit_nrm, e_ret_nrm, Nat.zero_add, Nat.reduceAdd, noslR, noslP, noslB, noslA, List.all_cons, List.all_nil]
  rw [h4]
  simp only [bnd_some, ctl_true, ctl_false, ctl_and, ctl_or', ctl_or2, x_toPV, x_toCs, x_toCs2, x_toEs, x_bEs, x_bCs, x_aPV, x_aCs, x_int, x_bool, x_str, x_es, x_esn, nth_0, nth_1, nth_2, nth_3, nth_4, nth_5, nth_6, nth_7, nth_8, nth_9, y_nil, y_int, y_bool, y_str, y_sl, y_nils, y_agg, y_ownp, y_own, z_nil, z_int, z_bool, z_str, z_sl, z_nils, b_nil, b_arr, b_box1, b_box2, b_box3, b_box4, List.map_cons, List.map_nil, Bool.and_self, Bool.and_true, Bool.true_and, Bool.not_true, Bool.not_false, Bool.or_false, Bool.false_or, cond_true, cond_false, okPack, okPut, okPutBlks, okPutCells, q_isP, q_isAg, q_isBox, q_isArr, q_int, q_bool, q_str, q_sl, q_nils, e_exit, e_ret, e_nrm, e_ret_exit, e_exit_ret, e_nrm_exit, e_nrm_ret, e_exit_nrm, e_ret_nrm, Nat.zero_add, Nat.reduceAdd, noslR, noslP, noslB, noslA, List.all_cons, List.all_nil, iT_n _ (rfl : Nat.blt 1 1000000 = true), iT_n _ (rfl : Nat.blt 2 1000000 = true), iT_n _ (rfl : Nat.blt 3 1000000 = true)]

abbrev prts (l : List Int) : List (List PV) := l.map fun k => [PV.int .i64 8, PV.int .i64 k]
theorem cables_loop {L : List Int} {q : Nat} {o : List Int} (ho : o.length ≤ 1000) : ∀ (m i : Nat) (out : List Int), i + m = o.length → out.length = i →
    ∃ ps, ps.length = o.length ∧ lp E (denC E) 9 1 [] 0 { vals := [AV.sl 1 (intsK .i64 o), AV.int .i64 o.length, AV.int .i64 i], blks := [src L q, Blk.arr 2 (prts out)] } =
      some (Ex.exit 0, { vals := [], blks := [src L q, Blk.arr 2 (prts ps)] }) := by
  intro m
  induction m with
  | zero =>
    intro i out hi hl
    rw [r9_0, ctl_dec, if_neg (by omega)]
    exact ⟨out, by omega, rfl⟩
  | succ m ih =>
    intro i out hi hl
    have e3 : leN (((prts out).length + 1) * 16) 140737488355328 = true := by rw [List.length_map]; simp only [decide_eq_true_eq]; omega
    obtain ⟨ps, h1, h2⟩ := ih (i + 1) (out ++ [o.getD i 0]) (by omega) (by simp; omega)
    have e4 : prts out ++ [[PV.int .i64 8, PV.int .i64 (o.getD i 0)]] = prts (out ++ [o.getD i 0]) := by simp
    refine ⟨ps, h1, ?_⟩
    rw [r9_0, ctl_dec, if_pos (by omega), getE_ints (by omega)]
    simp only [bnd_some, ctl_true, ctl_false, ctl_and, ctl_or', ctl_or2, x_toPV, x_toCs, x_toCs2, x_toEs, x_bEs, x_bCs, x_aPV, x_aCs, x_int, x_bool, x_str, x_es, x_esn, nth_0, nth_1, nth_2, nth_3, nth_4, nth_5, nth_6, nth_7, nth_8, nth_9, y_nil, y_int, y_bool, y_str, y_sl, y_nils, y_agg, y_ownp, y_own, z_nil, z_int, z_bool, z_str, z_sl, z_nils, b_nil, b_arr, b_box1, b_box2, b_box3, b_box4, List.map_cons, List.map_nil, Bool.and_self, Bool.and_true, Bool.true_and, Bool.not_true, Bool.not_false, Bool.or_false, Bool.false_or, cond_true, cond_false, okPack, okPut, okPutBlks, okPutCells, q_isP, q_isAg, q_isBox, q_isArr, q_int, q_bool, q_str, q_sl, q_nils, e_exit, e_ret, e_nrm, e_ret_exit, e_exit_ret, e_nrm_exit, e_nrm_ret, e_exit_nrm, e_ret_nrm, Nat.zero_add, Nat.reduceAdd, noslR, noslP, noslB, noslA, List.all_cons, List.all_nil, Int.toNat_natCast]
    rw [e3, e4, w64 (n := (i : Int) + 1) (by omega), succ_cast]
    exact h2

theorem c_Cables {L : List Int} {q : Nat} (hL : L.length ≤ 600) (hq : q ≤ 600) (n : Int) {l : List Cb} (hl : l.length ≤ 1000) : ∃ ps q', q' ≤ 600 ∧ ps.length ≤ l.length ∧
    denC E 9 [AV.t (.ptr 0 0), netA n l] [src L q] = some ([RV.p (PV.sl 2 (prts ps))], [src L q']) := by
  obtain ⟨o, q', h1, h2, h3⟩ := c_Some hL hq (n := l.length) (k := 3) (by omega) hl
  obtain ⟨ps, g1, g2⟩ := cables_loop (L := L) (q := q') (o := o) (by omega) o.length 0 [] (by omega) rfl
  refine ⟨ps, q', h1, by omega, ?_⟩
  rw [nc0] at g2
  have e0 : prts [] = [] := rfl
  rw [e0] at g2
  rw [denC_eq, r9, spanK_len, h3]
  simp only [bnd_some, ctl_true, ctl_false, ctl_and, ctl_or', ctl_or2, x_toPV, x_toCs, x_toCs2, x_toEs, x_bEs, x_bCs, x_aPV, x_aCs, x_int, x_bool, x_str, x_es, x_esn, nth_0, nth_1, nth_2, nth_3, nth_4, nth_5, nth_6, nth_7, nth_8, nth_9, y_nil, y_int, y_bool, y_str, y_sl, y_nils, y_agg, y_ownp, y_own, z_nil, z_int, z_bool, z_str, z_sl, z_nils, b_nil, b_arr, b_box1, b_box2, b_box3, b_box4, List.map_cons, List.map_nil, Bool.and_self, Bool.and_true, Bool.true_and, Bool.not_true, Bool.not_false, Bool.or_false, Bool.false_or, cond_true, cond_false, okPack, okPut, okPutBlks, okPutCells, q_isP, q_isAg, q_isBox, q_isArr, q_int, q_bool, q_str, q_sl, q_nils, e_exit, e_ret, e_nrm, e_ret_exit, e_exit_ret, e_nrm_exit, e_nrm_ret, e_exit_nrm, e_ret_nrm, Nat.zero_add, Nat.reduceAdd, noslR, noslP, noslB, noslA, List.all_cons, List.all_nil]
  rw [intsK_length, g2]
  simp only [bnd_some, ctl_true, ctl_false, ctl_and, ctl_or', ctl_or2, x_toPV, x_toCs, x_toCs2, x_toEs, x_bEs, x_bCs, x_aPV, x_aCs, x_int, x_bool, x_str, x_es, x_esn, nth_0, nth_1, nth_2, nth_3, nth_4, nth_5, nth_6, nth_7, nth_8, nth_9, y_nil, y_int, y_bool, y_str, y_sl, y_nils, y_agg, y_ownp, y_own, z_nil, z_int, z_bool, z_str, z_sl, z_nils, b_nil, b_arr, b_box1, b_box2, b_box3, b_box4, List.map_cons, List.map_nil, Bool.and_self, Bool.and_true, Bool.true_and, Bool.not_true, Bool.not_false, Bool.or_false, Bool.false_or, cond_true, cond_false, okPack, okPut, okPutBlks, okPutCells, q_isP, q_isAg, q_isBox, q_isArr, q_int, q_bool, q_str, q_sl, q_nils, e_exit, e_ret, e_nrm, e_ret_exit, e_exit_ret, e_nrm_exit, e_nrm_ret, e_exit_nrm, e_ret_nrm, Nat.zero_add, Nat.reduceAdd, noslR, noslP, noslB, noslA, List.all_cons, List.all_nil, iT_n _ (rfl : Nat.blt 1 1000000 = true), iT_n _ (rfl : Nat.blt 2 1000000 = true), iT_n _ (rfl : Nat.blt 3 1000000 = true)]

/-! ### network -/
theorem c_NaN (x : Int) : denC E 57 [AV.int .i64 x] [] = some ([RV.p (PV.bool false)], []) := by
  rw [denC_eq, r57]
  simp
theorem c_Compare (x y : Int) : ∃ c, denC E 56 [AV.int .i64 x, AV.int .i64 y] [] = some ([RV.p (PV.int .i64 c)], []) := by
  rw [denC_eq, r56, c_NaN, c_NaN]
  simp only [bnd_some, ctl_true, ctl_false, ctl_and, ctl_or', ctl_or2, x_toPV, x_toCs, x_toCs2, x_toEs, x_bEs, x_bCs, x_aPV, x_aCs, x_int, x_bool, x_str, x_es, x_esn, nth_0, nth_1, nth_2, nth_3, nth_4, nth_5, nth_6, nth_7, nth_8, nth_9, y_nil, y_int, y_bool, y_str, y_sl, y_nils, y_agg, y_ownp, y_own, z_nil, z_int, z_bool, z_str, z_sl, z_nils, b_nil, b_arr, b_box1, b_box2, b_box3, b_box4, List.map_cons, List.map_nil, Bool.and_self, Bool.and_true, Bool.true_and, Bool.not_true, Bool.not_false, Bool.or_false, Bool.false_or, cond_true, cond_false, okPack, okPut, okPutBlks, okPutCells, q_isP, q_isAg, q_isBox, q_isArr, q_int, q_bool, q_str, q_sl, q_nils, e_exit, e_ret, e_nrm, e_ret_exit, e_exit_ret, e_nrm_exit, e_nrm_ret, e_exit_nrm, e_ret_nrm, Nat.zero_add, Nat.reduceAdd, noslR, noslP, noslB, noslA, List.all_cons, List.all_nil]
  cases ltB x y with
  | true => exact ⟨_, rfl⟩
  | false => cases ltB y x <;> exact ⟨_, rfl⟩
theorem or_loop {z : Int} {l : List Int} (hl : l.length ≤ 1000) : ∀ (m i : Nat), i + m = l.length → ∃ c, lp E (denC E) 55 0 [] 0 { vals := [AV.int .i64 z, AV.sl 1 (intsK .i64 l), AV.int .i64 l.length, AV.int .i64 i], blks := [] } = some (Ex.ret, { vals := [AV.int .i64 c], blks := [] }) ∨
    lp E (denC E) 55 0 [] 0 { vals := [AV.int .i64 z, AV.sl 1 (intsK .i64 l), AV.int .i64 l.length, AV.int .i64 i], blks := [] } = some (Ex.exit 0, { vals := [AV.int .i64 c], blks := [] }) := by
  intro m
  induction m with
  | zero =>
    intro i hi
    rw [r55_0, ctl_dec, if_neg (by omega)]
    exact ⟨z, .inr rfl⟩
  | succ m ih =>
    intro i hi
    rw [r55_0, ctl_dec, if_pos (by omega), getE_ints (by omega)]
    simp only [bnd_some, ctl_true, ctl_false, ctl_and, ctl_or', ctl_or2, x_toPV, x_toCs, x_toCs2, x_toEs, x_bEs, x_bCs, x_aPV, x_aCs, x_int, x_bool, x_str, x_es, x_esn, nth_0, nth_1, nth_2, nth_3, nth_4, nth_5, nth_6, nth_7, nth_8, nth_9, y_nil, y_int, y_bool, y_str, y_sl, y_nils, y_agg, y_ownp, y_own, z_nil, z_int, z_bool, z_str, z_sl, z_nils, b_nil, b_arr, b_box1, b_box2, b_box3, b_box4, List.map_cons, List.map_nil, Bool.and_self, Bool.and_true, Bool.true_and, Bool.not_true, Bool.not_false, Bool.or_false, Bool.false_or, cond_true, cond_false, okPack, okPut, okPutBlks, okPutCells, q_isP, q_isAg, q_isBox, q_isArr, q_int, q_bool, q_str, q_sl, q_nils, e_exit, e_ret, e_nrm, e_ret_exit, e_exit_ret, e_nrm_exit, e_nrm_ret, e_exit_nrm, e_ret_nrm, Nat.zero_add, Nat.reduceAdd, noslR, noslP, noslB, noslA, List.all_cons, List.all_nil]
    cases hb : (l.getD (i : Int).toNat 0 != z) with
    | true => exact ⟨_, .inl rfl⟩
    | false =>
      obtain ⟨c, h⟩ := ih (i + 1) (by omega)
      refine ⟨c, ?_⟩
      rw [ctl_false, w64 (n := (i : Int) + 1) (by omega), succ_cast]
      exact h
theorem c_Or {l : List Int} (hl : l.length ≤ 1000) : ∃ c, denC E 55 [AV.sl 1 (intsK .i64 l)] [] = some ([RV.p (PV.int .i64 c)], []) := by
  obtain ⟨c, h⟩ := or_loop (z := 0) hl l.length 0 (by omega)
  refine ⟨c, ?_⟩
  rw [nc0] at h
  rw [denC_eq, r55, intsK_length]
  rcases h with h | h
  · rw [h]; simp only [bnd_some, ctl_true, ctl_false, ctl_and, ctl_or', ctl_or2, x_toPV, x_toCs, x_toCs2, x_toEs, x_bEs, x_bCs, x_aPV, x_aCs, x_int, x_bool, x_str, x_es, x_esn, nth_0, nth_1, nth_2, nth_3, nth_4, nth_5, nth_6, nth_7, nth_8, nth_9, y_nil, y_int, y_bool, y_str, y_sl, y_nils, y_agg, y_ownp, y_own, z_nil, z_int, z_bool, z_str, z_sl, z_nils, b_nil, b_arr, b_box1, b_box2, b_box3, b_box4, List.map_cons, List.map_nil, Bool.and_self, Bool.and_true, Bool.true_and, Bool.not_true, Bool.not_false, Bool.or_false, Bool.false_or, cond_true, cond_false, okPack, okPut, okPutBlks, okPutCells, q_isP, q_isAg, q_isBox, q_isArr, q_int, q_bool, q_str, q_sl, q_nils, e_exit, e_ret, e_nrm, e_ret_exit, e_exit_ret, e_nrm_exit, e_nrm_ret, e_exit_nrm, e_ret_nrm, Nat.zero_add, Nat.reduceAdd, noslR, noslP, noslB, noslA, List.all_cons, List.all_nil]
  · rw [h]; simp only [bnd_some, ctl_true, ctl_false, ctl_and, ctl_or', ctl_or2, x_toPV, x_toCs, x_toCs2, x_toEs, x_bEs, x_bCs, x_aPV, x_aCs, x_int, x_bool, x_str, x_es, x_esn, nth_0, nth_1, nth_2, nth_3, nth_4, nth_5, nth_6, nth_7, nth_8, nth_9, y_nil, y_int, y_bool, y_str, y_sl, y_nils, y_agg, y_ownp, y_own, z_nil, z_int, z_bool, z_str, z_sl, z_nils, b_nil, b_arr, b_box1, b_box2, b_box3, b_box4, List.map_cons, List.map_nil, Bool.and_self, Bool.and_true, Bool.true_and, Bool.not_true, Bool.not_false, Bool.or_false, Bool.false_or, cond_true, cond_false, okPack, okPut, okPutBlks, okPutCells, q_isP, q_isAg, q_isBox, q_isArr, q_int, q_bool, q_str, q_sl, q_nils, e_exit, e_ret, e_nrm, e_ret_exit, e_exit_ret, e_nrm_exit, e_nrm_ret, e_exit_nrm, e_ret_nrm, Nat.zero_add, Nat.reduceAdd, noslR, noslP, noslB, noslA, List.all_cons, List.all_nil]
theorem c_compare (x y : Cb) : ∃ c, denC E 52 [AV.agg [PV.int .i64 x.1, PV.int .i64 x.2.1, PV.int .i64 x.2.2], AV.agg [PV.int .i64 y.1, PV.int .i64 y.2.1, PV.int .i64 y.2.2]] [] = some ([RV.p (PV.int .i64 c)], []) := by
  obtain ⟨a, ha⟩ := c_Compare x.1 y.1
  obtain ⟨b, hb⟩ := c_Compare x.2.1 y.2.1
  obtain ⟨c, hc⟩ := c_Compare x.2.2 y.2.2
  obtain ⟨d, hd⟩ := c_Or (l := [a, b, c]) (by simp)
  refine ⟨d, ?_⟩
  have e0 : ([[PV.int IntKind.i64 a], [PV.int IntKind.i64 b], [PV.int IntKind.i64 c]] : List (List PV)) = intsK .i64 [a, b, c] := rfl
  rw [denC_eq, r52, ha, hb, hc]
  simp only [bnd_some, ctl_true, ctl_false, ctl_and, ctl_or', ctl_or2, x_toPV, x_toCs, x_toCs2, x_toEs, x_bEs, x_bCs, x_aPV, x_aCs, x_int, x_bool, x_str, x_es, x_esn, nth_0, nth_1, nth_2, nth_3, nth_4, nth_5, nth_6, nth_7, nth_8, nth_9, y_nil, y_int, y_bool, y_str, y_sl, y_nils, y_agg, y_ownp, y_own, z_nil, z_int, z_bool, z_str, z_sl, z_nils, b_nil, b_arr, b_box1, b_box2, b_box3, b_box4, List.map_cons, List.map_nil, Bool.and_self, Bool.and_true, Bool.true_and, Bool.not_true, Bool.not_false, Bool.or_false, Bool.false_or, cond_true, cond_false, okPack, okPut, okPutBlks, okPutCells, q_isP, q_isAg, q_isBox, q_isArr, q_int, q_bool, q_str, q_sl, q_nils, e_exit, e_ret, e_nrm, e_ret_exit, e_exit_ret, e_nrm_exit, e_nrm_ret, e_exit_nrm, e_ret_nrm, Nat.zero_add, Nat.reduceAdd, noslR, noslP, noslB, noslA, List.all_cons, List.all_nil]
  rw [e0, hd]
  simp only [bnd_some, ctl_true, ctl_false, ctl_and, ctl_or', ctl_or2, x_toPV, x_toCs, x_toCs2, x_toEs, x_bEs, x_bCs, x_aPV, x_aCs, x_int, x_bool, x_str, x_es, x_esn, nth_0, nth_1, nth_2, nth_3, nth_4, nth_5, nth_6, nth_7, nth_8, nth_9, y_nil, y_int, y_bool, y_str, y_sl, y_nils, y_agg, y_ownp, y_own, z_nil, z_int, z_bool, z_str, z_sl, z_nils, b_nil, b_arr, b_box1, b_box2, b_box3, b_box4, List.map_cons, List.map_nil, Bool.and_self, Bool.and_true, Bool.true_and, Bool.not_true, Bool.not_false, Bool.or_false, Bool.false_or, cond_true, cond_false, okPack, okPut, okPutBlks, okPutCells, q_isP, q_isAg, q_isBox, q_isArr, q_int, q_bool, q_str, q_sl, q_nils, e_exit, e_ret, e_nrm, e_ret_exit, e_exit_ret, e_nrm_exit, e_nrm_ret, e_exit_nrm, e_ret_nrm, Nat.zero_add, Nat.reduceAdd, noslR, noslP, noslB, noslA, List.all_cons, List.all_nil]

theorem ncheck_loop {n : Int} {l : List Cb} (hl : l.length ≤ 1000) : ∀ (m i : Nat), i + m = l.length → ∃ c, lp E (denC E) 46 0 [] 0 { vals := [AV.sl 3 (spanK l), AV.int .i64 l.length, AV.int .i64 i], blks := [Blk.box [AV.int .i64 n, AV.sl 3 (spanK l)]] } = some (Ex.ret, { vals := [AV.int .i64 c], blks := [] }) ∨
    lp E (denC E) 46 0 [] 0 { vals := [AV.sl 3 (spanK l), AV.int .i64 l.length, AV.int .i64 i], blks := [Blk.box [AV.int .i64 n, AV.sl 3 (spanK l)]] } = some (Ex.exit 0, { vals := [], blks := [] }) := by
  intro m
  induction m with
  | zero =>
    intro i hi
    rw [r46_0, ctl_dec, if_neg (by omega)]
    exact ⟨0, .inr rfl⟩
  | succ m ih =>
    intro i hi
    obtain ⟨c, h⟩ := ih (i + 1) (by omega)
    have step : ∀ (v : Bool) (X : Option (Ex × Pack)), (∃ c, X = some (Ex.ret, { vals := [AV.int .i64 c], blks := [] }) ∨ X = some (Ex.exit 0, { vals := [], blks := [] })) → ∃ c, ctl v (some (Ex.ret, { vals := [AV.int .i64 68], blks := [] })) X = some (Ex.ret, { vals := [AV.int .i64 c], blks := [] }) ∨ ctl v (some (Ex.ret, { vals := [AV.int .i64 68], blks := [] })) X = some (Ex.exit 0, { vals := [], blks := [] }) := by
      intro v X hX
      cases v with
      | true => exact ⟨68, .inl rfl⟩
      | false => exact hX
    have bd : ∀ (b : Option Bool) (K : Bool → Option (Ex × Pack)) (Q : Option (Ex × Pack) → Prop), (∃ v, b = some v) → (∀ v, Q (K v)) → Q (Vm.bnd b K) := by
      intro b K Q ⟨v, hv⟩ h
      rw [hv]
      exact h v
    have cb : ∀ (t v w : Bool), ∃ u, ctl t (some v) (some w) = some u := fun t v w => by cases t <;> exact ⟨_, rfl⟩
    rw [r46_0, ctl_dec, if_pos (by omega), getE_spanK (by omega)]
    simp only [bnd_some, ctl_true, ctl_false, ctl_and, ctl_or', ctl_or2, x_toPV, x_toCs, x_toCs2, x_toEs, x_bEs, x_bCs, x_aPV, x_aCs, x_int, x_bool, x_str, x_es, x_esn, nth_0, nth_1, nth_2, nth_3, nth_4, nth_5, nth_6, nth_7, nth_8, nth_9, y_nil, y_int, y_bool, y_str, y_sl, y_nils, y_agg, y_ownp, y_own, z_nil, z_int, z_bool, z_str, z_sl, z_nils, b_nil, b_arr, b_box1, b_box2, b_box3, b_box4, List.map_cons, List.map_nil, Bool.and_self, Bool.and_true, Bool.true_and, Bool.not_true, Bool.not_false, Bool.or_false, Bool.false_or, cond_true, cond_false, okPack, okPut, okPutBlks, okPutCells, q_isP, q_isAg, q_isBox, q_isArr, q_int, q_bool, q_str, q_sl, q_nils, e_exit, e_ret, e_nrm, e_ret_exit, e_exit_ret, e_nrm_exit, e_nrm_ret, e_exit_nrm, e_ret_nrm, Nat.zero_add, Nat.reduceAdd, noslR, noslP, noslB, noslA, List.all_cons, List.all_nil]
    refine step _ _ ?_
    refine bd _ _ (fun X => ∃ c, X = some (Ex.ret, { vals := [AV.int .i64 c], blks := [] }) ∨ X = some (Ex.exit 0, { vals := [], blks := [] })) ?_ fun v5 => step v5 _ ?_
    · rw [ctl_dec]
      split
      · obtain ⟨j, hj⟩ : ∃ j, i = j + 1 := ⟨i - 1, by omega⟩
        subst hj
        rw [w64 (n := ((j + 1 : Nat) : Int) - 1) (by omega), show ((j + 1 : Nat) : Int) - 1 = (j : Int) by omega, getE_spanK (by omega)]
        simp only [bnd_some, ctl_true, ctl_false, ctl_and, ctl_or', ctl_or2, x_toPV, x_toCs, x_toCs2, x_toEs, x_bEs, x_bCs, x_aPV, x_aCs, x_int, x_bool, x_str, x_es, x_esn, nth_0, nth_1, nth_2, nth_3, nth_4, nth_5, nth_6, nth_7, nth_8, nth_9, y_nil, y_int, y_bool, y_str, y_sl, y_nils, y_agg, y_ownp, y_own, z_nil, z_int, z_bool, z_str, z_sl, z_nils, b_nil, b_arr, b_box1, b_box2, b_box3, b_box4, List.map_cons, List.map_nil, Bool.and_self, Bool.and_true, Bool.true_and, Bool.not_true, Bool.not_false, Bool.or_false, Bool.false_or, cond_true, cond_false, okPack, okPut, okPutBlks, okPutCells, q_isP, q_isAg, q_isBox, q_isArr, q_int, q_bool, q_str, q_sl, q_nils, e_exit, e_ret, e_nrm, e_ret_exit, e_exit_ret, e_nrm_exit, e_nrm_ret, e_exit_nrm, e_ret_nrm, Nat.zero_add, Nat.reduceAdd, noslR, noslP, noslB, noslA, List.all_cons, List.all_nil]
        obtain ⟨c, hc⟩ := c_compare (l.getD j (0, 0, 0)) (l.getD (j + 1) (0, 0, 0))
        rw [hc]
        simp only [bnd_some, ctl_true, ctl_false, ctl_and, ctl_or', ctl_or2, x_toPV, x_toCs, x_toCs2, x_toEs, x_bEs, x_bCs, x_aPV, x_aCs, x_int, x_bool, x_str, x_es, x_esn, nth_0, nth_1, nth_2, nth_3, nth_4, nth_5, nth_6, nth_7, nth_8, nth_9, y_nil, y_int, y_bool, y_str, y_sl, y_nils, y_agg, y_ownp, y_own, z_nil, z_int, z_bool, z_str, z_sl, z_nils, b_nil, b_arr, b_box1, b_box2, b_box3, b_box4, List.map_cons, List.map_nil, Bool.and_self, Bool.and_true, Bool.true_and, Bool.not_true, Bool.not_false, Bool.or_false, Bool.false_or, cond_true, cond_false, okPack, okPut, okPutBlks, okPutCells, q_isP, q_isAg, q_isBox, q_isArr, q_int, q_bool, q_str, q_sl, q_nils, e_exit, e_ret, e_nrm, e_ret_exit, e_exit_ret, e_nrm_exit, e_nrm_ret, e_exit_nrm, e_ret_nrm, Nat.zero_add, Nat.reduceAdd, noslR, noslP, noslB, noslA, List.all_cons, List.all_nil]
        exact ⟨_, rfl⟩
      · exact ⟨_, rfl⟩
    · refine ⟨c, ?_⟩
      rw [w64 (n := (i : Int) + 1) (by omega), succ_cast]
      exact h

theorem c_NCheck {n : Int} {l : List Cb} (hl : l.length ≤ 1000) : ∃ c, denC E 46 [netA n l] [] = some ([RV.p (PV.int .i64 c)], []) := by
  obtain ⟨c, h⟩ := ncheck_loop (n := n) hl l.length 0 (by omega)
  rw [nc0] at h
  have cb : ∀ (t v w : Bool), ∃ u, ctl t (some v) (some w) = some u := fun t v w => by cases t <;> exact ⟨_, rfl⟩
  rw [denC_eq, r46]
  obtain ⟨u, hu⟩ := cb (!ltB n 1) (ltB 8 n) true
  rw [hu, bnd_some]
  obtain ⟨u', hu'⟩ := cb (!u) (ltB 24 ((spanK l).length : Int)) true
  rw [hu', bnd_some]
  cases u' with
  | true => exact ⟨_, rfl⟩
  | false =>
    rw [ctl_false, spanK_len]
    rcases h with h | h
    · refine ⟨c, ?_⟩; rw [h]; simp only [bnd_some, ctl_true, ctl_false, ctl_and, ctl_or', ctl_or2, x_toPV, x_toCs, x_toCs2, x_toEs, x_bEs, x_bCs, x_aPV, x_aCs, x_int, x_bool, x_str, x_es, x_esn, nth_0, nth_1, nth_2, nth_3, nth_4, nth_5, nth_6, nth_7, nth_8, nth_9, y_nil, y_int, y_bool, y_str, y_sl, y_nils, y_agg, y_ownp, y_own, z_nil, z_int, z_bool, z_str, z_sl, z_nils, b_nil, b_arr, b_box1, b_box2, b_box3, b_box4, List.map_cons, List.map_nil, Bool.and_self, Bool.and_true, Bool.true_and, Bool.not_true, Bool.not_false, Bool.or_false, Bool.false_or, cond_true, cond_false, okPack, okPut, okPutBlks, okPutCells, q_isP, q_isAg, q_isBox, q_isArr, q_int, q_bool, q_str, q_sl, q_nils, e_exit, e_ret, e_nrm, e_ret_exit, e_exit_ret, e_nrm_exit, e_nrm_ret, e_exit_nrm, e_ret_nrm, Nat.zero_add, Nat.reduceAdd, noslR, noslP, noslB, noslA, List.all_cons, List.all_nil]
    · refine ⟨0, ?_⟩; rw [h]; simp only [bnd_some, ctl_true, ctl_false, ctl_and, ctl_or', ctl_or2, x_toPV, x_toCs, x_toCs2, x_toEs, x_bEs, x_bCs, x_aPV, x_aCs, x_int, x_bool, x_str, x_es, x_esn, nth_0, nth_1, nth_2, nth_3, nth_4, nth_5, nth_6, nth_7, nth_8, nth_9, y_nil, y_int, y_bool, y_str, y_sl, y_nils, y_agg, y_ownp, y_own, z_nil, z_int, z_bool, z_str, z_sl, z_nils, b_nil, b_arr, b_box1, b_box2, b_box3, b_box4, List.map_cons, List.map_nil, Bool.and_self, Bool.and_true, Bool.true_and, Bool.not_true, Bool.not_false, Bool.or_false, Bool.false_or, cond_true, cond_false, okPack, okPut, okPutBlks, okPutCells, q_isP, q_isAg, q_isBox, q_isArr, q_int, q_bool, q_str, q_sl, q_nils, e_exit, e_ret, e_nrm, e_ret_exit, e_exit_ret, e_nrm_exit, e_nrm_ret, e_exit_nrm, e_ret_nrm, Nat.zero_add, Nat.reduceAdd, noslR, noslP, noslB, noslA, List.all_cons, List.all_nil]

end Go.Proofs.Ytcgpckiieocdbaa.Vm
