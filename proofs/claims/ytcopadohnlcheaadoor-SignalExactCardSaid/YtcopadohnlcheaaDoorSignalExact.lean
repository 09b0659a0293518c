/- The law SignalExact. -/
import Derived.Test.YtcopadohnlcheaaDoorSigG
import Derived.Test.YtcopadohnlcheaaDoorRawExact
import Derived.Test.YtcopadohnlcheaaDoorFlds
namespace Go.Proofs.YtcopadohnlcheaaDoor.Vm
set_option linter.unusedVariables false
set_option linter.unusedSimpArgs false

theorem strs_of : ∀ {es : List (List PV)}, (∀ x ∈ es, ∃ s, x = [PV.str s] ∧ s.length ≤ maxLen) → ∃ l, es = strsK l
  | [], _ => ⟨[], rfl⟩
  | x :: es, h => by
    obtain ⟨l, rfl⟩ := strs_of (es := es) fun y hy => h y (by simp [hy])
    obtain ⟨s, rfl, _⟩ := h x (by simp)
    exact ⟨s :: l, rfl⟩

theorem ft_Sen : fty Tryd.prog 30 = [28] := by kernel_rfl
set_option maxRecDepth 100000 in
theorem in_Sen {a : AV} (h : WFA Tryd.prog 30 a) : ∃ l : List (List UInt8), a = AV.agg [PV.sl 1 (strsK l)] ∧ l.length ≤ maxLen := by
  obtain ⟨xs, rfl, hx⟩ := wfa_flds ft_Sen h
  obtain ⟨x0, xs0, rfl, h0, k0⟩ := all2_cons hx
  obtain rfl := all2_nil k0
  obtain ⟨es, rfl, h1, h2⟩ := wfc_sl (e := 9) (by kernel_rfl) h0
  obtain ⟨l, rfl⟩ := strs_of fun x hx => wfc_str (by kernel_rfl) (h2 x hx)
  exact ⟨l, rfl, by simpa [strsK] using h1⟩
theorem ft_Sig : fty Tryd.prog 26 = [3, 3, 3, 3, 3, 3] := by kernel_rfl
theorem un_int : Tryd.prog.underlying 3 = some (.int .i64) := by kernel_rfl
set_option maxRecDepth 100000 in
theorem in_Sig {a : AV} (h : WFA Tryd.prog 26 a) : ∃ x : Sig, a = AV.agg (sgC x) := by
  obtain ⟨xs, rfl, hx⟩ := wfa_flds ft_Sig h
  obtain ⟨x0, xs0, rfl, h0, k0⟩ := all2_cons hx
  obtain ⟨x1, xs1, rfl, h1, k1⟩ := all2_cons k0
  obtain ⟨x2, xs2, rfl, h2, k2⟩ := all2_cons k1
  obtain ⟨x3, xs3, rfl, h3, k3⟩ := all2_cons k2
  obtain ⟨x4, xs4, rfl, h4, k4⟩ := all2_cons k3
  obtain ⟨x5, xs5, rfl, h5, k5⟩ := all2_cons k4
  obtain rfl := all2_nil k5
  obtain ⟨c0, rfl, _⟩ := wfc_int un_int h0
  obtain ⟨c1, rfl, _⟩ := wfc_int un_int h1
  obtain ⟨c2, rfl, _⟩ := wfc_int un_int h2
  obtain ⟨c3, rfl, _⟩ := wfc_int un_int h3
  obtain ⟨c4, rfl, _⟩ := wfc_int un_int h4
  obtain ⟨c5, rfl, _⟩ := wfc_int un_int h5
  exact ⟨⟨c0, c1, c2, c3, c4, c5⟩, rfl⟩

/-! ### Are the fields short? -/
theorem l_short (t0 : List (List PV)) (text : List UInt8) (n : Int) (x : Sig) (b1 : List (List PV)) (l : List (List UInt8)) : ∀ (pre : List (List UInt8)), (pre ++ l).length ≤ 1000 →
    lp E (denC E) 4 0 [] 0 { vals := [AV.sl 1 t0, AV.str text, AV.int .i64 n, AV.sl 1 (strsK (pre ++ l)), AV.int .i64 (pre ++ l).length, AV.int .i64 pre.length], blks := [Blk.box [AV.int .i64 x.k, AV.int .i64 x.s, AV.int .i64 x.t, AV.int .i64 x.a, AV.int .i64 x.b, AV.int .i64 x.c], Blk.box [AV.sl 1 b1]] } =
    some (bif l.all fun f => !ltB 60 (f.length : Int) then (Ex.exit 0, { vals := [AV.sl 1 t0, AV.str text, AV.int .i64 n], blks := [Blk.box [AV.int .i64 x.k, AV.int .i64 x.s, AV.int .i64 x.t, AV.int .i64 x.a, AV.int .i64 x.b, AV.int .i64 x.c], Blk.box [AV.sl 1 b1]] }) else (Ex.ret, { vals := [AV.bool true], blks := [] })) := by
  induction l with
  | nil =>
    intro pre h
    rw [r4_0, ctl_dec, if_neg (by simp)]
    rfl
  | cons f l ih =>
    intro pre h
    rw [r4_0, ctl_dec, if_pos (by simp; omega), getE_strs (by simp; omega)]
    simp only [Int.toNat_natCast, getD_mid, bnd_some, ctl_true, ctl_false, ctl_and, ctl_or', ctl_or2, x_toPV, x_toCs, x_toCs2, x_toEs, x_bEs, x_bCs, x_aPV, x_aCs, x_int, x_bool, x_str, x_es, x_esn, nth_0, nth_1, nth_2, nth_3, nth_4, nth_5, nth_6, nth_7, nth_8, nth_9, y_nil, y_int, y_bool, y_str, y_sl, y_nils, y_agg, y_ownp, y_own, z_nil, z_int, z_bool, z_str, z_sl, z_nils, b_nil, b_arr, b_box1, b_box2, b_box3, b_box4, List.map_cons, List.map_nil, Bool.and_self, Bool.and_true, Bool.true_and, Bool.not_true, Bool.not_false, Bool.or_false, Bool.false_or, cond_true, cond_false, okPack, okPut, okPutBlks, okPutCells, q_isP, q_isAg, q_isBox, q_isArr, q_int, q_bool, q_str, q_sl, q_nils, e_exit, e_ret, e_nrm, e_ret_exit, e_exit_ret, e_nrm_exit, e_nrm_ret, e_exit_nrm, e_ret_nrm, Nat.zero_add, Nat.reduceAdd, noslR, noslP, noslB, noslA, List.all_cons, List.all_nil]
    rw [c_sane6]
    simp only [bnd_some, ctl_true, ctl_false, ctl_and, ctl_or', ctl_or2, x_toPV, x_toCs, x_toCs2, x_toEs, x_bEs, x_bCs, x_aPV, x_aCs, x_int, x_bool, x_str, x_es, x_esn, nth_0, nth_1, nth_2, nth_3, nth_4, nth_5, nth_6, nth_7, nth_8, nth_9, y_nil, y_int, y_bool, y_str, y_sl, y_nils, y_agg, y_ownp, y_own, z_nil, z_int, z_bool, z_str, z_sl, z_nils, b_nil, b_arr, b_box1, b_box2, b_box3, b_box4, List.map_cons, List.map_nil, Bool.and_self, Bool.and_true, Bool.true_and, Bool.not_true, Bool.not_false, Bool.or_false, Bool.false_or, cond_true, cond_false, okPack, okPut, okPutBlks, okPutCells, q_isP, q_isAg, q_isBox, q_isArr, q_int, q_bool, q_str, q_sl, q_nils, e_exit, e_ret, e_nrm, e_ret_exit, e_exit_ret, e_nrm_exit, e_nrm_ret, e_exit_nrm, e_ret_nrm, Nat.zero_add, Nat.reduceAdd, noslR, noslP, noslB, noslA, List.all_cons, List.all_nil]
    cases hb : ltB 60 (f.length : Int) with
    | true => simp only [bnd_some, ctl_true, ctl_false, ctl_and, ctl_or', ctl_or2, x_toPV, x_toCs, x_toCs2, x_toEs, x_bEs, x_bCs, x_aPV, x_aCs, x_int, x_bool, x_str, x_es, x_esn, nth_0, nth_1, nth_2, nth_3, nth_4, nth_5, nth_6, nth_7, nth_8, nth_9, y_nil, y_int, y_bool, y_str, y_sl, y_nils, y_agg, y_ownp, y_own, z_nil, z_int, z_bool, z_str, z_sl, z_nils, b_nil, b_arr, b_box1, b_box2, b_box3, b_box4, List.map_cons, List.map_nil, Bool.and_self, Bool.and_true, Bool.true_and, Bool.not_true, Bool.not_false, Bool.or_false, Bool.false_or, cond_true, cond_false, okPack, okPut, okPutBlks, okPutCells, q_isP, q_isAg, q_isBox, q_isArr, q_int, q_bool, q_str, q_sl, q_nils, e_exit, e_ret, e_nrm, e_ret_exit, e_exit_ret, e_nrm_exit, e_nrm_ret, e_exit_nrm, e_ret_nrm, Nat.zero_add, Nat.reduceAdd, noslR, noslP, noslB, noslA, List.all_cons, List.all_nil, hb, Bool.false_and]
    | false =>
      rw [w64 (by simp at h; omega), len_snoc pre f, app_cons]
      simp only [bnd_some, ctl_true, ctl_false, ctl_and, ctl_or', ctl_or2, x_toPV, x_toCs, x_toCs2, x_toEs, x_bEs, x_bCs, x_aPV, x_aCs, x_int, x_bool, x_str, x_es, x_esn, nth_0, nth_1, nth_2, nth_3, nth_4, nth_5, nth_6, nth_7, nth_8, nth_9, y_nil, y_int, y_bool, y_str, y_sl, y_nils, y_agg, y_ownp, y_own, z_nil, z_int, z_bool, z_str, z_sl, z_nils, b_nil, b_arr, b_box1, b_box2, b_box3, b_box4, List.map_cons, List.map_nil, Bool.and_self, Bool.and_true, Bool.true_and, Bool.not_true, Bool.not_false, Bool.or_false, Bool.false_or, cond_true, cond_false, okPack, okPut, okPutBlks, okPutCells, q_isP, q_isAg, q_isBox, q_isArr, q_int, q_bool, q_str, q_sl, q_nils, e_exit, e_ret, e_nrm, e_ret_exit, e_exit_ret, e_nrm_exit, e_nrm_ret, e_exit_nrm, e_ret_nrm, Nat.zero_add, Nat.reduceAdd, noslR, noslP, noslB, noslA, List.all_cons, List.all_nil, hb, Bool.true_and]
      rw [ih (pre ++ [f]) (by simpa using h)]

/-! ### The sentences that are read -/
abbrev s3C (x y z : Sig) : List PV := sgC x ++ (sgC y ++ sgC z)
abbrev st4 (text : List UInt8) (n : Int) (x y w : Sig) (j : Int) (z0 z1 z2 : List (List PV)) (i : Int) (odd : List (List PV)) (b0 : List (List PV)) (b1 : Int) : Pack :=
  { vals := [AV.str text, AV.int .i64 n, AV.agg [PV.int .i64 x.k, PV.int .i64 x.s, PV.int .i64 x.t, PV.int .i64 x.a, PV.int .i64 x.b, PV.int .i64 x.c, PV.int .i64 y.k, PV.int .i64 y.s, PV.int .i64 y.t, PV.int .i64 y.a, PV.int .i64 y.b, PV.int .i64 y.c, PV.int .i64 w.k, PV.int .i64 w.s, PV.int .i64 w.t, PV.int .i64 w.a, PV.int .i64 w.b, PV.int .i64 w.c], AV.int .i64 j, AV.agg [PV.sl 1 z0, PV.sl 1 z1, PV.sl 1 z2], AV.int .i64 i],
    blks := [Blk.box [AV.sl 1 odd], Blk.box [AV.sl 1 b0, AV.int .i64 b1]] }

theorem s4_4 (text : List UInt8) (n : Int) (x y w : Sig) (j : Int) (z0 z1 z2 : List (List PV)) (i : Int) (hi : 0 ≤ i ∧ i < 3) (odd b0 : List (List PV)) (b1 : Int) (z : List (List UInt8)) (hz : z.length ≤ 100000) (hf : ∀ f ∈ z, f.length ≤ 1000000)
    (hg : ∀ K : List PV → Option (Ex × Pack), getE [[PV.sl 1 z0], [PV.sl 1 z1], [PV.sl 1 z2]] i K = K [PV.sl 1 (strsK z)]) :
    lp E (denC E) 4 0 [] 4 (st4 text n x y w j z0 z1 z2 i odd b0 b1) = lp E (denC E) 4 0 [] 4 (st4 text n x y w j z0 z1 z2 (i + 1) odd b0 b1) := by
  rw [r4_4, ctl_dec, if_pos (by omega), hg]
  simp only [bnd_some, ctl_true, ctl_false, ctl_and, ctl_or', ctl_or2, x_toPV, x_toCs, x_toCs2, x_toEs, x_bEs, x_bCs, x_aPV, x_aCs, x_int, x_bool, x_str, x_es, x_esn, nth_0, nth_1, nth_2, nth_3, nth_4, nth_5, nth_6, nth_7, nth_8, nth_9, y_nil, y_int, y_bool, y_str, y_sl, y_nils, y_agg, y_ownp, y_own, z_nil, z_int, z_bool, z_str, z_sl, z_nils, b_nil, b_arr, b_box1, b_box2, b_box3, b_box4, List.map_cons, List.map_nil, Bool.and_self, Bool.and_true, Bool.true_and, Bool.not_true, Bool.not_false, Bool.or_false, Bool.false_or, cond_true, cond_false, okPack, okPut, okPutBlks, okPutCells, q_isP, q_isAg, q_isBox, q_isArr, q_int, q_bool, q_str, q_sl, q_nils, e_exit, e_ret, e_nrm, e_ret_exit, e_exit_ret, e_nrm_exit, e_nrm_ret, e_exit_nrm, e_ret_nrm, Nat.zero_add, Nat.reduceAdd, noslR, noslP, noslB, noslA, List.all_cons, List.all_nil]
  rw [c_Read z hz hf, c_rRead z hz hf]
  cases rdA z with
  | none =>
    unfold rdR
    simp only [beq_self_eq_true, bne_self_eq_false, bnd_some, ctl_true, ctl_false, ctl_and, ctl_or', ctl_or2, x_toPV, x_toCs, x_toCs2, x_toEs, x_bEs, x_bCs, x_aPV, x_aCs, x_int, x_bool, x_str, x_es, x_esn, nth_0, nth_1, nth_2, nth_3, nth_4, nth_5, nth_6, nth_7, nth_8, nth_9, y_nil, y_int, y_bool, y_str, y_sl, y_nils, y_agg, y_ownp, y_own, z_nil, z_int, z_bool, z_str, z_sl, z_nils, b_nil, b_arr, b_box1, b_box2, b_box3, b_box4, List.map_cons, List.map_nil, Bool.and_self, Bool.and_true, Bool.true_and, Bool.not_true, Bool.not_false, Bool.or_false, Bool.false_or, cond_true, cond_false, okPack, okPut, okPutBlks, okPutCells, q_isP, q_isAg, q_isBox, q_isArr, q_int, q_bool, q_str, q_sl, q_nils, e_exit, e_ret, e_nrm, e_ret_exit, e_exit_ret, e_nrm_exit, e_nrm_ret, e_exit_nrm, e_ret_nrm, Nat.zero_add, Nat.reduceAdd, noslR, noslP, noslB, noslA, List.all_cons, List.all_nil]
    rw [w64 (by omega)]
  | some s =>
    unfold rdR
    simp only [sgC, beq_self_eq_true, bne_self_eq_false, bnd_some, ctl_true, ctl_false, ctl_and, ctl_or', ctl_or2, x_toPV, x_toCs, x_toCs2, x_toEs, x_bEs, x_bCs, x_aPV, x_aCs, x_int, x_bool, x_str, x_es, x_esn, nth_0, nth_1, nth_2, nth_3, nth_4, nth_5, nth_6, nth_7, nth_8, nth_9, y_nil, y_int, y_bool, y_str, y_sl, y_nils, y_agg, y_ownp, y_own, z_nil, z_int, z_bool, z_str, z_sl, z_nils, b_nil, b_arr, b_box1, b_box2, b_box3, b_box4, List.map_cons, List.map_nil, Bool.and_self, Bool.and_true, Bool.true_and, Bool.not_true, Bool.not_false, Bool.or_false, Bool.false_or, cond_true, cond_false, okPack, okPut, okPutBlks, okPutCells, q_isP, q_isAg, q_isBox, q_isArr, q_int, q_bool, q_str, q_sl, q_nils, e_exit, e_ret, e_nrm, e_ret_exit, e_exit_ret, e_nrm_exit, e_nrm_ret, e_exit_nrm, e_ret_nrm, Nat.zero_add, Nat.reduceAdd, noslR, noslP, noslB, noslA, List.all_cons, List.all_nil]
    rw [w64 (by omega)]

theorem l4_4 (text : List UInt8) (n : Int) (x y w : Sig) (j : Int) (odd b0 : List (List PV)) (b1 : Int) (z0 z1 z2 : List (List UInt8)) (h : ∀ z ∈ [z0, z1, z2], z.length ≤ 100000 ∧ ∀ f ∈ z, f.length ≤ 1000000) :
    lp E (denC E) 4 0 [] 4 (st4 text n x y w j (strsK z0) (strsK z1) (strsK z2) 0 odd b0 b1) =
    some (Ex.exit 4, { vals := [AV.str text, AV.int .i64 n, AV.agg [PV.int .i64 x.k, PV.int .i64 x.s, PV.int .i64 x.t, PV.int .i64 x.a, PV.int .i64 x.b, PV.int .i64 x.c, PV.int .i64 y.k, PV.int .i64 y.s, PV.int .i64 y.t, PV.int .i64 y.a, PV.int .i64 y.b, PV.int .i64 y.c, PV.int .i64 w.k, PV.int .i64 w.s, PV.int .i64 w.t, PV.int .i64 w.a, PV.int .i64 w.b, PV.int .i64 w.c], AV.int .i64 j], blks := [Blk.box [AV.sl 1 odd], Blk.box [AV.sl 1 b0, AV.int .i64 b1]] }) := by
  have h0 := h z0 (by simp)
  have h1 := h z1 (by simp)
  have h2 := h z2 (by simp)
  rw [s4_4 text n x y w j _ _ _ 0 (by omega) odd b0 b1 z0 h0.1 h0.2 (fun K => rfl), s4_4 text n x y w j _ _ _ (0 + 1) (by omega) odd b0 b1 z1 h1.1 h1.2 (fun K => rfl), s4_4 text n x y w j _ _ _ (0 + 1 + 1) (by omega) odd b0 b1 z2 h2.1 h2.2 (fun K => rfl), r4_4]
  rfl

/-! ### The signals -/
def bents : List (List UInt8) := [[], [45, 48], [48, 48, 55], [70, 73, 88], [71, 69, 78], [45, 49], [57, 57, 57, 57, 57, 57, 57, 57, 57, 57, 57], [120], [51, 53, 57, 57]]
theorem bents_len : ∀ x ∈ bents, x.length ≤ 11 := by decide
theorem setEs_strs {l : List (List UInt8)} {i : Nat} (h : i < l.length) (s : List UInt8) : setEs (strsK l) i 0 [PV.str s] = strsK (l.set i s) := by
  unfold setEs
  rw [upd_eq]
  have h1 : lay (nth [] (strsK l) i) 0 [PV.str s] = [PV.str s] := by
    rw [nth_eq]
    simp [strsK, List.getD, h, lay, lay.go]
  rw [h1]
  simp [strsK, List.map_set]

theorem wrP_l (y : Sig) : ∃ l : List (List UInt8), (wrP y).1.toEs = strsK l ∧ l.length ≤ 6 ∧ (∀ f ∈ l, f.length ≤ 1000) := by
  unfold wrP
  by_cases h : valS y = true
  · rw [if_pos h]
    obtain ⟨_, _, h3, h4, _⟩ := rd_wr h
    refine ⟨wr y, rfl, h3, fun f hf => ?_⟩
    have key : ∀ (l : List (List UInt8)) (f : List UInt8), f ∈ l → f.length ≤ totB l := fun l => by
      induction l with
      | nil => intro f h; cases h
      | cons x l ih =>
        intro f h
        have e : totB (x :: l) = x.length + totB l := by simp [totB]
        rw [e]
        rcases List.mem_cons.1 h with rfl | h
        · omega
        · have := ih f h; omega
    have := key _ f hf
    omega
  · rw [if_neg h]
    exact ⟨[], rfl, by simp, fun f hf => by cases hf⟩
theorem wrP_sh (y : Sig) : okCs [Sh.sl 1] [(wrP y).1] = true := by
  unfold wrP; split <;> rfl

abbrev st2 (text : List UInt8) (n : Int) (x y w : Sig) (j : Int) (odd : List (List PV)) (B : Blk) : Pack :=
  { vals := [AV.str text, AV.int .i64 n, AV.agg [PV.int .i64 x.k, PV.int .i64 x.s, PV.int .i64 x.t, PV.int .i64 x.a, PV.int .i64 x.b, PV.int .i64 x.c, PV.int .i64 y.k, PV.int .i64 y.s, PV.int .i64 y.t, PV.int .i64 y.a, PV.int .i64 y.b, PV.int .i64 y.c, PV.int .i64 w.k, PV.int .i64 w.s, PV.int .i64 w.t, PV.int .i64 w.a, PV.int .i64 w.b, PV.int .i64 w.c], AV.int .i64 j],
    blks := [Blk.box [AV.sl 1 odd], B] }

theorem s4_2 {L : List Int} {k : Nat} (hL : L.length ≤ 600) (hk : k ≤ 600) (text : List UInt8) (n : Int) (x y w : Sig) (j : Int) (hj : 0 ≤ j ∧ j < 3) (odd : List (List UInt8)) (ho : odd.length ≤ 20 ∧ ∀ f ∈ odd, f.length ≤ 1000) (s : Sig)
    (hg : ∀ K : List PV → Option (Ex × Pack), getE [[PV.int .i64 x.k, PV.int .i64 x.s, PV.int .i64 x.t, PV.int .i64 x.a, PV.int .i64 x.b, PV.int .i64 x.c], [PV.int .i64 y.k, PV.int .i64 y.s, PV.int .i64 y.t, PV.int .i64 y.a, PV.int .i64 y.b, PV.int .i64 y.c], [PV.int .i64 w.k, PV.int .i64 w.s, PV.int .i64 w.t, PV.int .i64 w.a, PV.int .i64 w.b, PV.int .i64 w.c]] j K = K [PV.int .i64 s.k, PV.int .i64 s.s, PV.int .i64 s.t, PV.int .i64 s.a, PV.int .i64 s.b, PV.int .i64 s.c]) :
    ∃ k' : Nat, k' ≤ 600 ∧ lp E (denC E) 4 0 [] 2 (st2 text n x y w j (strsK odd) (src L k)) = lp E (denC E) 4 0 [] 2 (st2 text n x y w (j + 1) (strsK odd) (src L k')) := by
  obtain ⟨l, hl, hln, hlf⟩ := wrP_l s
  have hW := c_Write s
  have hW2 := c_rWrite s
  have hV := c_SValid s
  have hV2 := c_rSValid s
  simp only [sgC] at hW hW2 hV hV2
  have hoL : odd.length ≤ 100000 ∧ ∀ f ∈ odd, f.length ≤ 1000000 := ⟨by omega, fun f hf => by have := ho.2 f hf; omega⟩
  have hlL : l.length ≤ 100000 ∧ ∀ f ∈ l, f.length ≤ 1000000 := ⟨by omega, fun f hf => by have := hlf f hf; omega⟩
  have hbl : ([[PV.str []], [PV.str [45, 48]], [PV.str [48, 48, 55]], [PV.str [70, 73, 88]], [PV.str [71, 69, 78]], [PV.str [45, 49]], [PV.str [57, 57, 57, 57, 57, 57, 57, 57, 57, 57, 57]], [PV.str [120]], [PV.str [51, 53, 57, 57]]] : List (List PV)) = strsK bents := rfl
  by_cases hz : l.length = 0
  · refine ⟨k, hk, ?_⟩
    rw [r4_2, ctl_dec, if_pos (by omega), hg]
    simp only [bnd_some, ctl_true, ctl_false, ctl_and, ctl_or', ctl_or2, x_toPV, x_toCs, x_toCs2, x_toEs, x_bEs, x_bCs, x_aPV, x_aCs, x_int, x_bool, x_str, x_es, x_esn, nth_0, nth_1, nth_2, nth_3, nth_4, nth_5, nth_6, nth_7, nth_8, nth_9, y_nil, y_int, y_bool, y_str, y_sl, y_nils, y_agg, y_ownp, y_own, z_nil, z_int, z_bool, z_str, z_sl, z_nils, b_nil, b_arr, b_box1, b_box2, b_box3, b_box4, List.map_cons, List.map_nil, Bool.and_self, Bool.and_true, Bool.true_and, Bool.not_true, Bool.not_false, Bool.or_false, Bool.false_or, cond_true, cond_false, okPack, okPut, okPutBlks, okPutCells, q_isP, q_isAg, q_isBox, q_isArr, q_int, q_bool, q_str, q_sl, q_nils, e_exit, e_ret, e_nrm, e_ret_exit, e_exit_ret, e_nrm_exit, e_nrm_ret, e_exit_nrm, e_ret_nrm, Nat.zero_add, Nat.reduceAdd, noslR, noslP, noslB, noslA, List.all_cons, List.all_nil]
    rw [hW, hW2, hV, hV2]
    simp only [wrP_sh, beq_self_eq_true, bne_self_eq_false, bnd_some, ctl_true, ctl_false, ctl_and, ctl_or', ctl_or2, x_toPV, x_toCs, x_toCs2, x_toEs, x_bEs, x_bCs, x_aPV, x_aCs, x_int, x_bool, x_str, x_es, x_esn, nth_0, nth_1, nth_2, nth_3, nth_4, nth_5, nth_6, nth_7, nth_8, nth_9, y_nil, y_int, y_bool, y_str, y_sl, y_nils, y_agg, y_ownp, y_own, z_nil, z_int, z_bool, z_str, z_sl, z_nils, b_nil, b_arr, b_box1, b_box2, b_box3, b_box4, List.map_cons, List.map_nil, Bool.and_self, Bool.and_true, Bool.true_and, Bool.not_true, Bool.not_false, Bool.or_false, Bool.false_or, cond_true, cond_false, okPack, okPut, okPutBlks, okPutCells, q_isP, q_isAg, q_isBox, q_isArr, q_int, q_bool, q_str, q_sl, q_nils, e_exit, e_ret, e_nrm, e_ret_exit, e_exit_ret, e_nrm_exit, e_nrm_ret, e_exit_nrm, e_ret_nrm, Nat.zero_add, Nat.reduceAdd, noslR, noslP, noslB, noslA, List.all_cons, List.all_nil]
    rw [hl, c_Same l l (by omega)]
    simp only [beq_self_eq_true, bne_self_eq_false, bnd_some, ctl_true, ctl_false, ctl_and, ctl_or', ctl_or2, x_toPV, x_toCs, x_toCs2, x_toEs, x_bEs, x_bCs, x_aPV, x_aCs, x_int, x_bool, x_str, x_es, x_esn, nth_0, nth_1, nth_2, nth_3, nth_4, nth_5, nth_6, nth_7, nth_8, nth_9, y_nil, y_int, y_bool, y_str, y_sl, y_nils, y_agg, y_ownp, y_own, z_nil, z_int, z_bool, z_str, z_sl, z_nils, b_nil, b_arr, b_box1, b_box2, b_box3, b_box4, List.map_cons, List.map_nil, Bool.and_self, Bool.and_true, Bool.true_and, Bool.not_true, Bool.not_false, Bool.or_false, Bool.false_or, cond_true, cond_false, okPack, okPut, okPutBlks, okPutCells, q_isP, q_isAg, q_isBox, q_isArr, q_int, q_bool, q_str, q_sl, q_nils, e_exit, e_ret, e_nrm, e_ret_exit, e_exit_ret, e_nrm_exit, e_nrm_ret, e_exit_nrm, e_ret_nrm, Nat.zero_add, Nat.reduceAdd, noslR, noslP, noslB, noslA, List.all_cons, List.all_nil]
    rw [strsK_length, show ltB 0 (l.length : Int) = false from decide_eq_false (by omega), ctl_dec, if_pos (by omega)]
    simp only [bnd_some, ctl_true, ctl_false, ctl_and, ctl_or', ctl_or2, x_toPV, x_toCs, x_toCs2, x_toEs, x_bEs, x_bCs, x_aPV, x_aCs, x_int, x_bool, x_str, x_es, x_esn, nth_0, nth_1, nth_2, nth_3, nth_4, nth_5, nth_6, nth_7, nth_8, nth_9, y_nil, y_int, y_bool, y_str, y_sl, y_nils, y_agg, y_ownp, y_own, z_nil, z_int, z_bool, z_str, z_sl, z_nils, b_nil, b_arr, b_box1, b_box2, b_box3, b_box4, List.map_cons, List.map_nil, Bool.and_self, Bool.and_true, Bool.true_and, Bool.not_true, Bool.not_false, Bool.or_false, Bool.false_or, cond_true, cond_false, okPack, okPut, okPutBlks, okPutCells, q_isP, q_isAg, q_isBox, q_isArr, q_int, q_bool, q_str, q_sl, q_nils, e_exit, e_ret, e_nrm, e_ret_exit, e_exit_ret, e_nrm_exit, e_nrm_ret, e_exit_nrm, e_ret_nrm, Nat.zero_add, Nat.reduceAdd, noslR, noslP, noslB, noslA, List.all_cons, List.all_nil]
    have h4 := l4_4 text n x y w j (strsK odd) (intsK .i64 L) (k : Int) l l odd (by
      intro z hz
      rcases List.mem_cons.1 hz with rfl | hz
      · exact hlL
      · rcases List.mem_cons.1 hz with rfl | hz
        · exact hlL
        · rw [List.mem_singleton] at hz; subst hz; exact hoL)
    rw [h4]
    simp only [bnd_some, ctl_true, ctl_false, ctl_and, ctl_or', ctl_or2, x_toPV, x_toCs, x_toCs2, x_toEs, x_bEs, x_bCs, x_aPV, x_aCs, x_int, x_bool, x_str, x_es, x_esn, nth_0, nth_1, nth_2, nth_3, nth_4, nth_5, nth_6, nth_7, nth_8, nth_9, y_nil, y_int, y_bool, y_str, y_sl, y_nils, y_agg, y_ownp, y_own, z_nil, z_int, z_bool, z_str, z_sl, z_nils, b_nil, b_arr, b_box1, b_box2, b_box3, b_box4, List.map_cons, List.map_nil, Bool.and_self, Bool.and_true, Bool.true_and, Bool.not_true, Bool.not_false, Bool.or_false, Bool.false_or, cond_true, cond_false, okPack, okPut, okPutBlks, okPutCells, q_isP, q_isAg, q_isBox, q_isArr, q_int, q_bool, q_str, q_sl, q_nils, e_exit, e_ret, e_nrm, e_ret_exit, e_exit_ret, e_nrm_exit, e_nrm_ret, e_exit_nrm, e_ret_nrm, Nat.zero_add, Nat.reduceAdd, noslR, noslP, noslB, noslA, List.all_cons, List.all_nil]
    rw [w64 (by omega)]
    rfl
  · have hv := vN_bounds (L := L) (k := k) (n := (l.length : Int)) (by omega)
    have k1 := at'_le hL hk
    have k2 := at'_le hL k1
    have hbm := vText_mem L (at' L k) (l := bents) (by decide)
    refine ⟨at' L (at' L k), k2, ?_⟩
    rw [r4_2, ctl_dec, if_pos (by omega), hg]
    simp only [bnd_some, ctl_true, ctl_false, ctl_and, ctl_or', ctl_or2, x_toPV, x_toCs, x_toCs2, x_toEs, x_bEs, x_bCs, x_aPV, x_aCs, x_int, x_bool, x_str, x_es, x_esn, nth_0, nth_1, nth_2, nth_3, nth_4, nth_5, nth_6, nth_7, nth_8, nth_9, y_nil, y_int, y_bool, y_str, y_sl, y_nils, y_agg, y_ownp, y_own, z_nil, z_int, z_bool, z_str, z_sl, z_nils, b_nil, b_arr, b_box1, b_box2, b_box3, b_box4, List.map_cons, List.map_nil, Bool.and_self, Bool.and_true, Bool.true_and, Bool.not_true, Bool.not_false, Bool.or_false, Bool.false_or, cond_true, cond_false, okPack, okPut, okPutBlks, okPutCells, q_isP, q_isAg, q_isBox, q_isArr, q_int, q_bool, q_str, q_sl, q_nils, e_exit, e_ret, e_nrm, e_ret_exit, e_exit_ret, e_nrm_exit, e_nrm_ret, e_exit_nrm, e_ret_nrm, Nat.zero_add, Nat.reduceAdd, noslR, noslP, noslB, noslA, List.all_cons, List.all_nil]
    rw [hW, hW2, hV, hV2]
    simp only [wrP_sh, beq_self_eq_true, bne_self_eq_false, bnd_some, ctl_true, ctl_false, ctl_and, ctl_or', ctl_or2, x_toPV, x_toCs, x_toCs2, x_toEs, x_bEs, x_bCs, x_aPV, x_aCs, x_int, x_bool, x_str, x_es, x_esn, nth_0, nth_1, nth_2, nth_3, nth_4, nth_5, nth_6, nth_7, nth_8, nth_9, y_nil, y_int, y_bool, y_str, y_sl, y_nils, y_agg, y_ownp, y_own, z_nil, z_int, z_bool, z_str, z_sl, z_nils, b_nil, b_arr, b_box1, b_box2, b_box3, b_box4, List.map_cons, List.map_nil, Bool.and_self, Bool.and_true, Bool.true_and, Bool.not_true, Bool.not_false, Bool.or_false, Bool.false_or, cond_true, cond_false, okPack, okPut, okPutBlks, okPutCells, q_isP, q_isAg, q_isBox, q_isArr, q_int, q_bool, q_str, q_sl, q_nils, e_exit, e_ret, e_nrm, e_ret_exit, e_exit_ret, e_nrm_exit, e_nrm_ret, e_exit_nrm, e_ret_nrm, Nat.zero_add, Nat.reduceAdd, noslR, noslP, noslB, noslA, List.all_cons, List.all_nil]
    rw [hl, c_Same l l (by omega)]
    simp only [beq_self_eq_true, bne_self_eq_false, bnd_some, ctl_true, ctl_false, ctl_and, ctl_or', ctl_or2, x_toPV, x_toCs, x_toCs2, x_toEs, x_bEs, x_bCs, x_aPV, x_aCs, x_int, x_bool, x_str, x_es, x_esn, nth_0, nth_1, nth_2, nth_3, nth_4, nth_5, nth_6, nth_7, nth_8, nth_9, y_nil, y_int, y_bool, y_str, y_sl, y_nils, y_agg, y_ownp, y_own, z_nil, z_int, z_bool, z_str, z_sl, z_nils, b_nil, b_arr, b_box1, b_box2, b_box3, b_box4, List.map_cons, List.map_nil, Bool.and_self, Bool.and_true, Bool.true_and, Bool.not_true, Bool.not_false, Bool.or_false, Bool.false_or, cond_true, cond_false, okPack, okPut, okPutBlks, okPutCells, q_isP, q_isAg, q_isBox, q_isArr, q_int, q_bool, q_str, q_sl, q_nils, e_exit, e_ret, e_nrm, e_ret_exit, e_exit_ret, e_nrm_exit, e_nrm_ret, e_exit_nrm, e_ret_nrm, Nat.zero_add, Nat.reduceAdd, noslR, noslP, noslB, noslA, List.all_cons, List.all_nil]
    rw [strsK_length, show ltB 0 (l.length : Int) = true from decide_eq_true (by omega), ctl_dec, if_pos (by omega)]
    simp only [bnd_some, ctl_true, ctl_false, ctl_and, ctl_or', ctl_or2, x_toPV, x_toCs, x_toCs2, x_toEs, x_bEs, x_bCs, x_aPV, x_aCs, x_int, x_bool, x_str, x_es, x_esn, nth_0, nth_1, nth_2, nth_3, nth_4, nth_5, nth_6, nth_7, nth_8, nth_9, y_nil, y_int, y_bool, y_str, y_sl, y_nils, y_agg, y_ownp, y_own, z_nil, z_int, z_bool, z_str, z_sl, z_nils, b_nil, b_arr, b_box1, b_box2, b_box3, b_box4, List.map_cons, List.map_nil, Bool.and_self, Bool.and_true, Bool.true_and, Bool.not_true, Bool.not_false, Bool.or_false, Bool.false_or, cond_true, cond_false, okPack, okPut, okPutBlks, okPutCells, q_isP, q_isAg, q_isBox, q_isArr, q_int, q_bool, q_str, q_sl, q_nils, e_exit, e_ret, e_nrm, e_ret_exit, e_exit_ret, e_nrm_exit, e_nrm_ret, e_exit_nrm, e_ret_nrm, Nat.zero_add, Nat.reduceAdd, noslR, noslP, noslB, noslA, List.all_cons, List.all_nil]
    rw [c_N hL hk _ (by omega)]
    simp only [bnd_some, ctl_true, ctl_false, ctl_and, ctl_or', ctl_or2, x_toPV, x_toCs, x_toCs2, x_toEs, x_bEs, x_bCs, x_aPV, x_aCs, x_int, x_bool, x_str, x_es, x_esn, nth_0, nth_1, nth_2, nth_3, nth_4, nth_5, nth_6, nth_7, nth_8, nth_9, y_nil, y_int, y_bool, y_str, y_sl, y_nils, y_agg, y_ownp, y_own, z_nil, z_int, z_bool, z_str, z_sl, z_nils, b_nil, b_arr, b_box1, b_box2, b_box3, b_box4, List.map_cons, List.map_nil, Bool.and_self, Bool.and_true, Bool.true_and, Bool.not_true, Bool.not_false, Bool.or_false, Bool.false_or, cond_true, cond_false, okPack, okPut, okPutBlks, okPutCells, q_isP, q_isAg, q_isBox, q_isArr, q_int, q_bool, q_str, q_sl, q_nils, e_exit, e_ret, e_nrm, e_ret_exit, e_exit_ret, e_nrm_exit, e_nrm_ret, e_exit_nrm, e_ret_nrm, Nat.zero_add, Nat.reduceAdd, noslR, noslP, noslB, noslA, List.all_cons, List.all_nil]
    rw [hbl, c_SText hL k1 (by decide)]
    simp only [bnd_some, ctl_true, ctl_false, ctl_and, ctl_or', ctl_or2, x_toPV, x_toCs, x_toCs2, x_toEs, x_bEs, x_bCs, x_aPV, x_aCs, x_int, x_bool, x_str, x_es, x_esn, nth_0, nth_1, nth_2, nth_3, nth_4, nth_5, nth_6, nth_7, nth_8, nth_9, y_nil, y_int, y_bool, y_str, y_sl, y_nils, y_agg, y_ownp, y_own, z_nil, z_int, z_bool, z_str, z_sl, z_nils, b_nil, b_arr, b_box1, b_box2, b_box3, b_box4, List.map_cons, List.map_nil, Bool.and_self, Bool.and_true, Bool.true_and, Bool.not_true, Bool.not_false, Bool.or_false, Bool.false_or, cond_true, cond_false, okPack, okPut, okPutBlks, okPutCells, q_isP, q_isAg, q_isBox, q_isArr, q_int, q_bool, q_str, q_sl, q_nils, e_exit, e_ret, e_nrm, e_ret_exit, e_exit_ret, e_nrm_exit, e_nrm_ret, e_exit_nrm, e_ret_nrm, Nat.zero_add, Nat.reduceAdd, noslR, noslP, noslB, noslA, List.all_cons, List.all_nil]
    rw [in_r hv, setEs_strs (by omega)]
    simp only [bnd_some, ctl_true, ctl_false, ctl_and, ctl_or', ctl_or2, x_toPV, x_toCs, x_toCs2, x_toEs, x_bEs, x_bCs, x_aPV, x_aCs, x_int, x_bool, x_str, x_es, x_esn, nth_0, nth_1, nth_2, nth_3, nth_4, nth_5, nth_6, nth_7, nth_8, nth_9, y_nil, y_int, y_bool, y_str, y_sl, y_nils, y_agg, y_ownp, y_own, z_nil, z_int, z_bool, z_str, z_sl, z_nils, b_nil, b_arr, b_box1, b_box2, b_box3, b_box4, List.map_cons, List.map_nil, Bool.and_self, Bool.and_true, Bool.true_and, Bool.not_true, Bool.not_false, Bool.or_false, Bool.false_or, cond_true, cond_false, okPack, okPut, okPutBlks, okPutCells, q_isP, q_isAg, q_isBox, q_isArr, q_int, q_bool, q_str, q_sl, q_nils, e_exit, e_ret, e_nrm, e_ret_exit, e_exit_ret, e_nrm_exit, e_nrm_ret, e_exit_nrm, e_ret_nrm, Nat.zero_add, Nat.reduceAdd, noslR, noslP, noslB, noslA, List.all_cons, List.all_nil]
    have hset : (l.set (vN L k (l.length : Int)).toNat (vText L (at' L k) bents)).length ≤ 100000 ∧ ∀ f ∈ l.set (vN L k (l.length : Int)).toNat (vText L (at' L k) bents), f.length ≤ 1000000 := by
      refine ⟨by rw [List.length_set]; omega, fun f hf => ?_⟩
      rcases List.mem_or_eq_of_mem_set hf with hf | rfl
      · have := hlf f hf; omega
      · have := bents_len _ hbm; omega
    have h4 := l4_4 text n x y w j (strsK odd) (intsK .i64 L) (at' L (at' L k) : Int) l (l.set (vN L k (l.length : Int)).toNat (vText L (at' L k) bents)) odd (by
      intro z hz
      rcases List.mem_cons.1 hz with rfl | hz
      · exact hlL
      · rcases List.mem_cons.1 hz with rfl | hz
        · exact hset
        · rw [List.mem_singleton] at hz; subst hz; exact hoL)
    rw [h4]
    simp only [bnd_some, ctl_true, ctl_false, ctl_and, ctl_or', ctl_or2, x_toPV, x_toCs, x_toCs2, x_toEs, x_bEs, x_bCs, x_aPV, x_aCs, x_int, x_bool, x_str, x_es, x_esn, nth_0, nth_1, nth_2, nth_3, nth_4, nth_5, nth_6, nth_7, nth_8, nth_9, y_nil, y_int, y_bool, y_str, y_sl, y_nils, y_agg, y_ownp, y_own, z_nil, z_int, z_bool, z_str, z_sl, z_nils, b_nil, b_arr, b_box1, b_box2, b_box3, b_box4, List.map_cons, List.map_nil, Bool.and_self, Bool.and_true, Bool.true_and, Bool.not_true, Bool.not_false, Bool.or_false, Bool.false_or, cond_true, cond_false, okPack, okPut, okPutBlks, okPutCells, q_isP, q_isAg, q_isBox, q_isArr, q_int, q_bool, q_str, q_sl, q_nils, e_exit, e_ret, e_nrm, e_ret_exit, e_exit_ret, e_nrm_exit, e_nrm_ret, e_exit_nrm, e_ret_nrm, Nat.zero_add, Nat.reduceAdd, noslR, noslP, noslB, noslA, List.all_cons, List.all_nil]
    rw [w64 (by omega)]
    rfl

/-! ### The texts of numbers -/
theorem s4_6 (n : Int) (z0 z1 z2 z3 : List UInt8) (i : Int) (hi : 0 ≤ i ∧ i < 4) (z : List UInt8) (hz : z.length ≤ 1000000) (hg : ∀ K : List PV → Option (Ex × Pack), getE [[PV.str z0], [PV.str z1], [PV.str z2], [PV.str z3]] i K = K [PV.str z]) :
    lp E (denC E) 4 0 [] 6 { vals := [AV.int .i64 n, AV.agg [PV.str z0, PV.str z1, PV.str z2, PV.str z3], AV.int .i64 i], blks := [] } =
    lp E (denC E) 4 0 [] 6 { vals := [AV.int .i64 n, AV.agg [PV.str z0, PV.str z1, PV.str z2, PV.str z3], AV.int .i64 (i + 1)], blks := [] } := by
  rw [r4_6, ctl_dec, if_pos (by omega), hg]
  simp only [bnd_some, ctl_true, ctl_false, ctl_and, ctl_or', ctl_or2, x_toPV, x_toCs, x_toCs2, x_toEs, x_bEs, x_bCs, x_aPV, x_aCs, x_int, x_bool, x_str, x_es, x_esn, nth_0, nth_1, nth_2, nth_3, nth_4, nth_5, nth_6, nth_7, nth_8, nth_9, y_nil, y_int, y_bool, y_str, y_sl, y_nils, y_agg, y_ownp, y_own, z_nil, z_int, z_bool, z_str, z_sl, z_nils, b_nil, b_arr, b_box1, b_box2, b_box3, b_box4, List.map_cons, List.map_nil, Bool.and_self, Bool.and_true, Bool.true_and, Bool.not_true, Bool.not_false, Bool.or_false, Bool.false_or, cond_true, cond_false, okPack, okPut, okPutBlks, okPutCells, q_isP, q_isAg, q_isBox, q_isArr, q_int, q_bool, q_str, q_sl, q_nils, e_exit, e_ret, e_nrm, e_ret_exit, e_exit_ret, e_nrm_exit, e_nrm_ret, e_exit_nrm, e_ret_nrm, Nat.zero_add, Nat.reduceAdd, noslR, noslP, noslB, noslA, List.all_cons, List.all_nil]
  rw [c_Number z hz, c_rNumber z hz]
  simp only [beq_self_eq_true, bne_self_eq_false, bnd_some, ctl_true, ctl_false, ctl_and, ctl_or', ctl_or2, x_toPV, x_toCs, x_toCs2, x_toEs, x_bEs, x_bCs, x_aPV, x_aCs, x_int, x_bool, x_str, x_es, x_esn, nth_0, nth_1, nth_2, nth_3, nth_4, nth_5, nth_6, nth_7, nth_8, nth_9, y_nil, y_int, y_bool, y_str, y_sl, y_nils, y_agg, y_ownp, y_own, z_nil, z_int, z_bool, z_str, z_sl, z_nils, b_nil, b_arr, b_box1, b_box2, b_box3, b_box4, List.map_cons, List.map_nil, Bool.and_self, Bool.and_true, Bool.true_and, Bool.not_true, Bool.not_false, Bool.or_false, Bool.false_or, cond_true, cond_false, okPack, okPut, okPutBlks, okPutCells, q_isP, q_isAg, q_isBox, q_isArr, q_int, q_bool, q_str, q_sl, q_nils, e_exit, e_ret, e_nrm, e_ret_exit, e_exit_ret, e_nrm_exit, e_nrm_ret, e_exit_nrm, e_ret_nrm, Nat.zero_add, Nat.reduceAdd, noslR, noslP, noslB, noslA, List.all_cons, List.all_nil]
  rw [w64 (by omega)]

theorem l4_6 (n : Int) (z0 z1 z2 z3 : List UInt8) (h0 : z0.length ≤ 1000000) (h1 : z1.length ≤ 1000000) (h2 : z2.length ≤ 1000000) (h3 : z3.length ≤ 1000000) :
    lp E (denC E) 4 0 [] 6 { vals := [AV.int .i64 n, AV.agg [PV.str z0, PV.str z1, PV.str z2, PV.str z3], AV.int .i64 0], blks := [] } = some (Ex.exit 6, { vals := [AV.int .i64 n], blks := [] }) := by
  rw [s4_6 n z0 z1 z2 z3 0 (by omega) z0 h0 (fun K => rfl), s4_6 n z0 z1 z2 z3 (0 + 1) (by omega) z1 h1 (fun K => rfl), s4_6 n z0 z1 z2 z3 (0 + 1 + 1) (by omega) z2 h2 (fun K => rfl), s4_6 n z0 z1 z2 z3 (0 + 1 + 1 + 1) (by omega) z3 h3 (fun K => rfl), r4_6]
  rfl

def nums8 : List (List UInt8) := [[45], [48], [45, 48], [48, 48], [49, 50, 51, 52, 53, 54, 55, 56, 57, 48], [49, 50, 51, 52, 53, 54, 55, 56, 57, 48, 49], [45, 53], [43, 53]]
theorem nums8_len : ∀ x ∈ nums8, x.length ≤ 11 := by decide

theorem d_SignalExact (t : List Int) (_ : t.length ≤ maxLen) (_ : ∀ n ∈ t, -9223372036854775808 ≤ n ∧ n ≤ 9223372036854775807) (raw : AV) (hraw : WFA Tryd.prog 26 raw) (odd : AV) (hodd : WFA Tryd.prog 30 odd)
    (text : List UInt8) (_ : text.length ≤ maxLen) (n : Int) (hn : -9223372036854775808 ≤ n ∧ n ≤ 9223372036854775807) :
    denC E 4 [AV.sl 1 (intsK .i64 t), raw, odd, AV.str text, AV.int .i64 n] [] = some ([RV.p (PV.bool true)], []) := by
  obtain ⟨w, rfl⟩ := in_Sig hraw
  obtain ⟨o, rfl, _⟩ := in_Sen hodd
  simp only [sgC]
  rw [denC_eq, r4, c_sane6, strsK_length]
  by_cases h1 : o.length ≤ 20
  · by_cases h2 : text.length ≤ 60
    · have e1 : ltB 20 (o.length : Int) = false := decide_eq_false (by omega)
      have e2 : ltB 60 (text.length : Int) = false := decide_eq_false (by omega)
      rw [e1, e2]
      simp only [bnd_some, ctl_true, ctl_false, ctl_and, ctl_or', ctl_or2, x_toPV, x_toCs, x_toCs2, x_toEs, x_bEs, x_bCs, x_aPV, x_aCs, x_int, x_bool, x_str, x_es, x_esn, nth_0, nth_1, nth_2, nth_3, nth_4, nth_5, nth_6, nth_7, nth_8, nth_9, y_nil, y_int, y_bool, y_str, y_sl, y_nils, y_agg, y_ownp, y_own, z_nil, z_int, z_bool, z_str, z_sl, z_nils, b_nil, b_arr, b_box1, b_box2, b_box3, b_box4, List.map_cons, List.map_nil, Bool.and_self, Bool.and_true, Bool.true_and, Bool.not_true, Bool.not_false, Bool.or_false, Bool.false_or, cond_true, cond_false, okPack, okPut, okPutBlks, okPutCells, q_isP, q_isAg, q_isBox, q_isArr, q_int, q_bool, q_str, q_sl, q_nils, e_exit, e_ret, e_nrm, e_ret_exit, e_exit_ret, e_nrm_exit, e_nrm_ret, e_exit_nrm, e_ret_nrm, Nat.zero_add, Nat.reduceAdd, noslR, noslP, noslB, noslA, List.all_cons, List.all_nil]
      have hsh := l_short (intsK .i64 t) text n w (strsK o) o [] (by simp; omega)
      simp only [List.nil_append, List.length_nil] at hsh
      rw [show (AV.int IntKind.i64 0) = AV.int .i64 ((0 : Nat) : Int) from rfl, hsh]
      cases hall : o.all fun f => !ltB 60 (f.length : Int) with
      | false =>
        simp only [bnd_some, ctl_true, ctl_false, ctl_and, ctl_or', ctl_or2, x_toPV, x_toCs, x_toCs2, x_toEs, x_bEs, x_bCs, x_aPV, x_aCs, x_int, x_bool, x_str, x_es, x_esn, nth_0, nth_1, nth_2, nth_3, nth_4, nth_5, nth_6, nth_7, nth_8, nth_9, y_nil, y_int, y_bool, y_str, y_sl, y_nils, y_agg, y_ownp, y_own, z_nil, z_int, z_bool, z_str, z_sl, z_nils, b_nil, b_arr, b_box1, b_box2, b_box3, b_box4, List.map_cons, List.map_nil, Bool.and_self, Bool.and_true, Bool.true_and, Bool.not_true, Bool.not_false, Bool.or_false, Bool.false_or, cond_true, cond_false, okPack, okPut, okPutBlks, okPutCells, q_isP, q_isAg, q_isBox, q_isArr, q_int, q_bool, q_str, q_sl, q_nils, e_exit, e_ret, e_nrm, e_ret_exit, e_exit_ret, e_nrm_exit, e_nrm_ret, e_exit_nrm, e_ret_nrm, Nat.zero_add, Nat.reduceAdd, noslR, noslP, noslB, noslA, List.all_cons, List.all_nil]
      | true =>
        have ho : o.length ≤ 20 ∧ ∀ f ∈ o, f.length ≤ 1000 := ⟨h1, fun f hf => by
          have := List.all_eq_true.1 hall f hf
          simp only [Bool.not_eq_true', decide_eq_false_iff_not] at this
          omega⟩
        simp only [cond_true, bnd_some, ctl_true, ctl_false, ctl_and, ctl_or', ctl_or2, x_toPV, x_toCs, x_toCs2, x_toEs, x_bEs, x_bCs, x_aPV, x_aCs, x_int, x_bool, x_str, x_es, x_esn, nth_0, nth_1, nth_2, nth_3, nth_4, nth_5, nth_6, nth_7, nth_8, nth_9, y_nil, y_int, y_bool, y_str, y_sl, y_nils, y_agg, y_ownp, y_own, z_nil, z_int, z_bool, z_str, z_sl, z_nils, b_nil, b_arr, b_box1, b_box2, b_box3, b_box4, List.map_cons, List.map_nil, Bool.and_self, Bool.and_true, Bool.true_and, Bool.not_true, Bool.not_false, Bool.or_false, Bool.false_or, cond_true, cond_false, okPack, okPut, okPutBlks, okPutCells, q_isP, q_isAg, q_isBox, q_isArr, q_int, q_bool, q_str, q_sl, q_nils, e_exit, e_ret, e_nrm, e_ret_exit, e_exit_ret, e_nrm_exit, e_nrm_ret, e_exit_nrm, e_ret_nrm, Nat.zero_add, Nat.reduceAdd, noslR, noslP, noslB, noslA, List.all_cons, List.all_nil]
        rw [c_New]
        simp only [bnd_some, ctl_true, ctl_false, ctl_and, ctl_or', ctl_or2, x_toPV, x_toCs, x_toCs2, x_toEs, x_bEs, x_bCs, x_aPV, x_aCs, x_int, x_bool, x_str, x_es, x_esn, nth_0, nth_1, nth_2, nth_3, nth_4, nth_5, nth_6, nth_7, nth_8, nth_9, y_nil, y_int, y_bool, y_str, y_sl, y_nils, y_agg, y_ownp, y_own, z_nil, z_int, z_bool, z_str, z_sl, z_nils, b_nil, b_arr, b_box1, b_box2, b_box3, b_box4, List.map_cons, List.map_nil, Bool.and_self, Bool.and_true, Bool.true_and, Bool.not_true, Bool.not_false, Bool.or_false, Bool.false_or, cond_true, cond_false, okPack, okPut, okPutBlks, okPutCells, q_isP, q_isAg, q_isBox, q_isArr, q_int, q_bool, q_str, q_sl, q_nils, e_exit, e_ret, e_nrm, e_ret_exit, e_exit_ret, e_nrm_exit, e_nrm_ret, e_exit_nrm, e_ret_nrm, Nat.zero_add, Nat.reduceAdd, noslR, noslP, noslB, noslA, List.all_cons, List.all_nil]
        have hL := Lle (t := t)
        generalize t.take 600 = L at hL
        obtain ⟨x, k1, hv, hk1, hS⟩ := c_Signal (L := L) (k := 0) hL (by omega)
        obtain ⟨y, k2, hk2, hB⟩ := c_Bent hL hk1 x
        simp only [sgC] at hS hB
        rw [src_zero, hS]
        simp only [bnd_some, ctl_true, ctl_false, ctl_and, ctl_or', ctl_or2, x_toPV, x_toCs, x_toCs2, x_toEs, x_bEs, x_bCs, x_aPV, x_aCs, x_int, x_bool, x_str, x_es, x_esn, nth_0, nth_1, nth_2, nth_3, nth_4, nth_5, nth_6, nth_7, nth_8, nth_9, y_nil, y_int, y_bool, y_str, y_sl, y_nils, y_agg, y_ownp, y_own, z_nil, z_int, z_bool, z_str, z_sl, z_nils, b_nil, b_arr, b_box1, b_box2, b_box3, b_box4, List.map_cons, List.map_nil, Bool.and_self, Bool.and_true, Bool.true_and, Bool.not_true, Bool.not_false, Bool.or_false, Bool.false_or, cond_true, cond_false, okPack, okPut, okPutBlks, okPutCells, q_isP, q_isAg, q_isBox, q_isArr, q_int, q_bool, q_str, q_sl, q_nils, e_exit, e_ret, e_nrm, e_ret_exit, e_exit_ret, e_nrm_exit, e_nrm_ret, e_exit_nrm, e_ret_nrm, Nat.zero_add, Nat.reduceAdd, noslR, noslP, noslB, noslA, List.all_cons, List.all_nil]
        rw [hB]
        simp only [bnd_some, ctl_true, ctl_false, ctl_and, ctl_or', ctl_or2, x_toPV, x_toCs, x_toCs2, x_toEs, x_bEs, x_bCs, x_aPV, x_aCs, x_int, x_bool, x_str, x_es, x_esn, nth_0, nth_1, nth_2, nth_3, nth_4, nth_5, nth_6, nth_7, nth_8, nth_9, y_nil, y_int, y_bool, y_str, y_sl, y_nils, y_agg, y_ownp, y_own, z_nil, z_int, z_bool, z_str, z_sl, z_nils, b_nil, b_arr, b_box1, b_box2, b_box3, b_box4, List.map_cons, List.map_nil, Bool.and_self, Bool.and_true, Bool.true_and, Bool.not_true, Bool.not_false, Bool.or_false, Bool.false_or, cond_true, cond_false, okPack, okPut, okPutBlks, okPutCells, q_isP, q_isAg, q_isBox, q_isArr, q_int, q_bool, q_str, q_sl, q_nils, e_exit, e_ret, e_nrm, e_ret_exit, e_exit_ret, e_nrm_exit, e_nrm_ret, e_exit_nrm, e_ret_nrm, Nat.zero_add, Nat.reduceAdd, noslR, noslP, noslB, noslA, List.all_cons, List.all_nil]
        obtain ⟨k3, hk3, q1⟩ := s4_2 hL hk2 text n x y w 0 (by omega) o ho x (fun K => rfl)
        obtain ⟨k4, hk4, q2⟩ := s4_2 hL hk3 text n x y w (0 + 1) (by omega) o ho y (fun K => rfl)
        obtain ⟨k5, hk5, q3⟩ := s4_2 hL hk4 text n x y w (0 + 1 + 1) (by omega) o ho w (fun K => rfl)
        have q4 : lp E (denC E) 4 0 [] 2 (st2 text n x y w (0 + 1 + 1 + 1) (strsK o) (src L k5)) = some (Ex.exit 2, { vals := [AV.str text, AV.int .i64 n], blks := [src L k5] }) := by
          rw [r4_2]; rfl
        have q := q1.trans (q2.trans (q3.trans q4))
        unfold st2 at q
        have q' : lp E (denC E) 4 0 [] 2 { vals := [AV.str text, AV.int .i64 n, AV.agg [PV.int .i64 x.k, PV.int .i64 x.s, PV.int .i64 x.t, PV.int .i64 x.a, PV.int .i64 x.b, PV.int .i64 x.c, PV.int .i64 y.k, PV.int .i64 y.s, PV.int .i64 y.t, PV.int .i64 y.a, PV.int .i64 y.b, PV.int .i64 y.c, PV.int .i64 w.k, PV.int .i64 w.s, PV.int .i64 w.t, PV.int .i64 w.a, PV.int .i64 w.b, PV.int .i64 w.c], AV.int .i64 ((0 : Nat) : Int)], blks := [Blk.box [AV.sl 1 (strsK o)], src L k2] } = _ := q
        rw [q']
        simp only [bnd_some, ctl_true, ctl_false, ctl_and, ctl_or', ctl_or2, x_toPV, x_toCs, x_toCs2, x_toEs, x_bEs, x_bCs, x_aPV, x_aCs, x_int, x_bool, x_str, x_es, x_esn, nth_0, nth_1, nth_2, nth_3, nth_4, nth_5, nth_6, nth_7, nth_8, nth_9, y_nil, y_int, y_bool, y_str, y_sl, y_nils, y_agg, y_ownp, y_own, z_nil, z_int, z_bool, z_str, z_sl, z_nils, b_nil, b_arr, b_box1, b_box2, b_box3, b_box4, List.map_cons, List.map_nil, Bool.and_self, Bool.and_true, Bool.true_and, Bool.not_true, Bool.not_false, Bool.or_false, Bool.false_or, cond_true, cond_false, okPack, okPut, okPutBlks, okPutCells, q_isP, q_isAg, q_isBox, q_isArr, q_int, q_bool, q_str, q_sl, q_nils, e_exit, e_ret, e_nrm, e_ret_exit, e_exit_ret, e_nrm_exit, e_nrm_ret, e_exit_nrm, e_ret_nrm, Nat.zero_add, Nat.reduceAdd, noslR, noslP, noslB, noslA, List.all_cons, List.all_nil]
        rw [show ([[PV.str [45]], [PV.str [48]], [PV.str [45, 48]], [PV.str [48, 48]], [PV.str [49, 50, 51, 52, 53, 54, 55, 56, 57, 48]], [PV.str [49, 50, 51, 52, 53, 54, 55, 56, 57, 48, 49]], [PV.str [45, 53]], [PV.str [43, 53]]] : List (List PV)) = strsK nums8 from rfl, c_SText hL hk5 (by decide)]
        simp only [bnd_some, ctl_true, ctl_false, ctl_and, ctl_or', ctl_or2, x_toPV, x_toCs, x_toCs2, x_toEs, x_bEs, x_bCs, x_aPV, x_aCs, x_int, x_bool, x_str, x_es, x_esn, nth_0, nth_1, nth_2, nth_3, nth_4, nth_5, nth_6, nth_7, nth_8, nth_9, y_nil, y_int, y_bool, y_str, y_sl, y_nils, y_agg, y_ownp, y_own, z_nil, z_int, z_bool, z_str, z_sl, z_nils, b_nil, b_arr, b_box1, b_box2, b_box3, b_box4, List.map_cons, List.map_nil, Bool.and_self, Bool.and_true, Bool.true_and, Bool.not_true, Bool.not_false, Bool.or_false, Bool.false_or, cond_true, cond_false, okPack, okPut, okPutBlks, okPutCells, q_isP, q_isAg, q_isBox, q_isArr, q_int, q_bool, q_str, q_sl, q_nils, e_exit, e_ret, e_nrm, e_ret_exit, e_exit_ret, e_nrm_exit, e_nrm_ret, e_exit_nrm, e_ret_nrm, Nat.zero_add, Nat.reduceAdd, noslR, noslP, noslB, noslA, List.all_cons, List.all_nil]
        have hnm := nums8_len _ (vText_mem L k5 (l := nums8) (by decide))
        have hil := itoa_len hn
        have l6 := l4_6 n text (vText L k5 nums8) (Lib.itoa n) [] (by omega) (by omega) (by omega) (by simp)
        rw [c_STx n hn]
        simp only [bnd_some, ctl_true, ctl_false, ctl_and, ctl_or', ctl_or2, x_toPV, x_toCs, x_toCs2, x_toEs, x_bEs, x_bCs, x_aPV, x_aCs, x_int, x_bool, x_str, x_es, x_esn, nth_0, nth_1, nth_2, nth_3, nth_4, nth_5, nth_6, nth_7, nth_8, nth_9, y_nil, y_int, y_bool, y_str, y_sl, y_nils, y_agg, y_ownp, y_own, z_nil, z_int, z_bool, z_str, z_sl, z_nils, b_nil, b_arr, b_box1, b_box2, b_box3, b_box4, List.map_cons, List.map_nil, Bool.and_self, Bool.and_true, Bool.true_and, Bool.not_true, Bool.not_false, Bool.or_false, Bool.false_or, cond_true, cond_false, okPack, okPut, okPutBlks, okPutCells, q_isP, q_isAg, q_isBox, q_isArr, q_int, q_bool, q_str, q_sl, q_nils, e_exit, e_ret, e_nrm, e_ret_exit, e_exit_ret, e_nrm_exit, e_nrm_ret, e_exit_nrm, e_ret_nrm, Nat.zero_add, Nat.reduceAdd, noslR, noslP, noslB, noslA, List.all_cons, List.all_nil]
        have l6' : lp E (denC E) 4 0 [] 6 { vals := [AV.int .i64 n, AV.agg [PV.str text, PV.str (vText L k5 nums8), PV.str (Lib.itoa n), PV.str []], AV.int .i64 ((0 : Nat) : Int)], blks := [] } = _ := l6
        rw [l6']
        simp only [bnd_some, ctl_true, ctl_false, ctl_and, ctl_or', ctl_or2, x_toPV, x_toCs, x_toCs2, x_toEs, x_bEs, x_bCs, x_aPV, x_aCs, x_int, x_bool, x_str, x_es, x_esn, nth_0, nth_1, nth_2, nth_3, nth_4, nth_5, nth_6, nth_7, nth_8, nth_9, y_nil, y_int, y_bool, y_str, y_sl, y_nils, y_agg, y_ownp, y_own, z_nil, z_int, z_bool, z_str, z_sl, z_nils, b_nil, b_arr, b_box1, b_box2, b_box3, b_box4, List.map_cons, List.map_nil, Bool.and_self, Bool.and_true, Bool.true_and, Bool.not_true, Bool.not_false, Bool.or_false, Bool.false_or, cond_true, cond_false, okPack, okPut, okPutBlks, okPutCells, q_isP, q_isAg, q_isBox, q_isArr, q_int, q_bool, q_str, q_sl, q_nils, e_exit, e_ret, e_nrm, e_ret_exit, e_exit_ret, e_nrm_exit, e_nrm_ret, e_exit_nrm, e_ret_nrm, Nat.zero_add, Nat.reduceAdd, noslR, noslP, noslB, noslA, List.all_cons, List.all_nil]
        rw [c_STx n hn]
        simp only [bnd_some, ctl_true, ctl_false, ctl_and, ctl_or', ctl_or2, x_toPV, x_toCs, x_toCs2, x_toEs, x_bEs, x_bCs, x_aPV, x_aCs, x_int, x_bool, x_str, x_es, x_esn, nth_0, nth_1, nth_2, nth_3, nth_4, nth_5, nth_6, nth_7, nth_8, nth_9, y_nil, y_int, y_bool, y_str, y_sl, y_nils, y_agg, y_ownp, y_own, z_nil, z_int, z_bool, z_str, z_sl, z_nils, b_nil, b_arr, b_box1, b_box2, b_box3, b_box4, List.map_cons, List.map_nil, Bool.and_self, Bool.and_true, Bool.true_and, Bool.not_true, Bool.not_false, Bool.or_false, Bool.false_or, cond_true, cond_false, okPack, okPut, okPutBlks, okPutCells, q_isP, q_isAg, q_isBox, q_isArr, q_int, q_bool, q_str, q_sl, q_nils, e_exit, e_ret, e_nrm, e_ret_exit, e_exit_ret, e_nrm_exit, e_nrm_ret, e_exit_nrm, e_ret_nrm, Nat.zero_add, Nat.reduceAdd, noslR, noslP, noslB, noslA, List.all_cons, List.all_nil]
        rw [c_rSTx n hn]
        simp only [beq_self_eq_true, bnd_some, ctl_true, ctl_false, ctl_and, ctl_or', ctl_or2, x_toPV, x_toCs, x_toCs2, x_toEs, x_bEs, x_bCs, x_aPV, x_aCs, x_int, x_bool, x_str, x_es, x_esn, nth_0, nth_1, nth_2, nth_3, nth_4, nth_5, nth_6, nth_7, nth_8, nth_9, y_nil, y_int, y_bool, y_str, y_sl, y_nils, y_agg, y_ownp, y_own, z_nil, z_int, z_bool, z_str, z_sl, z_nils, b_nil, b_arr, b_box1, b_box2, b_box3, b_box4, List.map_cons, List.map_nil, Bool.and_self, Bool.and_true, Bool.true_and, Bool.not_true, Bool.not_false, Bool.or_false, Bool.false_or, cond_true, cond_false, okPack, okPut, okPutBlks, okPutCells, q_isP, q_isAg, q_isBox, q_isArr, q_int, q_bool, q_str, q_sl, q_nils, e_exit, e_ret, e_nrm, e_ret_exit, e_exit_ret, e_nrm_exit, e_nrm_ret, e_exit_nrm, e_ret_nrm, Nat.zero_add, Nat.reduceAdd, noslR, noslP, noslB, noslA, List.all_cons, List.all_nil]
    · have e2 : ltB 60 (text.length : Int) = true := decide_eq_true (by omega)
      rw [e2]
      simp only [Bool.true_or, Bool.or_true, bnd_some, ctl_true, ctl_false, ctl_and, ctl_or', ctl_or2, x_toPV, x_toCs, x_toCs2, x_toEs, x_bEs, x_bCs, x_aPV, x_aCs, x_int, x_bool, x_str, x_es, x_esn, nth_0, nth_1, nth_2, nth_3, nth_4, nth_5, nth_6, nth_7, nth_8, nth_9, y_nil, y_int, y_bool, y_str, y_sl, y_nils, y_agg, y_ownp, y_own, z_nil, z_int, z_bool, z_str, z_sl, z_nils, b_nil, b_arr, b_box1, b_box2, b_box3, b_box4, List.map_cons, List.map_nil, Bool.and_self, Bool.and_true, Bool.true_and, Bool.not_true, Bool.not_false, Bool.or_false, Bool.false_or, cond_true, cond_false, okPack, okPut, okPutBlks, okPutCells, q_isP, q_isAg, q_isBox, q_isArr, q_int, q_bool, q_str, q_sl, q_nils, e_exit, e_ret, e_nrm, e_ret_exit, e_exit_ret, e_nrm_exit, e_nrm_ret, e_exit_nrm, e_ret_nrm, Nat.zero_add, Nat.reduceAdd, noslR, noslP, noslB, noslA, List.all_cons, List.all_nil]
  · have e1 : ltB 20 (o.length : Int) = true := decide_eq_true (by omega)
    rw [e1]
    simp only [Bool.true_or, Bool.or_true, bnd_some, ctl_true, ctl_false, ctl_and, ctl_or', ctl_or2, x_toPV, x_toCs, x_toCs2, x_toEs, x_bEs, x_bCs, x_aPV, x_aCs, x_int, x_bool, x_str, x_es, x_esn, nth_0, nth_1, nth_2, nth_3, nth_4, nth_5, nth_6, nth_7, nth_8, nth_9, y_nil, y_int, y_bool, y_str, y_sl, y_nils, y_agg, y_ownp, y_own, z_nil, z_int, z_bool, z_str, z_sl, z_nils, b_nil, b_arr, b_box1, b_box2, b_box3, b_box4, List.map_cons, List.map_nil, Bool.and_self, Bool.and_true, Bool.true_and, Bool.not_true, Bool.not_false, Bool.or_false, Bool.false_or, cond_true, cond_false, okPack, okPut, okPutBlks, okPutCells, q_isP, q_isAg, q_isBox, q_isArr, q_int, q_bool, q_str, q_sl, q_nils, e_exit, e_ret, e_nrm, e_ret_exit, e_exit_ret, e_nrm_exit, e_nrm_ret, e_exit_nrm, e_ret_nrm, Nat.zero_add, Nat.reduceAdd, noslR, noslP, noslB, noslA, List.all_cons, List.all_nil]

end Go.Proofs.YtcopadohnlcheaaDoor.Vm
