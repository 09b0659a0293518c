/- Allocation: the check, the document's totals, what a thruster may do. -/
import Derived.Test.YtcnjaffogkkpnaaAllocX
import Derived.Test.YtcnjaffogkkpnaaSectorX
import Derived.Test.YtcnjaffogkkpnaaShareQ
namespace Go.Proofs.Ytcnjaffogkkpnaa.Vm
set_option linter.unusedVariables false
set_option linter.unusedSimpArgs false

/-! ### Lists -/
theorem rCn_nil (F : Fun) : funK E F 41 [AV.sl 1 []] [] = both (some ([RV.own 1 []], [])) (some ([RV.own 1 []], [])) := by kernel_rfl
theorem rCn_cons (F : Fun) (e : List PV) (l : List (List PV)) : funK E F 41 [AV.sl 1 (e :: l)] [] = ctl (leN ((0 + (e :: l).length) * 8) 140737488355328) (some ([RV.own 1 ([] ++ e :: l)], [])) none := by kernel_rfl
theorem c_CloneI {a : List Int} (h : a.length ≤ 1000) : denC E 41 [AV.sl 1 (intsK .i64 a)] [] = some ([RV.own 1 (intsK .i64 a)], []) := by
  rw [denC_eq]
  cases a with
  | nil =>
    have e : intsK .i64 [] = [] := rfl
    rw [e, rCn_nil, both_same]
  | cons x a =>
    have e : intsK .i64 (x :: a) = [PV.int .i64 x] :: intsK .i64 a := rfl
    rw [e, rCn_cons, List.nil_append, Nat.zero_add]
    have e : leN (([PV.int .i64 x] :: intsK .i64 a).length * 8) 140737488355328 = true := by
      simp only [List.length_cons, intsK_length, decide_eq_true_eq] at h ⊢
      omega
    rw [e, ctl_true]

theorem pairL_fst : ∀ {xs ys : List Int}, xs.length = ys.length → (pairL xs ys).map Prod.fst = xs
  | [], _, _ => by simp [pairL]
  | _ :: _, [], h => by cases h
  | x :: xs, y :: ys, h => by simp [pairL, pairL_fst (xs := xs) (ys := ys) (by simpa using h)]
theorem pairL_snd : ∀ {xs ys : List Int}, xs.length = ys.length → (pairL xs ys).map Prod.snd = ys
  | [], [], _ => by simp [pairL]
  | [], _ :: _, h => by cases h
  | _ :: _, [], h => by cases h
  | x :: xs, y :: ys, h => by simp [pairL, pairL_snd (xs := xs) (ys := ys) (by simpa using h)]

/-! ### The numbers of one station -/
def maskL (k : Int) : List Thr → List Int → List Int
  | t :: ts, y :: ys => (if t.st = k then y else 0) :: maskL k ts ys
  | _, _ => []
theorem mask_eq (k : Int) : ∀ (ts : List Thr) (ls : List (Int × Int)) (a b : List Int), (∀ t ∈ ts, okT t = true) → InR (lats 1 ts ls) a → InR (lats 0 ts ls) b → (k = 0 ∨ k = 1) →
    maskL k ts (addL a b) = if k = 0 then b else a
  | [], _, [], [], hv, ha, hb, hk => by simp [maskL, addL]
  | [], _, _ :: _, _, _, h, _, _ => h.elim
  | [], _, [], _ :: _, _, _, h, _ => h.elim
  | t :: ts, _, [], _, _, h, _, _ => h.elim
  | t :: ts, _, _ :: _, [], _, _, h, _ => h.elim
  | t :: ts, ls, x :: a, z :: b, hv, ha, hb, hk => by
    have ih := mask_eq k ts ls.tail a b (fun x hx => hv x (List.mem_cons_of_mem _ hx)) ha.2 hb.2 hk
    have hv1 := okT0_iff.1 (okT_iff.1 (hv t (List.mem_cons_self ..))).1
    have ha1 := ha.1
    have hb1 := hb.1
    unfold latS at ha1 hb1
    simp only [addL, maskL]
    rw [ih]
    by_cases h0 : t.st = 0
    · rw [if_neg (by omega)] at ha1
      simp only at ha1
      rcases hk with rfl | rfl
      · rw [if_pos h0, if_pos rfl, if_pos rfl]
        congr 1; omega
      · rw [if_neg (by omega), if_neg (by omega), if_neg (by omega)]
        congr 1; omega
    · rw [if_neg h0] at hb1
      simp only at hb1
      rcases hk with rfl | rfl
      · rw [if_neg h0, if_pos rfl, if_pos rfl]
        congr 1; omega
      · rw [if_pos (by omega), if_neg (by omega), if_neg (by omega)]
        congr 1; omega

theorem of_loop (k : Int) (Y T L : List (List PV)) : ∀ (ts q : List Thr) (ys dn : List Int), dn.length = q.length → ys.length = ts.length → (q ++ ts).length ≤ 8 →
    lp E (denC E) 40 2 [] 0 { vals := [AV.int .i64 k, AV.sl 6 (thK (q ++ ts)), AV.int .i64 ((q ++ ts).length : Int), AV.int .i64 (q.length : Int)], blks := [Blk.box [AV.sl 1 Y], Blk.box [AV.sl 6 T, AV.sl 2 L], Blk.arr 1 (intsK .i64 (dn ++ ys))] } =
      some (Ex.exit 0, { vals := [], blks := [Blk.box [AV.sl 1 Y], Blk.box [AV.sl 6 T, AV.sl 2 L], Blk.arr 1 (intsK .i64 (dn ++ maskL k ts ys))] })
  | [], q, [], dn, hd, hy, h => by
    rw [r40_0, ctl_dec, if_neg (by simp)]
    simp [maskL]
  | [], q, _ :: _, dn, hd, hy, h => by cases hy
  | t :: ts, q, [], dn, hd, hy, h => by cases hy
  | t :: ts, q, y :: ys, dn, hd, hy, h => by
    have ih := fun x => of_loop k Y T L ts (q ++ [t]) ys (dn ++ [x]) (by simp [hd]) (by simpa using hy) (by simp at h ⊢; omega)
    simp only [List.append_assoc, List.cons_append, List.nil_append, List.length_append, List.length_cons, List.length_nil] at ih h
    rw [r40_0, ctl_dec, if_pos (by simp; omega), getE_th]
    unfold thC
    have e1 : ((q.length : Int) + 1) = ((q.length + (0 + 1) : Nat) : Int) := by omega
    by_cases hk : t.st = k
    · have f : (t.st != k) = false := by simpa using hk
      simp only [bnd_some, ctl_true, ctl_false, ctl_and, ctl_or', ctl_or2, x_toPV, x_toCs, x_toCs2, x_toEs, x_bEs, x_bCs, x_aPV, x_aCs, x_int, x_bool, x_str, x_es, x_esn, nth_0, nth_1, nth_2, nth_3, nth_4, nth_5, nth_6, nth_7, nth_8, nth_9, y_nil, y_int, y_bool, y_str, y_sl, y_nils, y_agg, y_ownp, y_own, z_nil, z_int, z_bool, z_str, z_sl, z_nils, b_nil, b_arr, b_box1, b_box2, b_box3, b_box4, List.map_cons, List.map_nil, Bool.and_self, Bool.and_true, Bool.true_and, Bool.not_true, Bool.not_false, Bool.or_false, Bool.false_or, cond_true, cond_false, okPack, okPut, okPutBlks, okPutCells, q_isP, q_isAg, q_isBox, q_isArr, q_int, q_bool, q_str, q_sl, q_nils, e_exit, e_ret, e_nrm, e_ret_exit, e_exit_ret, e_nrm_exit, e_nrm_ret, e_exit_nrm, e_ret_nrm, Nat.zero_add, Nat.reduceAdd, noslR, noslP, noslB, noslA, List.all_cons, List.all_nil, f, List.length_append, List.length_cons]
      rw [w64 (n := (q.length : Int) + 1) (by omega), e1, ih y]
      simp only [maskL, if_pos hk]
    · have f : (t.st != k) = true := by simpa using hk
      have g1 : leB 0 (q.length : Int) = true := by simp only [decide_eq_true_eq]; omega
      have g2 : ltB (q.length : Int) ((dn.length + (ys.length + 1) : Nat) : Int) = true := by simp only [decide_eq_true_eq]; omega
      simp only [bnd_some, ctl_true, ctl_false, ctl_and, ctl_or', ctl_or2, x_toPV, x_toCs, x_toCs2, x_toEs, x_bEs, x_bCs, x_aPV, x_aCs, x_int, x_bool, x_str, x_es, x_esn, nth_0, nth_1, nth_2, nth_3, nth_4, nth_5, nth_6, nth_7, nth_8, nth_9, y_nil, y_int, y_bool, y_str, y_sl, y_nils, y_agg, y_ownp, y_own, z_nil, z_int, z_bool, z_str, z_sl, z_nils, b_nil, b_arr, b_box1, b_box2, b_box3, b_box4, List.map_cons, List.map_nil, Bool.and_self, Bool.and_true, Bool.true_and, Bool.not_true, Bool.not_false, Bool.or_false, Bool.false_or, cond_true, cond_false, okPack, okPut, okPutBlks, okPutCells, q_isP, q_isAg, q_isBox, q_isArr, q_int, q_bool, q_str, q_sl, q_nils, e_exit, e_ret, e_nrm, e_ret_exit, e_exit_ret, e_nrm_exit, e_nrm_ret, e_exit_nrm, e_ret_nrm, Nat.zero_add, Nat.reduceAdd, noslR, noslP, noslB, noslA, List.all_cons, List.all_nil, f, List.length_append, List.length_cons, intsK_length, g1, g2]
      rw [w64 (n := (q.length : Int) + 1) (by omega), e1, Int.toNat_natCast, Div.setEs_ints (by simp; omega)]
      have eset : (dn ++ y :: ys).set q.length 0 = dn ++ 0 :: ys := by
        rw [← hd, List.set_append_right _ _ (Nat.le_refl _)]; simp
      rw [eset, ih 0]
      simp only [maskL, if_neg hk]

theorem c_of {W : List Thr} (hW : W.length ≤ 8) {ys : List Int} (hy : ys.length = W.length) (L : List (List PV)) (k : Int) :
    denC E 40 [AV.int .i64 k, AV.t (.ptr 0 0), AV.t (.ptr 1 0)] [Blk.box [AV.sl 1 (intsK .i64 ys)], Blk.box [AV.sl 6 (thK W), AV.sl 2 L]] =
      some ([RV.p (PV.sl 1 (intsK .i64 (maskL k W ys)))], [Blk.box [AV.sl 1 (intsK .i64 ys)], Blk.box [AV.sl 6 (thK W), AV.sl 2 L]]) := by
  have hl := of_loop k (intsK .i64 ys) (thK W) L W [] ys [] rfl hy (by simpa using hW)
  simp only [List.nil_append, List.length_nil] at hl
  have e0 : (((0 : Nat)) : Int) = 0 := rfl
  rw [e0] at hl
  rw [denC_eq, r40, c_CloneI (by omega)]
  simp only [bnd_some, ctl_true, ctl_false, ctl_and, ctl_or', ctl_or2, x_toPV, x_toCs, x_toCs2, x_toEs, x_bEs, x_bCs, x_aPV, x_aCs, x_int, x_bool, x_str, x_es, x_esn, nth_0, nth_1, nth_2, nth_3, nth_4, nth_5, nth_6, nth_7, nth_8, nth_9, y_nil, y_int, y_bool, y_str, y_sl, y_nils, y_agg, y_ownp, y_own, z_nil, z_int, z_bool, z_str, z_sl, z_nils, b_nil, b_arr, b_box1, b_box2, b_box3, b_box4, List.map_cons, List.map_nil, Bool.and_self, Bool.and_true, Bool.true_and, Bool.not_true, Bool.not_false, Bool.or_false, Bool.false_or, cond_true, cond_false, okPack, okPut, okPutBlks, okPutCells, q_isP, q_isAg, q_isBox, q_isArr, q_int, q_bool, q_str, q_sl, q_nils, e_exit, e_ret, e_nrm, e_ret_exit, e_exit_ret, e_nrm_exit, e_nrm_ret, e_exit_nrm, e_ret_nrm, Nat.zero_add, Nat.reduceAdd, noslR, noslP, noslB, noslA, List.all_cons, List.all_nil, thK_length]
  rw [hl]
  simp only [bnd_some, ctl_true, ctl_false, ctl_and, ctl_or', ctl_or2, x_toPV, x_toCs, x_toCs2, x_toEs, x_bEs, x_bCs, x_aPV, x_aCs, x_int, x_bool, x_str, x_es, x_esn, nth_0, nth_1, nth_2, nth_3, nth_4, nth_5, nth_6, nth_7, nth_8, nth_9, y_nil, y_int, y_bool, y_str, y_sl, y_nils, y_agg, y_ownp, y_own, z_nil, z_int, z_bool, z_str, z_sl, z_nils, b_nil, b_arr, b_box1, b_box2, b_box3, b_box4, List.map_cons, List.map_nil, Bool.and_self, Bool.and_true, Bool.true_and, Bool.not_true, Bool.not_false, Bool.or_false, Bool.false_or, cond_true, cond_false, okPack, okPut, okPutBlks, okPutCells, q_isP, q_isAg, q_isBox, q_isArr, q_int, q_bool, q_str, q_sl, q_nils, e_exit, e_ret, e_nrm, e_ret_exit, e_exit_ret, e_nrm_exit, e_nrm_ret, e_exit_nrm, e_ret_nrm, Nat.zero_add, Nat.reduceAdd, noslR, noslP, noslB, noslA, List.all_cons, List.all_nil]

/-! ### The check -/
theorem xy_loop (d0 d1 d2 : Int) (T L : List (List PV)) : ∀ (l p : List (Int × Int)), (p ++ l).length ≤ 100 →
    lp E (denC E) 21 0 [] 0 { vals := [AV.sl 2 (arcK (p ++ l)), AV.int .i64 ((p ++ l).length : Int), AV.int .i64 (p.length : Int)], blks := [Blk.box [AV.int .i64 d0, AV.int .i64 d1, AV.int .i64 d2], Blk.box [AV.sl 6 T, AV.sl 2 L], Blk.arr 1 (intsK .i64 (p.map Prod.fst)), Blk.box [AV.t (TV.hsl 4)], Blk.arr 1 (intsK .i64 (p.map Prod.snd))] } =
      some (Ex.exit 0, { vals := [], blks := [Blk.box [AV.int .i64 d0, AV.int .i64 d1, AV.int .i64 d2], Blk.box [AV.sl 6 T, AV.sl 2 L], Blk.arr 1 (intsK .i64 ((p ++ l).map Prod.fst)), Blk.box [AV.sl 1 (intsK .i64 ((p ++ l).map Prod.snd))]] })
  | [], p, h => by
    rw [r21_0, ctl_dec, if_neg (by simp), List.append_nil]
  | v :: l, p, h => by
    have ih := xy_loop d0 d1 d2 T L l (p ++ [v]) (by simp at h ⊢; omega)
    simp only [List.append_assoc, List.cons_append, List.nil_append, List.length_append, List.length_cons, List.length_nil] at ih h
    rw [r21_0, ctl_dec, if_pos (by simp; omega), getE_arc]
    have e1 : ((p.length : Int) + 1) = ((p.length + (0 + 1) : Nat) : Int) := by omega
    have e2 : ∀ f : Int × Int → Int, leN (((intsK .i64 (p.map f)).length + 1) * 8) 140737488355328 = true := fun f => by rw [intsK_length, List.length_map]; simp only [decide_eq_true_eq]; omega
    have e3 : ∀ f : Int × Int → Int, intsK .i64 ((p ++ [v]).map f) = intsK .i64 (p.map f) ++ [[PV.int .i64 (f v)]] := fun f => by simp [intsK]
    simp only [arcC, bnd_some, ctl_true, ctl_false, ctl_and, ctl_or', ctl_or2, x_toPV, x_toCs, x_toCs2, x_toEs, x_bEs, x_bCs, x_aPV, x_aCs, x_int, x_bool, x_str, x_es, x_esn, nth_0, nth_1, nth_2, nth_3, nth_4, nth_5, nth_6, nth_7, nth_8, nth_9, y_nil, y_int, y_bool, y_str, y_sl, y_nils, y_agg, y_ownp, y_own, z_nil, z_int, z_bool, z_str, z_sl, z_nils, b_nil, b_arr, b_box1, b_box2, b_box3, b_box4, List.map_cons, List.map_nil, Bool.and_self, Bool.and_true, Bool.true_and, Bool.not_true, Bool.not_false, Bool.or_false, Bool.false_or, cond_true, cond_false, okPack, okPut, okPutBlks, okPutCells, q_isP, q_isAg, q_isBox, q_isArr, q_int, q_bool, q_str, q_sl, q_nils, e_exit, e_ret, e_nrm, e_ret_exit, e_exit_ret, e_nrm_exit, e_nrm_ret, e_exit_nrm, e_ret_nrm, Nat.zero_add, Nat.reduceAdd, noslR, noslP, noslB, noslA, List.all_cons, List.all_nil, e2, List.length_append, List.length_cons]
    rw [w64 (n := (p.length : Int) + 1) (by omega), e1]
    rw [e3, e3] at ih
    exact ih

theorem chk_dv {l : List Div.Shr} (h : Div.OkL l) {total : Int} (ht : -500000 ≤ total ∧ total ≤ 500000) : Div.chk l total (dv l total) = true :=
  Div.pr_chk (r := prF l total) (Div.divL_price h _ _) (dv_sum h ht)
theorem InR_div : ∀ {l : List Div.Shr} {xs : List Int}, InR l xs → Div.InR l xs
  | [], [], _ => trivial
  | [], _ :: _, h => h.elim
  | _ :: _, [], h => h.elim
  | s :: l, x :: xs, h => ⟨h.1, InR_div h.2⟩

theorem c_ACheck {s : Shp} {ms : List Int} {ls : List (Int × Int)} (h : AOk s ms ls) {d0 d1 d2 : Int} (hd : Mod3 d0 d1 d2) :
    denC E 21 [AV.agg (shpC s), AV.sl 1 (intsK .i64 ms), AV.sl 2 (arcK ls), AV.agg [PV.int .i64 d0, PV.int .i64 d1, PV.int .i64 d2],
      AV.agg [PV.sl 2 (arcK (thA (Ws s.ts ms) ls d0 d1 d2)), PV.int .i64 (gvA s ms ls d0 d1 d2).1, PV.int .i64 (gvA s ms ls d0 d1 d2).2.1, PV.int .i64 (gvA s ms ls d0 d1 d2).2.2,
        PV.int .i64 (d0 - (gvA s ms ls d0 d1 d2).1), PV.int .i64 (d1 - (gvA s ms ls d0 d1 d2).2.1), PV.int .i64 (d2 - (gvA s ms ls d0 d1 d2).2.2)]] [] = some ([RV.p (PV.bool true)], []) := by
  have hO := c_open h hd
  obtain ⟨w1, w2, w3, w4, w5⟩ := wsa h
  have c0 := c_laterals w2 w4 w5 0
  have c1 := c_laterals w2 w4 w5 1
  have o0 := OkL_lats w2 w3 0 ls
  have o1 := OkL_lats w2 w3 1 ls
  have i0 := dv_in o0 hd.2.1
  have i1 := dv_in o1 hd.2.2
  have hy := ysA_len h hd
  have hx := xsA_len h hd
  have ht := thA_len h hd
  have o2 := OkL_lons w2 w3 (ys := ysA (Ws s.ts ms) ls d1 d2) (by rw [hy.1, w1]) ls
  have i2 := dv_in o2 hd.1
  have c2 := c_surges w2 w4 w5 (ys := ysA (Ws s.ts ms) ls d1 d2) (by rw [hy.1, w1])
  have hT := c_Total h.ok (l := thA (Ws s.ts ms) ls d0 d1 d2) ht.1 ht.2
  have hb := tot_bound s.ts (thA (Ws s.ts ms) ls d0 d1 d2) 0 0 0 5000 0 ht.2 (by omega) (by omega) (by omega) (by omega)
  rw [ht.1] at hb
  have h8 := h.ok.1
  have hg : tot s.ts (thA (Ws s.ts ms) ls d0 d1 d2) 0 0 0 = gvA s ms ls d0 d1 d2 := rfl
  rw [hg] at hT hb
  have hls := c_less d0 d1 d2 (gvA s ms ls d0 d1 d2).1 (gvA s ms ls d0 d1 d2).2.1 (gvA s ms ls d0 d1 d2).2.2 hd (by unfold Mod3; omega)
  have hxy := xy_loop d0 d1 d2 (thK (Ws s.ts ms)) (arcK ls) (thA (Ws s.ts ms) ls d0 d1 d2) [] (by simp; omega)
  have efst : (thA (Ws s.ts ms) ls d0 d1 d2).map Prod.fst = xsA (Ws s.ts ms) ls d0 d1 d2 := pairL_fst (by rw [hx.1, hy.1])
  have esnd : (thA (Ws s.ts ms) ls d0 d1 d2).map Prod.snd = ysA (Ws s.ts ms) ls d1 d2 := pairL_snd (by rw [hx.1, hy.1])
  simp only [List.nil_append, List.length_nil, List.map_nil, efst, esnd] at hxy
  have e0 : (((0 : Nat)) : Int) = 0 := rfl
  have ei : intsK .i64 [] = [] := rfl
  rw [e0, ei] at hxy
  have f0 := c_of w2 (ys := ysA (Ws s.ts ms) ls d1 d2) (by rw [hy.1, w1]) (arcK ls) 0
  have f1 := c_of w2 (ys := ysA (Ws s.ts ms) ls d1 d2) (by rw [hy.1, w1]) (arcK ls) 1
  have m0 := mask_eq 0 (Ws s.ts ms) ls _ _ w3 i1 i0 (.inl rfl)
  have m1 := mask_eq 1 (Ws s.ts ms) ls _ _ w3 i1 i0 (.inr rfl)
  have hyy : addL (dv (lats 1 (Ws s.ts ms) ls) d2) (dv (lats 0 (Ws s.ts ms) ls) d1) = ysA (Ws s.ts ms) ls d1 d2 := rfl
  rw [hyy, if_pos rfl] at m0
  rw [hyy, if_neg (by omega)] at m1
  rw [m0] at f0
  rw [m1] at f1
  have k0 := Div.c_Check o0 (InR_div i0) d1
  have k1 := Div.c_Check o1 (InR_div i1) d2
  have k2 := Div.c_Check o2 (InR_div i2) d0
  rw [chk_dv o0 hd.2.1] at k0
  rw [chk_dv o1 hd.2.2] at k1
  rw [chk_dv o2 hd.1] at k2
  have hxx : dv (lons (Ws s.ts ms) (ysA (Ws s.ts ms) ls d1 d2) ls) d0 = xsA (Ws s.ts ms) ls d0 d1 d2 := rfl
  rw [hxx] at k2
  have n0 : ((0 : Int) != 0) = false := rfl
  unfold shpC at hO hT ⊢
  rw [denC_eq, r21, hO]
  simp only [bnd_some, ctl_true, ctl_false, ctl_and, ctl_or', ctl_or2, x_toPV, x_toCs, x_toCs2, x_toEs, x_bEs, x_bCs, x_aPV, x_aCs, x_int, x_bool, x_str, x_es, x_esn, nth_0, nth_1, nth_2, nth_3, nth_4, nth_5, nth_6, nth_7, nth_8, nth_9, y_nil, y_int, y_bool, y_str, y_sl, y_nils, y_agg, y_ownp, y_own, z_nil, z_int, z_bool, z_str, z_sl, z_nils, b_nil, b_arr, b_box1, b_box2, b_box3, b_box4, List.map_cons, List.map_nil, Bool.and_self, Bool.and_true, Bool.true_and, Bool.not_true, Bool.not_false, Bool.or_false, Bool.false_or, cond_true, cond_false, okPack, okPut, okPutBlks, okPutCells, q_isP, q_isAg, q_isBox, q_isArr, q_int, q_bool, q_str, q_sl, q_nils, e_exit, e_ret, e_nrm, e_ret_exit, e_exit_ret, e_nrm_exit, e_nrm_ret, e_exit_nrm, e_ret_nrm, Nat.zero_add, Nat.reduceAdd, noslR, noslP, noslB, noslA, List.all_cons, List.all_nil, n0]
  rw [hT]
  simp only [bnd_some, ctl_true, ctl_false, ctl_and, ctl_or', ctl_or2, x_toPV, x_toCs, x_toCs2, x_toEs, x_bEs, x_bCs, x_aPV, x_aCs, x_int, x_bool, x_str, x_es, x_esn, nth_0, nth_1, nth_2, nth_3, nth_4, nth_5, nth_6, nth_7, nth_8, nth_9, y_nil, y_int, y_bool, y_str, y_sl, y_nils, y_agg, y_ownp, y_own, z_nil, z_int, z_bool, z_str, z_sl, z_nils, b_nil, b_arr, b_box1, b_box2, b_box3, b_box4, List.map_cons, List.map_nil, Bool.and_self, Bool.and_true, Bool.true_and, Bool.not_true, Bool.not_false, Bool.or_false, Bool.false_or, cond_true, cond_false, okPack, okPut, okPutBlks, okPutCells, q_isP, q_isAg, q_isBox, q_isArr, q_int, q_bool, q_str, q_sl, q_nils, e_exit, e_ret, e_nrm, e_ret_exit, e_exit_ret, e_nrm_exit, e_nrm_ret, e_exit_nrm, e_ret_nrm, Nat.zero_add, Nat.reduceAdd, noslR, noslP, noslB, noslA, List.all_cons, List.all_nil, n0, beq_self_eq_true]
  rw [hls]
  simp only [bnd_some, ctl_true, ctl_false, ctl_and, ctl_or', ctl_or2, x_toPV, x_toCs, x_toCs2, x_toEs, x_bEs, x_bCs, x_aPV, x_aCs, x_int, x_bool, x_str, x_es, x_esn, nth_0, nth_1, nth_2, nth_3, nth_4, nth_5, nth_6, nth_7, nth_8, nth_9, y_nil, y_int, y_bool, y_str, y_sl, y_nils, y_agg, y_ownp, y_own, z_nil, z_int, z_bool, z_str, z_sl, z_nils, b_nil, b_arr, b_box1, b_box2, b_box3, b_box4, List.map_cons, List.map_nil, Bool.and_self, Bool.and_true, Bool.true_and, Bool.not_true, Bool.not_false, Bool.or_false, Bool.false_or, cond_true, cond_false, okPack, okPut, okPutBlks, okPutCells, q_isP, q_isAg, q_isBox, q_isArr, q_int, q_bool, q_str, q_sl, q_nils, e_exit, e_ret, e_nrm, e_ret_exit, e_exit_ret, e_nrm_exit, e_nrm_ret, e_exit_nrm, e_ret_nrm, Nat.zero_add, Nat.reduceAdd, noslR, noslP, noslB, noslA, List.all_cons, List.all_nil, beq_self_eq_true, arcK_length]
  rw [hxy]
  simp only [bnd_some, ctl_true, ctl_false, ctl_and, ctl_or', ctl_or2, x_toPV, x_toCs, x_toCs2, x_toEs, x_bEs, x_bCs, x_aPV, x_aCs, x_int, x_bool, x_str, x_es, x_esn, nth_0, nth_1, nth_2, nth_3, nth_4, nth_5, nth_6, nth_7, nth_8, nth_9, y_nil, y_int, y_bool, y_str, y_sl, y_nils, y_agg, y_ownp, y_own, z_nil, z_int, z_bool, z_str, z_sl, z_nils, b_nil, b_arr, b_box1, b_box2, b_box3, b_box4, List.map_cons, List.map_nil, Bool.and_self, Bool.and_true, Bool.true_and, Bool.not_true, Bool.not_false, Bool.or_false, Bool.false_or, cond_true, cond_false, okPack, okPut, okPutBlks, okPutCells, q_isP, q_isAg, q_isBox, q_isArr, q_int, q_bool, q_str, q_sl, q_nils, e_exit, e_ret, e_nrm, e_ret_exit, e_exit_ret, e_nrm_exit, e_nrm_ret, e_exit_nrm, e_ret_nrm, Nat.zero_add, Nat.reduceAdd, noslR, noslP, noslB, noslA, List.all_cons, List.all_nil]
  rw [c0]
  simp only [bnd_some, ctl_true, ctl_false, ctl_and, ctl_or', ctl_or2, x_toPV, x_toCs, x_toCs2, x_toEs, x_bEs, x_bCs, x_aPV, x_aCs, x_int, x_bool, x_str, x_es, x_esn, nth_0, nth_1, nth_2, nth_3, nth_4, nth_5, nth_6, nth_7, nth_8, nth_9, y_nil, y_int, y_bool, y_str, y_sl, y_nils, y_agg, y_ownp, y_own, z_nil, z_int, z_bool, z_str, z_sl, z_nils, b_nil, b_arr, b_box1, b_box2, b_box3, b_box4, List.map_cons, List.map_nil, Bool.and_self, Bool.and_true, Bool.true_and, Bool.not_true, Bool.not_false, Bool.or_false, Bool.false_or, cond_true, cond_false, okPack, okPut, okPutBlks, okPutCells, q_isP, q_isAg, q_isBox, q_isArr, q_int, q_bool, q_str, q_sl, q_nils, e_exit, e_ret, e_nrm, e_ret_exit, e_exit_ret, e_nrm_exit, e_nrm_ret, e_exit_nrm, e_ret_nrm, Nat.zero_add, Nat.reduceAdd, noslR, noslP, noslB, noslA, List.all_cons, List.all_nil]
  rw [f0]
  simp only [bnd_some, ctl_true, ctl_false, ctl_and, ctl_or', ctl_or2, x_toPV, x_toCs, x_toCs2, x_toEs, x_bEs, x_bCs, x_aPV, x_aCs, x_int, x_bool, x_str, x_es, x_esn, nth_0, nth_1, nth_2, nth_3, nth_4, nth_5, nth_6, nth_7, nth_8, nth_9, y_nil, y_int, y_bool, y_str, y_sl, y_nils, y_agg, y_ownp, y_own, z_nil, z_int, z_bool, z_str, z_sl, z_nils, b_nil, b_arr, b_box1, b_box2, b_box3, b_box4, List.map_cons, List.map_nil, Bool.and_self, Bool.and_true, Bool.true_and, Bool.not_true, Bool.not_false, Bool.or_false, Bool.false_or, cond_true, cond_false, okPack, okPut, okPutBlks, okPutCells, q_isP, q_isAg, q_isBox, q_isArr, q_int, q_bool, q_str, q_sl, q_nils, e_exit, e_ret, e_nrm, e_ret_exit, e_exit_ret, e_nrm_exit, e_nrm_ret, e_exit_nrm, e_ret_nrm, Nat.zero_add, Nat.reduceAdd, noslR, noslP, noslB, noslA, List.all_cons, List.all_nil]
  rw [k0]
  simp only [bnd_some, ctl_true, ctl_false, ctl_and, ctl_or', ctl_or2, x_toPV, x_toCs, x_toCs2, x_toEs, x_bEs, x_bCs, x_aPV, x_aCs, x_int, x_bool, x_str, x_es, x_esn, nth_0, nth_1, nth_2, nth_3, nth_4, nth_5, nth_6, nth_7, nth_8, nth_9, y_nil, y_int, y_bool, y_str, y_sl, y_nils, y_agg, y_ownp, y_own, z_nil, z_int, z_bool, z_str, z_sl, z_nils, b_nil, b_arr, b_box1, b_box2, b_box3, b_box4, List.map_cons, List.map_nil, Bool.and_self, Bool.and_true, Bool.true_and, Bool.not_true, Bool.not_false, Bool.or_false, Bool.false_or, cond_true, cond_false, okPack, okPut, okPutBlks, okPutCells, q_isP, q_isAg, q_isBox, q_isArr, q_int, q_bool, q_str, q_sl, q_nils, e_exit, e_ret, e_nrm, e_ret_exit, e_exit_ret, e_nrm_exit, e_nrm_ret, e_exit_nrm, e_ret_nrm, Nat.zero_add, Nat.reduceAdd, noslR, noslP, noslB, noslA, List.all_cons, List.all_nil]
  rw [c1]
  simp only [bnd_some, ctl_true, ctl_false, ctl_and, ctl_or', ctl_or2, x_toPV, x_toCs, x_toCs2, x_toEs, x_bEs, x_bCs, x_aPV, x_aCs, x_int, x_bool, x_str, x_es, x_esn, nth_0, nth_1, nth_2, nth_3, nth_4, nth_5, nth_6, nth_7, nth_8, nth_9, y_nil, y_int, y_bool, y_str, y_sl, y_nils, y_agg, y_ownp, y_own, z_nil, z_int, z_bool, z_str, z_sl, z_nils, b_nil, b_arr, b_box1, b_box2, b_box3, b_box4, List.map_cons, List.map_nil, Bool.and_self, Bool.and_true, Bool.true_and, Bool.not_true, Bool.not_false, Bool.or_false, Bool.false_or, cond_true, cond_false, okPack, okPut, okPutBlks, okPutCells, q_isP, q_isAg, q_isBox, q_isArr, q_int, q_bool, q_str, q_sl, q_nils, e_exit, e_ret, e_nrm, e_ret_exit, e_exit_ret, e_nrm_exit, e_nrm_ret, e_exit_nrm, e_ret_nrm, Nat.zero_add, Nat.reduceAdd, noslR, noslP, noslB, noslA, List.all_cons, List.all_nil]
  rw [f1]
  simp only [bnd_some, ctl_true, ctl_false, ctl_and, ctl_or', ctl_or2, x_toPV, x_toCs, x_toCs2, x_toEs, x_bEs, x_bCs, x_aPV, x_aCs, x_int, x_bool, x_str, x_es, x_esn, nth_0, nth_1, nth_2, nth_3, nth_4, nth_5, nth_6, nth_7, nth_8, nth_9, y_nil, y_int, y_bool, y_str, y_sl, y_nils, y_agg, y_ownp, y_own, z_nil, z_int, z_bool, z_str, z_sl, z_nils, b_nil, b_arr, b_box1, b_box2, b_box3, b_box4, List.map_cons, List.map_nil, Bool.and_self, Bool.and_true, Bool.true_and, Bool.not_true, Bool.not_false, Bool.or_false, Bool.false_or, cond_true, cond_false, okPack, okPut, okPutBlks, okPutCells, q_isP, q_isAg, q_isBox, q_isArr, q_int, q_bool, q_str, q_sl, q_nils, e_exit, e_ret, e_nrm, e_ret_exit, e_exit_ret, e_nrm_exit, e_nrm_ret, e_exit_nrm, e_ret_nrm, Nat.zero_add, Nat.reduceAdd, noslR, noslP, noslB, noslA, List.all_cons, List.all_nil]
  rw [k1]
  simp only [bnd_some, ctl_true, ctl_false, ctl_and, ctl_or', ctl_or2, x_toPV, x_toCs, x_toCs2, x_toEs, x_bEs, x_bCs, x_aPV, x_aCs, x_int, x_bool, x_str, x_es, x_esn, nth_0, nth_1, nth_2, nth_3, nth_4, nth_5, nth_6, nth_7, nth_8, nth_9, y_nil, y_int, y_bool, y_str, y_sl, y_nils, y_agg, y_ownp, y_own, z_nil, z_int, z_bool, z_str, z_sl, z_nils, b_nil, b_arr, b_box1, b_box2, b_box3, b_box4, List.map_cons, List.map_nil, Bool.and_self, Bool.and_true, Bool.true_and, Bool.not_true, Bool.not_false, Bool.or_false, Bool.false_or, cond_true, cond_false, okPack, okPut, okPutBlks, okPutCells, q_isP, q_isAg, q_isBox, q_isArr, q_int, q_bool, q_str, q_sl, q_nils, e_exit, e_ret, e_nrm, e_ret_exit, e_exit_ret, e_nrm_exit, e_nrm_ret, e_exit_nrm, e_ret_nrm, Nat.zero_add, Nat.reduceAdd, noslR, noslP, noslB, noslA, List.all_cons, List.all_nil]
  rw [c2]
  simp only [bnd_some, ctl_true, ctl_false, ctl_and, ctl_or', ctl_or2, x_toPV, x_toCs, x_toCs2, x_toEs, x_bEs, x_bCs, x_aPV, x_aCs, x_int, x_bool, x_str, x_es, x_esn, nth_0, nth_1, nth_2, nth_3, nth_4, nth_5, nth_6, nth_7, nth_8, nth_9, y_nil, y_int, y_bool, y_str, y_sl, y_nils, y_agg, y_ownp, y_own, z_nil, z_int, z_bool, z_str, z_sl, z_nils, b_nil, b_arr, b_box1, b_box2, b_box3, b_box4, List.map_cons, List.map_nil, Bool.and_self, Bool.and_true, Bool.true_and, Bool.not_true, Bool.not_false, Bool.or_false, Bool.false_or, cond_true, cond_false, okPack, okPut, okPutBlks, okPutCells, q_isP, q_isAg, q_isBox, q_isArr, q_int, q_bool, q_str, q_sl, q_nils, e_exit, e_ret, e_nrm, e_ret_exit, e_exit_ret, e_nrm_exit, e_nrm_ret, e_exit_nrm, e_ret_nrm, Nat.zero_add, Nat.reduceAdd, noslR, noslP, noslB, noslA, List.all_cons, List.all_nil]
  rw [k2]
  simp only [bnd_some, ctl_true, ctl_false, ctl_and, ctl_or', ctl_or2, x_toPV, x_toCs, x_toCs2, x_toEs, x_bEs, x_bCs, x_aPV, x_aCs, x_int, x_bool, x_str, x_es, x_esn, nth_0, nth_1, nth_2, nth_3, nth_4, nth_5, nth_6, nth_7, nth_8, nth_9, y_nil, y_int, y_bool, y_str, y_sl, y_nils, y_agg, y_ownp, y_own, z_nil, z_int, z_bool, z_str, z_sl, z_nils, b_nil, b_arr, b_box1, b_box2, b_box3, b_box4, List.map_cons, List.map_nil, Bool.and_self, Bool.and_true, Bool.true_and, Bool.not_true, Bool.not_false, Bool.or_false, Bool.false_or, cond_true, cond_false, okPack, okPut, okPutBlks, okPutCells, q_isP, q_isAg, q_isBox, q_isArr, q_int, q_bool, q_str, q_sl, q_nils, e_exit, e_ret, e_nrm, e_ret_exit, e_exit_ret, e_nrm_exit, e_nrm_ret, e_exit_nrm, e_ret_nrm, Nat.zero_add, Nat.reduceAdd, noslR, noslP, noslB, noslA, List.all_cons, List.all_nil]

/-! ### Laterals -/
theorem c_Laterals {s : Shp} {ms : List Int} {ls : List (Int × Int)} (h : AOk s ms ls) {k : Int} (hk : k = 0 ∨ k = 1) :
    denC E 24 [AV.agg (shpC s), AV.sl 1 (intsK .i64 ms), AV.sl 2 (arcK ls), AV.int .i64 k] [] = some ([RV.p (PV.sl 3 (Div.shK (lats k (Ws s.ts ms) ls))), RV.p (PV.int .i64 0)], []) := by
  have hb := c_begin h (ns := List.replicate s.ts.length 0) (by simp) (fun n hn => by
    have := List.eq_of_mem_replicate hn
    omega)
  have h8 := h.ok.1
  obtain ⟨w1, w2, w3, w4, w5⟩ := wsa h
  have c0 := c_laterals w2 w4 w5 k
  have n0 : ((0 : Int) != 0) = false := rfl
  unfold shpC at hb ⊢
  rw [denC_eq, r24, thK_length, Int.toNat_natCast, reps_ints, hb]
  have g1 : leB (s.ts.length : Int) (s.ts.length : Int) = true := by simp
  have g2 : leB (s.ts.length : Int) 9223372036854775807 = true := by simp only [decide_eq_true_eq]; omega
  have g3 : leB ((s.ts.length : Int) * 8) 140737488355328 = true := by simp only [decide_eq_true_eq]; omega
  have g4 : ((k != 0) && (k != 1)) = false := by rcases hk with rfl | rfl <;> rfl
  simp only [bnd_some, ctl_true, ctl_false, ctl_and, ctl_or', ctl_or2, x_toPV, x_toCs, x_toCs2, x_toEs, x_bEs, x_bCs, x_aPV, x_aCs, x_int, x_bool, x_str, x_es, x_esn, nth_0, nth_1, nth_2, nth_3, nth_4, nth_5, nth_6, nth_7, nth_8, nth_9, y_nil, y_int, y_bool, y_str, y_sl, y_nils, y_agg, y_ownp, y_own, z_nil, z_int, z_bool, z_str, z_sl, z_nils, b_nil, b_arr, b_box1, b_box2, b_box3, b_box4, List.map_cons, List.map_nil, Bool.and_self, Bool.and_true, Bool.true_and, Bool.not_true, Bool.not_false, Bool.or_false, Bool.false_or, cond_true, cond_false, okPack, okPut, okPutBlks, okPutCells, q_isP, q_isAg, q_isBox, q_isArr, q_int, q_bool, q_str, q_sl, q_nils, e_exit, e_ret, e_nrm, e_ret_exit, e_exit_ret, e_nrm_exit, e_nrm_ret, e_exit_nrm, e_ret_nrm, Nat.zero_add, Nat.reduceAdd, noslR, noslP, noslB, noslA, List.all_cons, List.all_nil, g1, g2, g3, n0, g4]
  rw [c0]
  simp only [bnd_some, ctl_true, ctl_false, ctl_and, ctl_or', ctl_or2, x_toPV, x_toCs, x_toCs2, x_toEs, x_bEs, x_bCs, x_aPV, x_aCs, x_int, x_bool, x_str, x_es, x_esn, nth_0, nth_1, nth_2, nth_3, nth_4, nth_5, nth_6, nth_7, nth_8, nth_9, y_nil, y_int, y_bool, y_str, y_sl, y_nils, y_agg, y_ownp, y_own, z_nil, z_int, z_bool, z_str, z_sl, z_nils, b_nil, b_arr, b_box1, b_box2, b_box3, b_box4, List.map_cons, List.map_nil, Bool.and_self, Bool.and_true, Bool.true_and, Bool.not_true, Bool.not_false, Bool.or_false, Bool.false_or, cond_true, cond_false, okPack, okPut, okPutBlks, okPutCells, q_isP, q_isAg, q_isBox, q_isArr, q_int, q_bool, q_str, q_sl, q_nils, e_exit, e_ret, e_nrm, e_ret_exit, e_exit_ret, e_nrm_exit, e_nrm_ret, e_exit_nrm, e_ret_nrm, Nat.zero_add, Nat.reduceAdd, noslR, noslP, noslB, noslA, List.all_cons, List.all_nil]

/-! ### The document's totals -/
theorem r12_loop : ∀ (l p : List Thr), (∀ t ∈ l, okT t = true ∧ t.fb.length ≤ maxLen) → (p ++ l).length ≤ 1000 →
    lp E (denC E) 45 0 [] 0 { vals := [AV.sl 6 (thK (p ++ l)), AV.int .i64 ((p ++ l).length : Int), AV.int .i64 (p.length : Int)], blks := [] } = some (Ex.exit 0, { vals := [], blks := [] })
  | [], p, hs, h => by
    rw [r45_0, ctl_dec, if_neg (by simp)]
  | s :: l, p, hs, h => by
    have ih := r12_loop l (p ++ [s]) (fun t ht => hs t (List.mem_cons_of_mem _ ht)) (by simp at h ⊢; omega)
    simp only [List.append_assoc, List.cons_append, List.nil_append, List.length_append, List.length_cons, List.length_nil] at ih h
    obtain ⟨h1, h2⟩ := hs s (List.mem_cons_self ..)
    have hc := c_RTValid h2
    rw [h1] at hc
    unfold thC at hc
    rw [r45_0, ctl_dec, if_pos (by simp; omega), getE_th]
    unfold thC
    simp only [List.length_append, List.length_cons, bnd_some, ctl_true, ctl_false, ctl_and, ctl_or', ctl_or2, x_toPV, x_toCs, x_toCs2, x_toEs, x_bEs, x_bCs, x_aPV, x_aCs, x_int, x_bool, x_str, x_es, x_esn, nth_0, nth_1, nth_2, nth_3, nth_4, nth_5, nth_6, nth_7, nth_8, nth_9, y_nil, y_int, y_bool, y_str, y_sl, y_nils, y_agg, y_ownp, y_own, z_nil, z_int, z_bool, z_str, z_sl, z_nils, b_nil, b_arr, b_box1, b_box2, b_box3, b_box4, List.map_cons, List.map_nil, Bool.and_self, Bool.and_true, Bool.true_and, Bool.not_true, Bool.not_false, Bool.or_false, Bool.false_or, cond_true, cond_false, okPack, okPut, okPutBlks, okPutCells, q_isP, q_isAg, q_isBox, q_isArr, q_int, q_bool, q_str, q_sl, q_nils, e_exit, e_ret, e_nrm, e_ret_exit, e_exit_ret, e_nrm_exit, e_nrm_ret, e_exit_nrm, e_ret_nrm, Nat.zero_add, Nat.reduceAdd, noslR, noslP, noslB, noslA, List.all_cons, List.all_nil]
    rw [hc]
    simp only [bnd_some, ctl_true, ctl_false, ctl_and, ctl_or', ctl_or2, x_toPV, x_toCs, x_toCs2, x_toEs, x_bEs, x_bCs, x_aPV, x_aCs, x_int, x_bool, x_str, x_es, x_esn, nth_0, nth_1, nth_2, nth_3, nth_4, nth_5, nth_6, nth_7, nth_8, nth_9, y_nil, y_int, y_bool, y_str, y_sl, y_nils, y_agg, y_ownp, y_own, z_nil, z_int, z_bool, z_str, z_sl, z_nils, b_nil, b_arr, b_box1, b_box2, b_box3, b_box4, List.map_cons, List.map_nil, Bool.and_self, Bool.and_true, Bool.true_and, Bool.not_true, Bool.not_false, Bool.or_false, Bool.false_or, cond_true, cond_false, okPack, okPut, okPutBlks, okPutCells, q_isP, q_isAg, q_isBox, q_isArr, q_int, q_bool, q_str, q_sl, q_nils, e_exit, e_ret, e_nrm, e_ret_exit, e_exit_ret, e_nrm_exit, e_nrm_ret, e_exit_nrm, e_ret_nrm, Nat.zero_add, Nat.reduceAdd, noslR, noslP, noslB, noslA, List.all_cons, List.all_nil]
    rw [w64 (n := (p.length : Int) + 1) (by omega)]
    have e1 : ((p.length : Int) + 1) = ((p.length + (0 + 1) : Nat) : Int) := by omega
    rw [e1, ih]
theorem c_R12Check {s : Shp} (h : OkShp s) : denC E 45 [AV.agg (shpC s)] [] = some ([RV.p (PV.int .i64 0)], []) := by
  obtain ⟨h1, h2, h3, h4, h5, h6, h7⟩ := h
  have hl := r12_loop s.ts [] h7 (by simp; omega)
  simp only [List.nil_append, List.length_nil] at hl
  have e0 : (((0 : Nat)) : Int) = 0 := rfl
  rw [e0] at hl
  have g1 : ltB 8 (s.ts.length : Int) = false := by simp only [decide_eq_false_iff_not]; omega
  have g2 : ltB s.bw 0 = false := by simp only [decide_eq_false_iff_not]; omega
  have g3 : ltB 200 s.bw = false := by simp only [decide_eq_false_iff_not]; omega
  have g4 : ltB s.sn 0 = false := by simp only [decide_eq_false_iff_not]; omega
  have g5 : ltB 200 s.sn = false := by simp only [decide_eq_false_iff_not]; omega
  have g6 : (s.bw + s.sn == 0) = false := by simp only [beq_eq_false_iff_ne]; omega
  unfold shpC
  rw [denC_eq, r45, thK_length, w64 (n := s.bw + s.sn) (by omega)]
  simp only [bnd_some, ctl_true, ctl_false, ctl_and, ctl_or', ctl_or2, x_toPV, x_toCs, x_toCs2, x_toEs, x_bEs, x_bCs, x_aPV, x_aCs, x_int, x_bool, x_str, x_es, x_esn, nth_0, nth_1, nth_2, nth_3, nth_4, nth_5, nth_6, nth_7, nth_8, nth_9, y_nil, y_int, y_bool, y_str, y_sl, y_nils, y_agg, y_ownp, y_own, z_nil, z_int, z_bool, z_str, z_sl, z_nils, b_nil, b_arr, b_box1, b_box2, b_box3, b_box4, List.map_cons, List.map_nil, Bool.and_self, Bool.and_true, Bool.true_and, Bool.not_true, Bool.not_false, Bool.or_false, Bool.false_or, cond_true, cond_false, okPack, okPut, okPutBlks, okPutCells, q_isP, q_isAg, q_isBox, q_isArr, q_int, q_bool, q_str, q_sl, q_nils, e_exit, e_ret, e_nrm, e_ret_exit, e_exit_ret, e_nrm_exit, e_nrm_ret, e_exit_nrm, e_ret_nrm, Nat.zero_add, Nat.reduceAdd, noslR, noslP, noslB, noslA, List.all_cons, List.all_nil, g1, g2, g3, g4, g5, g6]
  rw [hl]
  simp only [bnd_some, ctl_true, ctl_false, ctl_and, ctl_or', ctl_or2, x_toPV, x_toCs, x_toCs2, x_toEs, x_bEs, x_bCs, x_aPV, x_aCs, x_int, x_bool, x_str, x_es, x_esn, nth_0, nth_1, nth_2, nth_3, nth_4, nth_5, nth_6, nth_7, nth_8, nth_9, y_nil, y_int, y_bool, y_str, y_sl, y_nils, y_agg, y_ownp, y_own, z_nil, z_int, z_bool, z_str, z_sl, z_nils, b_nil, b_arr, b_box1, b_box2, b_box3, b_box4, List.map_cons, List.map_nil, Bool.and_self, Bool.and_true, Bool.true_and, Bool.not_true, Bool.not_false, Bool.or_false, Bool.false_or, cond_true, cond_false, okPack, okPut, okPutBlks, okPutCells, q_isP, q_isAg, q_isBox, q_isArr, q_int, q_bool, q_str, q_sl, q_nils, e_exit, e_ret, e_nrm, e_ret_exit, e_exit_ret, e_nrm_exit, e_nrm_ret, e_exit_nrm, e_ret_nrm, Nat.zero_add, Nat.reduceAdd, noslR, noslP, noslB, noslA, List.all_cons, List.all_nil]

theorem rt_loop (s : Shp) (N : Nat) (hN : N ≤ 1000) : ∀ (l p : List (Int × Int)) (ts q : List Thr) (a b c : Int), s.ts = q ++ ts → (p ++ l).length = N → p.length = q.length → l.length = ts.length → SmL l 5000 →
    -5000 * (p.length : Int) ≤ a ∧ a ≤ 5000 * (p.length : Int) → -5000 * (p.length : Int) ≤ b ∧ b ≤ 5000 * (p.length : Int) → -5000 * (p.length : Int) ≤ c ∧ c ≤ 5000 * (p.length : Int) →
    lp E (denC E) 23 0 [] 0 { vals := [AV.sl 2 (arcK (p ++ l)), AV.int .i64 N, AV.int .i64 (p.length : Int)], blks := [Blk.box [AV.int .i64 s.bw, AV.int .i64 s.sn, AV.sl 6 (thK s.ts)], Blk.box [AV.int .i64 0, AV.int .i64 0, AV.int .i64 0], Blk.box [AV.int .i64 a, AV.int .i64 b, AV.int .i64 c]] } =
      some (Ex.exit 0, { vals := [], blks := [Blk.box [AV.int .i64 0, AV.int .i64 0, AV.int .i64 0], Blk.box [AV.int .i64 (tot ts l a b c).1, AV.int .i64 (tot ts l a b c).2.1, AV.int .i64 (tot ts l a b c).2.2]] })
  | [], p, ts, q, a, b, c, hs, hN2, hpq, hl, hm, ha, hb, hc => by
    have : ts = [] := by cases ts with | nil => rfl | cons => cases hl
    subst this
    rw [List.append_nil] at hN2
    rw [r23_0, ctl_dec, if_neg (by omega)]
    rfl
  | v :: l, p, [], q, a, b, c, hs, hN2, hpq, hl, hm, ha, hb, hc => by cases hl
  | v :: l, p, t :: ts, q, a, b, c, hs, hN2, hpq, hl, hm, ha, hb, hc => by
    have hv := hm v (List.mem_cons_self ..)
    have ih := fun a b c => rt_loop s N hN l (p ++ [v]) ts (q ++ [t]) a b c (by rw [hs]; simp) (by rw [← hN2]; simp) (by simp [hpq]) (by simpa using hl) (fun x hx => hm x (List.mem_cons_of_mem _ hx))
    simp only [List.length_append, List.length_cons, List.length_nil] at hN2 ih
    have hr : denC E 46 [AV.agg [PV.int .i64 v.1, PV.int .i64 v.2]] [] = some ([RV.p (PV.bool true)], []) := by
      have g1 : leB (-5000) v.1 = true := by simp only [decide_eq_true_eq]; omega
      have g2 : leB v.1 5000 = true := by simp only [decide_eq_true_eq]; omega
      have g3 : leB (-5000) v.2 = true := by simp only [decide_eq_true_eq]; omega
      have g4 : leB v.2 5000 = true := by simp only [decide_eq_true_eq]; omega
      rw [denC_eq, r46, g1, g2, g3, g4]
      rfl
    rw [r23_0, ctl_dec, if_pos (by omega), getE_arc]
    simp only [arcC, bnd_some, ctl_true, ctl_false, ctl_and, ctl_or', ctl_or2, x_toPV, x_toCs, x_toCs2, x_toEs, x_bEs, x_bCs, x_aPV, x_aCs, x_int, x_bool, x_str, x_es, x_esn, nth_0, nth_1, nth_2, nth_3, nth_4, nth_5, nth_6, nth_7, nth_8, nth_9, y_nil, y_int, y_bool, y_str, y_sl, y_nils, y_agg, y_ownp, y_own, z_nil, z_int, z_bool, z_str, z_sl, z_nils, b_nil, b_arr, b_box1, b_box2, b_box3, b_box4, List.map_cons, List.map_nil, Bool.and_self, Bool.and_true, Bool.true_and, Bool.not_true, Bool.not_false, Bool.or_false, Bool.false_or, cond_true, cond_false, okPack, okPut, okPutBlks, okPutCells, q_isP, q_isAg, q_isBox, q_isArr, q_int, q_bool, q_str, q_sl, q_nils, e_exit, e_ret, e_nrm, e_ret_exit, e_exit_ret, e_nrm_exit, e_nrm_ret, e_exit_nrm, e_ret_nrm, Nat.zero_add, Nat.reduceAdd, noslR, noslP, noslB, noslA, List.all_cons, List.all_nil]
    rw [hr]
    simp only [bnd_some, ctl_true, ctl_false, ctl_and, ctl_or', ctl_or2, x_toPV, x_toCs, x_toCs2, x_toEs, x_bEs, x_bCs, x_aPV, x_aCs, x_int, x_bool, x_str, x_es, x_esn, nth_0, nth_1, nth_2, nth_3, nth_4, nth_5, nth_6, nth_7, nth_8, nth_9, y_nil, y_int, y_bool, y_str, y_sl, y_nils, y_agg, y_ownp, y_own, z_nil, z_int, z_bool, z_str, z_sl, z_nils, b_nil, b_arr, b_box1, b_box2, b_box3, b_box4, List.map_cons, List.map_nil, Bool.and_self, Bool.and_true, Bool.true_and, Bool.not_true, Bool.not_false, Bool.or_false, Bool.false_or, cond_true, cond_false, okPack, okPut, okPutBlks, okPutCells, q_isP, q_isAg, q_isBox, q_isArr, q_int, q_bool, q_str, q_sl, q_nils, e_exit, e_ret, e_nrm, e_ret_exit, e_exit_ret, e_nrm_exit, e_nrm_ret, e_exit_nrm, e_ret_nrm, Nat.zero_add, Nat.reduceAdd, noslR, noslP, noslB, noslA, List.all_cons, List.all_nil]
    have hg : ∀ {α : Type} (K : List PV → Option α), getE (thK s.ts) (p.length : Int) K = K (thC t) := fun K => by rw [hs, hpq]; exact getE_th q t ts K
    rw [hg]
    unfold thC
    simp only [bnd_some, ctl_true, ctl_false, ctl_and, ctl_or', ctl_or2, x_toPV, x_toCs, x_toCs2, x_toEs, x_bEs, x_bCs, x_aPV, x_aCs, x_int, x_bool, x_str, x_es, x_esn, nth_0, nth_1, nth_2, nth_3, nth_4, nth_5, nth_6, nth_7, nth_8, nth_9, y_nil, y_int, y_bool, y_str, y_sl, y_nils, y_agg, y_ownp, y_own, z_nil, z_int, z_bool, z_str, z_sl, z_nils, b_nil, b_arr, b_box1, b_box2, b_box3, b_box4, List.map_cons, List.map_nil, Bool.and_self, Bool.and_true, Bool.true_and, Bool.not_true, Bool.not_false, Bool.or_false, Bool.false_or, cond_true, cond_false, okPack, okPut, okPutBlks, okPutCells, q_isP, q_isAg, q_isBox, q_isArr, q_int, q_bool, q_str, q_sl, q_nils, e_exit, e_ret, e_nrm, e_ret_exit, e_exit_ret, e_nrm_exit, e_nrm_ret, e_exit_nrm, e_ret_nrm, Nat.zero_add, Nat.reduceAdd, noslR, noslP, noslB, noslA, List.all_cons, List.all_nil]
    rw [w64 (n := (p.length : Int) + 1) (by omega), w64 (n := a + v.1) (by omega), w64 (n := b + v.2) (by omega), w64 (n := c + v.2) (by omega)]
    have e1 : ((p.length : Int) + 1) = ((p.length + (0 + 1) : Nat) : Int) := by omega
    rw [e1]
    simp only [List.append_assoc, List.cons_append, List.nil_append] at ih
    by_cases ht : t.st = 0
    · have e2 : (t.st == 0) = true := by simpa using ht
      rw [e2, ctl_true, ih _ _ _ (by omega) (by omega) (by omega)]
      simp only [tot, if_pos ht]
    · have e2 : (t.st == 0) = false := by simpa using ht
      rw [e2, ctl_false, ih _ _ _ (by omega) (by omega) (by omega)]
      simp only [tot, if_neg ht]

theorem c_R12Total {s : Shp} (h : OkShp s) {l : List (Int × Int)} (hl : l.length = s.ts.length) (hm : SmL l 5000) : denC E 23 [AV.agg (shpC s), AV.sl 2 (arcK l)] [] =
    some ([RV.agg [PV.int .i64 (tot s.ts l 0 0 0).1, PV.int .i64 (tot s.ts l 0 0 0).2.1, PV.int .i64 (tot s.ts l 0 0 0).2.2], RV.p (PV.int .i64 0)], []) := by
  have hC := c_R12Check h
  have hlp := rt_loop s l.length (by have := h.1; omega) l [] s.ts [] 0 0 0 rfl rfl rfl hl hm (by simp) (by simp) (by simp)
  simp only [List.nil_append, List.length_nil] at hlp
  have e0 : (((0 : Nat)) : Int) = 0 := rfl
  rw [e0] at hlp
  unfold shpC at hC ⊢
  rw [denC_eq, r23, hC, arcK_length, thK_length]
  have e1 : ((0 : Int) != 0) = false := rfl
  have e2 : ((l.length : Int) != (s.ts.length : Int)) = false := by simp only [bne_eq_false_iff_eq]; omega
  simp only [bnd_some, ctl_true, ctl_false, ctl_and, ctl_or', ctl_or2, x_toPV, x_toCs, x_toCs2, x_toEs, x_bEs, x_bCs, x_aPV, x_aCs, x_int, x_bool, x_str, x_es, x_esn, nth_0, nth_1, nth_2, nth_3, nth_4, nth_5, nth_6, nth_7, nth_8, nth_9, y_nil, y_int, y_bool, y_str, y_sl, y_nils, y_agg, y_ownp, y_own, z_nil, z_int, z_bool, z_str, z_sl, z_nils, b_nil, b_arr, b_box1, b_box2, b_box3, b_box4, List.map_cons, List.map_nil, Bool.and_self, Bool.and_true, Bool.true_and, Bool.not_true, Bool.not_false, Bool.or_false, Bool.false_or, cond_true, cond_false, okPack, okPut, okPutBlks, okPutCells, q_isP, q_isAg, q_isBox, q_isArr, q_int, q_bool, q_str, q_sl, q_nils, e_exit, e_ret, e_nrm, e_ret_exit, e_exit_ret, e_nrm_exit, e_nrm_ret, e_exit_nrm, e_ret_nrm, Nat.zero_add, Nat.reduceAdd, noslR, noslP, noslB, noslA, List.all_cons, List.all_nil, e1, e2]
  rw [hlp]
  simp only [bnd_some, ctl_true, ctl_false, ctl_and, ctl_or', ctl_or2, x_toPV, x_toCs, x_toCs2, x_toEs, x_bEs, x_bCs, x_aPV, x_aCs, x_int, x_bool, x_str, x_es, x_esn, nth_0, nth_1, nth_2, nth_3, nth_4, nth_5, nth_6, nth_7, nth_8, nth_9, y_nil, y_int, y_bool, y_str, y_sl, y_nils, y_agg, y_ownp, y_own, z_nil, z_int, z_bool, z_str, z_sl, z_nils, b_nil, b_arr, b_box1, b_box2, b_box3, b_box4, List.map_cons, List.map_nil, Bool.and_self, Bool.and_true, Bool.true_and, Bool.not_true, Bool.not_false, Bool.or_false, Bool.false_or, cond_true, cond_false, okPack, okPut, okPutBlks, okPutCells, q_isP, q_isAg, q_isBox, q_isArr, q_int, q_bool, q_str, q_sl, q_nils, e_exit, e_ret, e_nrm, e_ret_exit, e_exit_ret, e_nrm_exit, e_nrm_ret, e_exit_nrm, e_ret_nrm, Nat.zero_add, Nat.reduceAdd, noslR, noslP, noslB, noslA, List.all_cons, List.all_nil]

/-! ### What a thruster may do -/
def AlwL : List Thr → List Int → List Int → Prop
  | [], [], [] => True
  | t :: ts, x :: xs, y :: ys => alw t x y = true ∧ AlwL ts xs ys
  | _, _, _ => False
theorem lat_alw {t : Thr} (hv : okT t = true) {v : Option Int} {y : Int} (h : (ratS t (latF t) v).lo ≤ y ∧ y ≤ (ratS t (latF t) v).hi) : alw t 0 y = true := by
  have hq := lat_in hv
  have hr := (ratS_ok hv (q := latF t) (by omega) v).2
  have hl := latF_is t
  unfold IsLat at hl
  rw [if_pos hv] at hl
  exact hl.2.2.1 y (by omega) (by omega)
theorem lon_alw {t : Thr} (hv : okT t = true) {y : Int} (hy : alw t 0 y = true) {v : Option Int} {x : Int} (h : (ratS t (lonF t y) v).lo ≤ x ∧ x ≤ (ratS t (lonF t y) v).hi) : alw t x y = true := by
  have hq := lon_in hv y
  have hr := (ratS_ok hv (q := lonF t y) (by omega) v).2
  have hl := lonF_is t y
  unfold IsLon at hl
  rw [if_pos ⟨hv, hy⟩] at hl
  exact hl.2.2.1 x (by omega) (by omega)
theorem alwL : ∀ {ts : List Thr} {ls : List (Int × Int)} {a b xs : List Int}, (∀ t ∈ ts, okT t = true) → InR (lats 1 ts ls) a → InR (lats 0 ts ls) b → InR (lons ts (addL a b) ls) xs → AlwL ts xs (addL a b)
  | [], _, [], [], [], _, _, _, _ => trivial
  | [], _, [], [], _ :: _, _, _, _, h => h.elim
  | [], _, _ :: _, _, _, _, h, _, _ => h.elim
  | [], _, [], _ :: _, _, _, _, h, _ => h.elim
  | t :: ts, _, [], _, _, _, h, _, _ => h.elim
  | t :: ts, _, _ :: _, [], _, _, _, h, _ => h.elim
  | t :: ts, _, _ :: _, _ :: _, [], _, _, _, h => h.elim
  | t :: ts, ls, x1 :: a, z0 :: b, x :: xs, hv, ha, hb, hx => by
    have hv1 := hv t (List.mem_cons_self ..)
    have hv0 := okT0_iff.1 (okT_iff.1 hv1).1
    have ih := alwL (ts := ts) (ls := ls.tail) (fun x hx => hv x (List.mem_cons_of_mem _ hx)) ha.2 hb.2 hx.2
    refine ⟨?_, ih⟩
    have ha1 := ha.1
    have hb1 := hb.1
    unfold latS at ha1 hb1
    refine lon_alw hv1 ?_ hx.1
    by_cases h0 : t.st = 0
    · rw [if_neg (by omega)] at ha1
      rw [if_pos h0] at hb1
      simp only at ha1
      have e : x1 + z0 = z0 := by omega
      rw [e]
      exact lat_alw hv1 hb1
    · rw [if_neg h0] at hb1
      rw [if_pos (by omega)] at ha1
      simp only at hb1
      have e : x1 + z0 = x1 := by omega
      rw [e]
      exact lat_alw hv1 ha1
def AlwR : List Thr → List Int → List (Int × Int) → Prop
  | [], [], [] => True
  | t :: ts, m :: ms, v :: vs => alw (withT t m) v.1 v.2 = true ∧ AlwR ts ms vs
  | _, _, _ => False
theorem AlwR_of : ∀ {ts : List Thr} {ms xs ys : List Int}, ms.length = ts.length → AlwL (Ws ts ms) xs ys → AlwR ts ms (pairL xs ys)
  | [], [], [], [], _, _ => trivial
  | [], [], _ :: _, _, _, h => absurd h (by intro h; cases h)
  | [], [], [], _ :: _, _, h => absurd h (by intro h; cases h)
  | [], _ :: _, _, _, h, _ => by cases h
  | t :: ts, [], _, _, h, _ => by cases h
  | t :: ts, _ :: _, [], _, _, h => absurd h (by intro h; cases h)
  | t :: ts, _ :: _, _ :: _, [], _, h => absurd h (by intro h; cases h)
  | t :: ts, m :: ms, x :: xs, y :: ys, hl, h => ⟨h.1, AlwR_of (by simpa using hl) h.2⟩

/-- What is missing is 0 exactly within reach. -/
theorem miss_iff {l : List Div.Shr} (h : Div.OkL l) (d : Int) : (d - totC l d == 0) = (leB (Div.lows l) d && leB d (Div.highs l)) := by
  have h1 := (Div.ends_in h.2).2.1
  unfold totC
  rw [Div.clamp_eq, Bool.eq_iff_iff]
  simp only [Bool.and_eq_true, decide_eq_true_eq, beq_iff_eq]
  split <;> split <;> omega

end Go.Proofs.Ytcnjaffogkkpnaa.Vm
