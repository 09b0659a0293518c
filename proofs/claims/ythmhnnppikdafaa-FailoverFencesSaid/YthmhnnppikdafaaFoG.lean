/- Chapter 33: contracts: a whole round. -/
import Derived.Test.YthmhnnppikdafaaFoF
namespace Go.Proofs.Ythmhnnppikdafaa.Vm
set_option linter.unusedVariables false
set_option linter.unusedSimpArgs false

theorem k_kvs (m : Bool) (sz : Nat) (kv) : (Blk.tab m sz kv).toKvs = kv := rfl

theorem great_bd {l : List Ct} (hB : Bd l) : ∀ (xs : List Nat) (o : Int), (∀ x ∈ xs, x < l.length) → 0 ≤ o ∧ o ≤ 2147483648 → 0 ≤ great l o xs ∧ great l o xs ≤ 2147483648
  | [], o, _, ho => ho
  | x :: xs, o, hx, ho => by
    have h1 := hB.ep0 x (hx x (by simp))
    have h2 := hB.ep x (hx x (by simp))
    exact great_bd hB xs (maxI (gt l x).ep o) (fun y hy => hx y (by simp [hy])) (by unfold maxI; split <;> omega)

theorem setEp_length (e : Int) : ∀ (xs : List Nat) (o : List Ct), (xs.foldl (setEp e) o).length = o.length
  | [], o => rfl
  | x :: xs, o => by rw [List.foldl_cons, setEp_length e xs]; simp [setEp]

theorem elect_loop4 {l : List Ct} {R : List (List Bool)} {t : Int} {c : Nat} {e : Int} {X : List (List PV)} {y z : Int} {kv : List (Int × MV)} : ∀ (xs pre : List Nat) (out : List Ct), pre.length + xs.length ≤ 1000 → (∀ x ∈ xs, x < out.length) →
    lp E (denC E) 32 0 [] 4 { vals := [AV.int .i64 t, AV.int .i64 (c : Int), AV.int .i64 e, AV.sl 1 X, AV.int .i64 y, AV.int .i64 z, AV.sl 1 (ns (pre ++ xs)), AV.int .i64 (pre ++ xs).length, AV.int .i64 pre.length], blks := [bpt l R, Blk.box [AV.sl 3 [], AV.sl 1 []], Blk.tab true 0 kv, Blk.box [AV.t (.hsl 4), AV.sl 1 (rch R)], Blk.arr 3 (ctrs out)] } =
      some (Ex.exit 4, { vals := [AV.int .i64 t, AV.int .i64 (c : Int), AV.sl 1 X, AV.int .i64 y, AV.int .i64 z], blks := [bpt l R, Blk.box [AV.sl 3 [], AV.sl 1 []], Blk.tab true 0 kv, Blk.box [AV.t (.hsl 4), AV.sl 1 (rch R)], Blk.arr 3 (ctrs (xs.foldl (setEp e) out))] }) := by
  intro xs
  induction xs with
  | nil =>
    intro pre out hp hx
    rw [r32_4, ctl_dec, if_neg (by simp)]
    rfl
  | cons x xs ih =>
    intro pre out hp hx
    have hxl := hx x (by simp)
    have hg : (pre ++ x :: xs).getD pre.length 0 = x := by simp [List.getD]
    simp only [List.length_cons] at hp
    rw [r32_4, ctl_dec, if_pos (by simp; omega), getE_ns (by simp), hg]
    simp only [bnd_some, ctl_true, ctl_false, ctl_and, ctl_or', ctl_or2, x_toPV, x_toCs, x_toCs2, x_toEs, x_bEs, x_bCs, x_aPV, x_aCs, x_int, x_bool, x_str, x_es, x_esn, nth_0, nth_1, nth_2, nth_3, nth_4, nth_5, nth_6, nth_7, nth_8, nth_9, y_nil, y_int, y_bool, y_str, y_sl, y_nils, y_agg, y_ownp, y_own, z_nil, z_int, z_bool, z_str, z_sl, z_nils, b_nil, b_arr, b_box1, b_box2, b_box3, b_box4, List.map_cons, List.map_nil, Bool.and_self, Bool.and_true, Bool.true_and, Bool.not_true, Bool.not_false, Bool.or_false, Bool.false_or, cond_true, cond_false, okPack, okPut, okPutBlks, okPutCells, q_isP, q_isAg, q_isBox, q_isArr, q_int, q_bool, q_str, q_sl, q_nils, e_exit, e_ret, e_nrm, e_ret_exit, e_exit_ret, e_nrm_exit, e_nrm_ret, e_exit_nrm, e_ret_nrm, Nat.zero_add, Nat.reduceAdd, noslR, noslP, noslB, noslA, List.all_cons, List.all_nil]
    have e1 : (pre.length : Int) + 1 = ((pre ++ [x]).length : Int) := by simp
    have e2 : pre ++ x :: xs = (pre ++ [x]) ++ xs := by simp
    rw [ctrs_length, in_len hxl, ctl_true, Int.toNat_natCast, setEs_ep hxl, w64 (n := (pre.length : Int) + 1) (by omega), e1, e2, ih (pre ++ [x]) _ (by simp; omega) fun y hy => by simpa using hx y (by simp [hy])]
    rfl

def electR (R : List (List Bool)) : Option (List Ct) → Ex × Pack
  | some o => (Ex.exit 2, { vals := [], blks := [Blk.box [AV.sl 3 [], AV.sl 1 []], Blk.box [AV.t (.hsl 2), AV.sl 1 (rch R)], Blk.arr 3 (ctrs o)] })
  | none => (Ex.ret, { vals := [AV.bool false], blks := [Blk.box [AV.sl 3 [], AV.sl 1 []]] })

theorem elect_loop2 {l : List Ct} {R : List (List Bool)} (hS : Sq l R) (hB : Bd l) {t : Int} {V : Nat → List Nat} {kv : List (Int × MV)}
    (hV : ∀ c : Nat, MV.pvOk (.sl 1) (kvGet (MV.pv .nils) (c : Int) kv) = true ∧ (kvGet (MV.pv .nils) (c : Int) kv).toPV.toEs = ns (V c)) (hV5 : ∀ c, (V c).length ≤ 5) (hVl : ∀ c, ∀ i ∈ V c, i < l.length) :
    ∀ (cs pre : List Nat) (out : List Ct), pre.length + cs.length ≤ 1000 → (∀ c ∈ cs, c < l.length) → out.length = l.length →
    lp E (denC E) 32 0 [] 2 { vals := [AV.int .i64 t, AV.sl 1 (ns (pre ++ cs)), AV.int .i64 (pre ++ cs).length, AV.int .i64 pre.length], blks := [bpt l R, Blk.box [AV.sl 3 [], AV.sl 1 []], Blk.tab true 0 kv, Blk.box [AV.t (.hsl 4), AV.sl 1 (rch R)], Blk.arr 3 (ctrs out)] } =
      some (electR R (elect l t V cs out)) := by
  have h1 := hS.n1
  have h5 := hS.n5
  intro cs
  induction cs with
  | nil =>
    intro pre out hp hc ho
    rw [r32_2, ctl_dec, if_neg (by simp)]
    rfl
  | cons c cs ih =>
    intro pre out hp hc ho
    have hcl := hc c (by simp)
    have hg : (pre ++ c :: cs).getD pre.length 0 = c := by simp [List.getD]
    simp only [List.length_cons] at hp
    obtain ⟨v1, v2⟩ := hV c
    have hv5 := hV5 c
    have hvl := hVl c
    have e1 : (pre.length : Int) + 1 = ((pre ++ [c]).length : Int) := by simp
    have e2 : pre ++ c :: cs = (pre ++ [c]) ++ cs := by simp
    rw [r32_2, ctl_dec, if_pos (by simp; omega), getE_ns (by simp), hg]
    simp only [bnd_some, ctl_true, ctl_false, ctl_and, ctl_or', ctl_or2, x_toPV, x_toCs, x_toCs2, x_toEs, x_bEs, x_bCs, x_aPV, x_aCs, x_int, x_bool, x_str, x_es, x_esn, nth_0, nth_1, nth_2, nth_3, nth_4, nth_5, nth_6, nth_7, nth_8, nth_9, y_nil, y_int, y_bool, y_str, y_sl, y_nils, y_agg, y_ownp, y_own, z_nil, z_int, z_bool, z_str, z_sl, z_nils, b_nil, b_arr, b_box1, b_box2, b_box3, b_box4, List.map_cons, List.map_nil, Bool.and_self, Bool.and_true, Bool.true_and, Bool.not_true, Bool.not_false, Bool.or_false, Bool.false_or, cond_true, cond_false, okPack, okPut, okPutBlks, okPutCells, q_isP, q_isAg, q_isBox, q_isArr, q_int, q_bool, q_str, q_sl, q_nils, e_exit, e_ret, e_nrm, e_ret_exit, e_exit_ret, e_nrm_exit, e_nrm_ret, e_exit_nrm, e_ret_nrm, Nat.zero_add, Nat.reduceAdd, noslR, noslP, noslB, noslA, List.all_cons, List.all_nil]
    rw [v1, v2, ns_length, c_maj (by omega), w64 (n := (pre.length : Int) + 1) (by omega)]
    simp only [bnd_some, ctl_true, ctl_false, ctl_and, ctl_or', ctl_or2, x_toPV, x_toCs, x_toCs2, x_toEs, x_bEs, x_bCs, x_aPV, x_aCs, x_int, x_bool, x_str, x_es, x_esn, nth_0, nth_1, nth_2, nth_3, nth_4, nth_5, nth_6, nth_7, nth_8, nth_9, y_nil, y_int, y_bool, y_str, y_sl, y_nils, y_agg, y_ownp, y_own, z_nil, z_int, z_bool, z_str, z_sl, z_nils, b_nil, b_arr, b_box1, b_box2, b_box3, b_box4, List.map_cons, List.map_nil, Bool.and_self, Bool.and_true, Bool.true_and, Bool.not_true, Bool.not_false, Bool.or_false, Bool.false_or, cond_true, cond_false, okPack, okPut, okPutBlks, okPutCells, q_isP, q_isAg, q_isBox, q_isArr, q_int, q_bool, q_str, q_sl, q_nils, e_exit, e_ret, e_nrm, e_ret_exit, e_exit_ret, e_nrm_exit, e_nrm_ret, e_exit_nrm, e_ret_nrm, Nat.zero_add, Nat.reduceAdd, noslR, noslP, noslB, noslA, List.all_cons, List.all_nil]
    unfold elect
    cases hm : maj l (V c).length with
    | false =>
      rw [Bool.not_false, ctl_true, if_neg (by simp), e1, e2]
      exact ih (pre ++ [c]) out (by simp; omega) (fun y hy => hc y (by simp [hy])) ho
    | true =>
      have hn1 : 1 ≤ (V c).length := by
        have : (l.length : Int) < 2 * ((V c).length : Nat) := by simpa [maj] using hm
        omega
      have en : ns (V c) ++ [[PV.int IntKind.i64 (c : Int)]] = ns (V c ++ [c]) := by simp [ns]
      have hlt : ∀ x ∈ V c ++ [c], x < l.length := fun x hx => by
        rcases List.mem_append.1 hx with h | h
        · exact hvl x h
        · rw [List.mem_singleton] at h; rw [h]; exact hcl
      have hgb := great_bd hB (V c ++ [c]) 0 hlt (by omega)
      have hle : leN (((ns (V c)).length + 1) * 8) 140737488355328 = true := by rw [ns_length]; simp only [decide_eq_true_eq]; omega
      have hlen : (V c ++ [c]).length ≤ 1000 := by simp; omega
      rw [Bool.not_true, ctl_false, if_pos rfl, c_clone1 hn1 (by omega)]
      simp only [bnd_some, ctl_true, ctl_false, ctl_and, ctl_or', ctl_or2, x_toPV, x_toCs, x_toCs2, x_toEs, x_bEs, x_bCs, x_aPV, x_aCs, x_int, x_bool, x_str, x_es, x_esn, nth_0, nth_1, nth_2, nth_3, nth_4, nth_5, nth_6, nth_7, nth_8, nth_9, y_nil, y_int, y_bool, y_str, y_sl, y_nils, y_agg, y_ownp, y_own, z_nil, z_int, z_bool, z_str, z_sl, z_nils, b_nil, b_arr, b_box1, b_box2, b_box3, b_box4, List.map_cons, List.map_nil, Bool.and_self, Bool.and_true, Bool.true_and, Bool.not_true, Bool.not_false, Bool.or_false, Bool.false_or, cond_true, cond_false, okPack, okPut, okPutBlks, okPutCells, q_isP, q_isAg, q_isBox, q_isArr, q_int, q_bool, q_str, q_sl, q_nils, e_exit, e_ret, e_nrm, e_ret_exit, e_exit_ret, e_nrm_exit, e_nrm_ret, e_exit_nrm, e_ret_nrm, Nat.zero_add, Nat.reduceAdd, noslR, noslP, noslB, noslA, List.all_cons, List.all_nil]
      rw [hle, en, c_great h5 _ hlen hlt]
      simp only [bnd_some, ctl_true, ctl_false, ctl_and, ctl_or', ctl_or2, x_toPV, x_toCs, x_toCs2, x_toEs, x_bEs, x_bCs, x_aPV, x_aCs, x_int, x_bool, x_str, x_es, x_esn, nth_0, nth_1, nth_2, nth_3, nth_4, nth_5, nth_6, nth_7, nth_8, nth_9, y_nil, y_int, y_bool, y_str, y_sl, y_nils, y_agg, y_ownp, y_own, z_nil, z_int, z_bool, z_str, z_sl, z_nils, b_nil, b_arr, b_box1, b_box2, b_box3, b_box4, List.map_cons, List.map_nil, Bool.and_self, Bool.and_true, Bool.true_and, Bool.not_true, Bool.not_false, Bool.or_false, Bool.false_or, cond_true, cond_false, okPack, okPut, okPutBlks, okPutCells, q_isP, q_isAg, q_isBox, q_isArr, q_int, q_bool, q_str, q_sl, q_nils, e_exit, e_ret, e_nrm, e_ret_exit, e_exit_ret, e_nrm_exit, e_nrm_ret, e_exit_nrm, e_ret_nrm, Nat.zero_add, Nat.reduceAdd, noslR, noslP, noslB, noslA, List.all_cons, List.all_nil]
      rw [w64 (n := 1 + great l 0 (V c ++ [c])) (by omega), ctl_dec]
      by_cases hbig : 2147483648 < 1 + great l 0 (V c ++ [c])
      · rw [if_pos hbig, if_pos hbig]
        rfl
      · have h4 := elect_loop4 (l := l) (R := R) (t := t) (c := c) (e := 1 + great l 0 (V c ++ [c])) (X := ns (pre ++ c :: cs)) (y := ((pre ++ c :: cs).length : Int)) (z := (pre.length : Int)) (kv := kv) (V c ++ [c]) [] out (by simpa using hlen) (fun x hx => by rw [ho]; exact hlt x hx)
        rw [List.nil_append, List.length_nil, nc0] at h4
        rw [if_neg hbig, if_neg hbig, ns_length, h4]
        simp only [bnd_some, ctl_true, ctl_false, ctl_and, ctl_or', ctl_or2, x_toPV, x_toCs, x_toCs2, x_toEs, x_bEs, x_bCs, x_aPV, x_aCs, x_int, x_bool, x_str, x_es, x_esn, nth_0, nth_1, nth_2, nth_3, nth_4, nth_5, nth_6, nth_7, nth_8, nth_9, y_nil, y_int, y_bool, y_str, y_sl, y_nils, y_agg, y_ownp, y_own, z_nil, z_int, z_bool, z_str, z_sl, z_nils, b_nil, b_arr, b_box1, b_box2, b_box3, b_box4, List.map_cons, List.map_nil, Bool.and_self, Bool.and_true, Bool.true_and, Bool.not_true, Bool.not_false, Bool.or_false, Bool.false_or, cond_true, cond_false, okPack, okPut, okPutBlks, okPutCells, q_isP, q_isAg, q_isBox, q_isArr, q_int, q_bool, q_str, q_sl, q_nils, e_exit, e_ret, e_nrm, e_ret_exit, e_exit_ret, e_nrm_exit, e_nrm_ret, e_exit_nrm, e_ret_nrm, Nat.zero_add, Nat.reduceAdd, noslR, noslP, noslB, noslA, List.all_cons, List.all_nil, iT_m0, iT_3, k_kvs]
        have ho2 : ((V c ++ [c]).foldl (setEp (1 + great l 0 (V c ++ [c]))) out).length = l.length := by rw [setEp_length]; exact ho
        rw [ctrs_length, ho2, in_len hcl, ctl_true, Int.toNat_natCast, setEs_st (by omega), ctrs_length, List.length_set, ho2, in_len hcl, ctl_true, setEs_hd (by rw [List.length_set, ho2]; exact hcl), w64 (n := (pre.length : Int) + 1) (by omega), e1, e2]
        have ec : ∀ o : List Ct, c < o.length → (o.set c ⟨1, (gt o c).ep, (gt o c).hd⟩).set c ⟨(gt (o.set c ⟨1, (gt o c).ep, (gt o c).hd⟩) c).st, (gt (o.set c ⟨1, (gt o c).ep, (gt o c).hd⟩) c).ep, t⟩ = crown t o c := fun o h => by
          have : gt (o.set c ⟨1, (gt o c).ep, (gt o c).hd⟩) c = ⟨1, (gt o c).ep, (gt o c).hd⟩ := by simp [gt, List.getD, h]
          rw [this, List.set_set]
          rfl
        rw [ec _ (by omega)]
        exact ih (pre ++ [c]) _ (by simp; omega) (fun y hy => hc y (by simp [hy])) (by unfold crown; rw [List.length_set]; exact ho2)

theorem votes_lt {l : List Ct} {R : List (List Bool)} {all : List Nat} {k c i : Nat} (h : i ∈ votesL l R all k c) : i < k := by
  have := (List.mem_filter.1 h).1
  simp at this
  exact this

def electM (l : List Ct) (R : List (List Bool)) (t d : Int) : Option (List Ct) := elect l t (votesL l R (candL l R t d) l.length) (candL l R t d) l
theorem c_elect {l : List Ct} {R : List (List Bool)} (hS : Sq l R) (hB : Bd l) {t d : Int} (ht : 0 ≤ t ∧ t ≤ 2147483648) :
    denC E 32 [pty l R, AV.int .i64 t, AV.int .i64 d] [] = some (match electM l R t d with
      | some o => ([RV.agg [PV.sl 3 (ctrs o), PV.sl 1 (rch R)], RV.p (PV.bool true)], [])
      | none => ([RV.agg [PV.sl 3 [], PV.sl 1 []], RV.p (PV.bool false)], [])) := by
  have h1 := hS.n1
  have h5 := hS.n5
  have hcl := cand_len (l := l) (R := R) (t := t) (d := d)
  obtain ⟨kv, hkv, h0⟩ := elect_loop0 hS (t := t) (all := candL l R t d) (by omega) l.length 0 [] (by omega) (fun c => rfl)
  have h2 := elect_loop2 hS hB (t := t) (V := votesL l R (candL l R t d) l.length) (kv := kv.map fun x => (x.1, MV.pv (x.2.frz 1))) (fun c => kv_frz (hkv c)) (fun c => by have := votes_len (l := l) (R := R) (all := candL l R t d) (k := l.length) (c := c); omega) (fun c i hi => votes_lt hi) (candL l R t d) [] l (by simp; omega) (fun c hc => cand_lt hc) rfl
  rw [nc0] at h0
  rw [List.nil_append, List.length_nil, nc0] at h2
  rw [denC_eq, r32, c_cand hS hB ht]
  simp only [bnd_some, ctl_true, ctl_false, ctl_and, ctl_or', ctl_or2, x_toPV, x_toCs, x_toCs2, x_toEs, x_bEs, x_bCs, x_aPV, x_aCs, x_int, x_bool, x_str, x_es, x_esn, nth_0, nth_1, nth_2, nth_3, nth_4, nth_5, nth_6, nth_7, nth_8, nth_9, y_nil, y_int, y_bool, y_str, y_sl, y_nils, y_agg, y_ownp, y_own, z_nil, z_int, z_bool, z_str, z_sl, z_nils, b_nil, b_arr, b_box1, b_box2, b_box3, b_box4, List.map_cons, List.map_nil, Bool.and_self, Bool.and_true, Bool.true_and, Bool.not_true, Bool.not_false, Bool.or_false, Bool.false_or, cond_true, cond_false, okPack, okPut, okPutBlks, okPutCells, q_isP, q_isAg, q_isBox, q_isArr, q_int, q_bool, q_str, q_sl, q_nils, e_exit, e_ret, e_nrm, e_ret_exit, e_exit_ret, e_nrm_exit, e_nrm_ret, e_exit_nrm, e_ret_nrm, Nat.zero_add, Nat.reduceAdd, noslR, noslP, noslB, noslA, List.all_cons, List.all_nil]
  rw [ctrs_length, h0]
  simp only [bnd_some, ctl_true, ctl_false, ctl_and, ctl_or', ctl_or2, x_toPV, x_toCs, x_toCs2, x_toEs, x_bEs, x_bCs, x_aPV, x_aCs, x_int, x_bool, x_str, x_es, x_esn, nth_0, nth_1, nth_2, nth_3, nth_4, nth_5, nth_6, nth_7, nth_8, nth_9, y_nil, y_int, y_bool, y_str, y_sl, y_nils, y_agg, y_ownp, y_own, z_nil, z_int, z_bool, z_str, z_sl, z_nils, b_nil, b_arr, b_box1, b_box2, b_box3, b_box4, List.map_cons, List.map_nil, Bool.and_self, Bool.and_true, Bool.true_and, Bool.not_true, Bool.not_false, Bool.or_false, Bool.false_or, cond_true, cond_false, okPack, okPut, okPutBlks, okPutCells, q_isP, q_isAg, q_isBox, q_isArr, q_int, q_bool, q_str, q_sl, q_nils, e_exit, e_ret, e_nrm, e_ret_exit, e_exit_ret, e_nrm_exit, e_nrm_ret, e_exit_nrm, e_ret_nrm, Nat.zero_add, Nat.reduceAdd, noslR, noslP, noslB, noslA, List.all_cons, List.all_nil, iT_m1, k_kvs]
  rw [c_clone3 h1 (by omega)]
  simp only [bnd_some, ctl_true, ctl_false, ctl_and, ctl_or', ctl_or2, x_toPV, x_toCs, x_toCs2, x_toEs, x_bEs, x_bCs, x_aPV, x_aCs, x_int, x_bool, x_str, x_es, x_esn, nth_0, nth_1, nth_2, nth_3, nth_4, nth_5, nth_6, nth_7, nth_8, nth_9, y_nil, y_int, y_bool, y_str, y_sl, y_nils, y_agg, y_ownp, y_own, z_nil, z_int, z_bool, z_str, z_sl, z_nils, b_nil, b_arr, b_box1, b_box2, b_box3, b_box4, List.map_cons, List.map_nil, Bool.and_self, Bool.and_true, Bool.true_and, Bool.not_true, Bool.not_false, Bool.or_false, Bool.false_or, cond_true, cond_false, okPack, okPut, okPutBlks, okPutCells, q_isP, q_isAg, q_isBox, q_isArr, q_int, q_bool, q_str, q_sl, q_nils, e_exit, e_ret, e_nrm, e_ret_exit, e_exit_ret, e_nrm_exit, e_nrm_ret, e_exit_nrm, e_ret_nrm, Nat.zero_add, Nat.reduceAdd, noslR, noslP, noslB, noslA, List.all_cons, List.all_nil]
  rw [ns_length, h2]
  unfold electM
  cases elect l t (votesL l R (candL l R t d) l.length) (candL l R t d) l with
  | none => rfl
  | some o => rfl

end Go.Proofs.Ythmhnnppikdafaa.Vm
