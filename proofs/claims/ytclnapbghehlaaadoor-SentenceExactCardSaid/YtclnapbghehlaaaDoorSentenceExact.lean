/- The law SentenceExact. -/
import Derived.Test.YtclnapbghehlaaaDoorSentG
import Derived.Test.YtclnapbghehlaaaDoorRawExact
import Derived.Test.YtclnapbghehlaaaDoorFlds
namespace Go.Proofs.YtclnapbghehlaaaDoor.Vm
set_option linter.unusedVariables false
set_option linter.unusedSimpArgs false

theorem u8s (l : List Int) (h : ∀ n ∈ l, 0 ≤ n ∧ n ≤ 255) : ∃ s : List UInt8, intsK .u8 l = byteEs s ∧ s.length = l.length := by
  induction l with
  | nil => exact ⟨[], rfl, rfl⟩
  | cons n l ih =>
    obtain ⟨s, h1, h2⟩ := ih fun m hm => h m (by simp [hm])
    have hn := h n (by simp)
    refine ⟨n.toNat.toUInt8 :: s, ?_, by simp [h2]⟩
    have e : ((n.toNat.toUInt8.toNat : Nat) : Int) = n := by
      have : n.toNat.toUInt8.toNat = n.toNat := by simp; omega
      omega
    show [PV.int .u8 n] :: intsK .u8 l = [PV.int .u8 ((n.toNat.toUInt8.toNat : Nat) : Int)] :: byteEs s
    rw [e, h1]

theorem strs_of : ∀ {es : List (List PV)}, (∀ x ∈ es, ∃ s, x = [PV.str s] ∧ s.length ≤ maxLen) → ∃ l, es = strsK l
  | [], _ => ⟨[], rfl⟩
  | x :: es, h => by
    obtain ⟨l, rfl⟩ := strs_of (es := es) fun y hy => h y (by simp [hy])
    obtain ⟨s, rfl, _⟩ := h x (by simp)
    exact ⟨s :: l, rfl⟩

theorem ft_Sen : fty Tryd.prog 34 = [27] := by kernel_rfl
theorem in_Sen {a : AV} (h : WFA Tryd.prog 34 a) : ∃ l : List (List UInt8), a = AV.agg [PV.sl 1 (strsK l)] ∧ l.length ≤ maxLen := by
  obtain ⟨xs, rfl, hx⟩ := wfa_flds ft_Sen h
  obtain ⟨x0, xs0, rfl, h0, k0⟩ := all2_cons hx
  obtain rfl := all2_nil k0
  obtain ⟨es, rfl, h1, h2⟩ := wfc_sl (e := 9) (by kernel_rfl) h0
  obtain ⟨l, rfl⟩ := strs_of fun x hx => wfc_str (by kernel_rfl) (h2 x hx)
  exact ⟨l, rfl, by simpa [strsK] using h1⟩

theorem l_few (l : List (List UInt8)) : ∀ (pre : List (List UInt8)) (n : Int), (pre ++ l).length ≤ maxLen → ∃ m : Int, lp E (denC E) 14 0 [] 0 { vals := [AV.int .i64 n, AV.sl 1 (strsK (pre ++ l)), AV.int .i64 (pre ++ l).length, AV.int .i64 pre.length], blks := [] } =
    some (Ex.exit 0, { vals := [AV.int .i64 m], blks := [] }) := by
  induction l with
  | nil =>
    intro pre n h
    refine ⟨n, ?_⟩
    rw [r14_0, ctl_dec, if_neg (by simp)]
  | cons b l ih =>
    intro pre n h
    obtain ⟨m, e⟩ := ih (pre ++ [b]) (IntKind.i64.wrap (n + (b.length : Int))) (by simpa using h)
    refine ⟨m, ?_⟩
    rw [r14_0, ctl_dec, if_pos (by simp; omega), getE_strs (by simp; omega)]
    simp only [Int.toNat_natCast, getD_mid, bnd_some, ctl_true, ctl_false, ctl_and, ctl_or', ctl_or2, x_toPV, x_toCs, x_toCs2, x_toEs, x_bEs, x_bCs, x_aPV, x_aCs, x_int, x_bool, x_str, x_es, x_esn, nth_0, nth_1, nth_2, nth_3, nth_4, nth_5, nth_6, nth_7, nth_8, nth_9, y_nil, y_int, y_bool, y_str, y_sl, y_nils, y_agg, y_ownp, y_own, z_nil, z_int, z_bool, z_str, z_sl, z_nils, b_nil, b_arr, b_box1, b_box2, b_box3, b_box4, List.map_cons, List.map_nil, Bool.and_self, Bool.and_true, Bool.true_and, Bool.not_true, Bool.not_false, Bool.or_false, Bool.false_or, cond_true, cond_false, okPack, okPut, okPutBlks, okPutCells, q_isP, q_isAg, q_isBox, q_isArr, q_int, q_bool, q_str, q_sl, q_nils, e_exit, e_ret, e_nrm, e_ret_exit, e_exit_ret, e_nrm_exit, e_nrm_ret, e_exit_nrm, e_ret_nrm, Nat.zero_add, Nat.reduceAdd, noslR, noslP, noslB, noslA, List.all_cons, List.all_nil]
    rw [w64 (n := (pre.length : Int) + 1) (by simp [maxLen] at h; omega), len_snoc pre b, app_cons, e]
theorem c_few (l : List (List UInt8)) (h : l.length ≤ maxLen) : ∃ v : Bool, denC E 14 [AV.sl 1 (strsK l)] [] = some ([RV.p (PV.bool v)], []) := by
  obtain ⟨m, e⟩ := l_few l [] l.length (by simpa using h)
  simp only [List.nil_append, List.length_nil] at e
  refine ⟨leB m 400, ?_⟩
  rw [denC_eq, r14, strsK_length, show (AV.int IntKind.i64 0) = AV.int .i64 ((0 : Nat) : Int) from rfl, e]
  simp only [bnd_some, ctl_true, ctl_false, ctl_and, ctl_or', ctl_or2, x_toPV, x_toCs, x_toCs2, x_toEs, x_bEs, x_bCs, x_aPV, x_aCs, x_int, x_bool, x_str, x_es, x_esn, nth_0, nth_1, nth_2, nth_3, nth_4, nth_5, nth_6, nth_7, nth_8, nth_9, y_nil, y_int, y_bool, y_str, y_sl, y_nils, y_agg, y_ownp, y_own, z_nil, z_int, z_bool, z_str, z_sl, z_nils, b_nil, b_arr, b_box1, b_box2, b_box3, b_box4, List.map_cons, List.map_nil, Bool.and_self, Bool.and_true, Bool.true_and, Bool.not_true, Bool.not_false, Bool.or_false, Bool.false_or, cond_true, cond_false, okPack, okPut, okPutBlks, okPutCells, q_isP, q_isAg, q_isBox, q_isArr, q_int, q_bool, q_str, q_sl, q_nils, e_exit, e_ret, e_nrm, e_ret_exit, e_exit_ret, e_nrm_exit, e_nrm_ret, e_exit_nrm, e_ret_nrm, Nat.zero_add, Nat.reduceAdd, noslR, noslP, noslB, noslA, List.all_cons, List.all_nil]

theorem long_no {l : List (List UInt8)} (h : ¬ l.length ≤ 100000) : validB l = false := by
  unfold validB
  have : leB (l.length : Int) 16 = false := decide_eq_false (by omega)
  rw [this]; simp
theorem c_Valid2 (l : List (List UInt8)) : denC E 18 [AV.agg [PV.sl 1 (strsK l)]] [] = some ([RV.p (PV.bool (validB l))], []) := by
  by_cases h : l.length ≤ 100000
  · exact c_Valid l h
  · rw [denC_eq, r18, strsK_length, ctl_and, long_no h]
    have : leB (l.length : Int) 16 = false := decide_eq_false (by omega)
    rw [this, Bool.and_false]
    simp only [bnd_some, ctl_true, ctl_false, ctl_and, ctl_or', ctl_or2, x_toPV, x_toCs, x_toCs2, x_toEs, x_bEs, x_bCs, x_aPV, x_aCs, x_int, x_bool, x_str, x_es, x_esn, nth_0, nth_1, nth_2, nth_3, nth_4, nth_5, nth_6, nth_7, nth_8, nth_9, y_nil, y_int, y_bool, y_str, y_sl, y_nils, y_agg, y_ownp, y_own, z_nil, z_int, z_bool, z_str, z_sl, z_nils, b_nil, b_arr, b_box1, b_box2, b_box3, b_box4, List.map_cons, List.map_nil, Bool.and_self, Bool.and_true, Bool.true_and, Bool.not_true, Bool.not_false, Bool.or_false, Bool.false_or, cond_true, cond_false, okPack, okPut, okPutBlks, okPutCells, q_isP, q_isAg, q_isBox, q_isArr, q_int, q_bool, q_str, q_sl, q_nils, e_exit, e_ret, e_nrm, e_ret_exit, e_exit_ret, e_nrm_exit, e_nrm_ret, e_exit_nrm, e_ret_nrm, Nat.zero_add, Nat.reduceAdd, noslR, noslP, noslB, noslA, List.all_cons, List.all_nil]
theorem c_rValid2 (l : List (List UInt8)) : denC E 19 [AV.agg [PV.sl 1 (strsK l)]] [] = some ([RV.p (PV.bool (validB l))], []) := by
  by_cases h : l.length ≤ 100000
  · exact c_rValid l h
  · rw [denC_eq, r19, strsK_length, ctl_or', long_no h]
    have : ltB 16 (l.length : Int) = true := decide_eq_true (by omega)
    rw [this, Bool.or_true]
    simp only [bnd_some, ctl_true, ctl_false, ctl_and, ctl_or', ctl_or2, x_toPV, x_toCs, x_toCs2, x_toEs, x_bEs, x_bCs, x_aPV, x_aCs, x_int, x_bool, x_str, x_es, x_esn, nth_0, nth_1, nth_2, nth_3, nth_4, nth_5, nth_6, nth_7, nth_8, nth_9, y_nil, y_int, y_bool, y_str, y_sl, y_nils, y_agg, y_ownp, y_own, z_nil, z_int, z_bool, z_str, z_sl, z_nils, b_nil, b_arr, b_box1, b_box2, b_box3, b_box4, List.map_cons, List.map_nil, Bool.and_self, Bool.and_true, Bool.true_and, Bool.not_true, Bool.not_false, Bool.or_false, Bool.false_or, cond_true, cond_false, okPack, okPut, okPutBlks, okPutCells, q_isP, q_isAg, q_isBox, q_isArr, q_int, q_bool, q_str, q_sl, q_nils, e_exit, e_ret, e_nrm, e_ret_exit, e_exit_ret, e_nrm_exit, e_nrm_ret, e_exit_nrm, e_ret_nrm, Nat.zero_add, Nat.reduceAdd, noslR, noslP, noslB, noslA, List.all_cons, List.all_nil]
theorem c_Format2 (l : List (List UInt8)) : denC E 16 [AV.agg [PV.sl 1 (strsK l)]] [] = some ([RV.p (PV.sl 1 (byteEs (frm l).1)), RV.p (PV.int .i64 (frm l).2)], []) := by
  by_cases h : l.length ≤ 100000
  · exact c_Format l h
  · rw [denC_eq, r16, c_Valid2 l]
    unfold frm
    rw [long_no h]
    simp [ctl, byteEs, bnd_some, ctl_true, ctl_false, ctl_and, ctl_or', ctl_or2, x_toPV, x_toCs, x_toCs2, x_toEs, x_bEs, x_bCs, x_aPV, x_aCs, x_int, x_bool, x_str, x_es, x_esn, nth_0, nth_1, nth_2, nth_3, nth_4, nth_5, nth_6, nth_7, nth_8, nth_9, y_nil, y_int, y_bool, y_str, y_sl, y_nils, y_agg, y_ownp, y_own, z_nil, z_int, z_bool, z_str, z_sl, z_nils, b_nil, b_arr, b_box1, b_box2, b_box3, b_box4, List.map_cons, List.map_nil, Bool.and_self, Bool.and_true, Bool.true_and, Bool.not_true, Bool.not_false, Bool.or_false, Bool.false_or, cond_true, cond_false, okPack, okPut, okPutBlks, okPutCells, q_isP, q_isAg, q_isBox, q_isArr, q_int, q_bool, q_str, q_sl, q_nils, e_exit, e_ret, e_nrm, e_ret_exit, e_exit_ret, e_nrm_exit, e_nrm_ret, e_exit_nrm, e_ret_nrm, Nat.zero_add, Nat.reduceAdd, noslR, noslP, noslB, noslA, List.all_cons, List.all_nil]
theorem c_rFormat2 (l : List (List UInt8)) : denC E 17 [AV.agg [PV.sl 1 (strsK l)]] [] = some ([RV.p (PV.sl 1 (byteEs (frm l).1)), RV.p (PV.int .i64 (frm l).2)], []) := by
  by_cases h : l.length ≤ 100000
  · exact c_rFormat l h
  · rw [denC_eq, r17, c_rValid2 l]
    unfold frm
    rw [long_no h]
    simp [ctl, byteEs, bnd_some, ctl_true, ctl_false, ctl_and, ctl_or', ctl_or2, x_toPV, x_toCs, x_toCs2, x_toEs, x_bEs, x_bCs, x_aPV, x_aCs, x_int, x_bool, x_str, x_es, x_esn, nth_0, nth_1, nth_2, nth_3, nth_4, nth_5, nth_6, nth_7, nth_8, nth_9, y_nil, y_int, y_bool, y_str, y_sl, y_nils, y_agg, y_ownp, y_own, z_nil, z_int, z_bool, z_str, z_sl, z_nils, b_nil, b_arr, b_box1, b_box2, b_box3, b_box4, List.map_cons, List.map_nil, Bool.and_self, Bool.and_true, Bool.true_and, Bool.not_true, Bool.not_false, Bool.or_false, Bool.false_or, cond_true, cond_false, okPack, okPut, okPutBlks, okPutCells, q_isP, q_isAg, q_isBox, q_isArr, q_int, q_bool, q_str, q_sl, q_nils, e_exit, e_ret, e_nrm, e_ret_exit, e_exit_ret, e_nrm_exit, e_nrm_ret, e_exit_nrm, e_ret_nrm, Nat.zero_add, Nat.reduceAdd, noslR, noslP, noslB, noslA, List.all_cons, List.all_nil]
theorem frm_len (l : List (List UInt8)) : (frm l).1.length ≤ 200 := by
  unfold frm
  split
  · split
    · simp
    · simp; omega
  · simp

theorem prs_sh (b : List UInt8) : okCs [Sh.sl 1] [(prs b).1] = true := by
  unfold prs
  split
  · rfl
  · split
    · rfl
    · split
      · split <;> rfl
      · rfl
theorem prs_es (b : List UInt8) (hb : b.length ≤ 1000000) : ∃ l : List (List UInt8), (prs b).1.toEs = strsK l ∧ l.length ≤ 1000000000 := by
  unfold prs
  split
  · exact ⟨[], rfl, by decide⟩
  · split
    · exact ⟨[], rfl, by decide⟩
    · rename_i body x y h
      have hs := spl_count body
      have hbl : body.length ≤ 1000000 := by
        unfold splitS at h
        split at h
        · cases h; simp; omega
        · cases h
      split
      · split
        · exact ⟨spl 44 body, rfl, by omega⟩
        · exact ⟨[], rfl, by decide⟩
      · exact ⟨[], rfl, by decide⟩

theorem nth_bytes {s : List UInt8} {i : Nat} (h : i < s.length) : nth [] (byteEs s) i = [PV.int .u8 ((s.getD i 0).toNat : Int)] := by
  rw [nth_eq]
  simp [byteEs, List.getD, h]
theorem setEs_bytes {s : List UInt8} {i : Nat} (h : i < s.length) (b : UInt8) : setEs (byteEs s) i 0 [PV.int .u8 (b.toNat : Int)] = byteEs (s.set i b) := by
  unfold setEs
  rw [upd_eq, nth_bytes h]
  have : lay [PV.int .u8 ((s.getD i 0).toNat : Int)] 0 [PV.int .u8 (b.toNat : Int)] = [PV.int .u8 (b.toNat : Int)] := by simp [lay, lay.go]
  rw [this]
  simp [byteEs, List.map_set]

/-! ### The texts that are read -/
theorem s4_2 (b2 : List (List PV)) (body : List UInt8) (x0 x1 x2 : List (List PV)) (j : Int) (z0 z1 z2 z3 : List (List PV)) (i : Int) (B : Blk) (b00 : List (List PV)) (b01 : Int) (hB : B = Blk.box [AV.sl 1 b00, AV.int IntKind.i64 b01]) (z : List UInt8) (hz : z.length ≤ 1000)
    (hi : 0 ≤ i ∧ i < 4) (hg : ∀ K : List PV → Option (Ex × Pack), getE [[PV.sl 1 z0], [PV.sl 1 z1], [PV.sl 1 z2], [PV.sl 1 z3]] i K = K [PV.sl 1 (byteEs z)]) :
    lp E (denC E) 4 0 [] 2 { vals := [AV.sl 1 b2, AV.str body, AV.agg [PV.sl 1 x0, PV.sl 1 x1, PV.sl 1 x2], AV.int .i64 j, AV.agg [PV.sl 1 z0, PV.sl 1 z1, PV.sl 1 z2, PV.sl 1 z3], AV.int .i64 i], blks := [B] } =
    lp E (denC E) 4 0 [] 2 { vals := [AV.sl 1 b2, AV.str body, AV.agg [PV.sl 1 x0, PV.sl 1 x1, PV.sl 1 x2], AV.int .i64 j, AV.agg [PV.sl 1 z0, PV.sl 1 z1, PV.sl 1 z2, PV.sl 1 z3], AV.int .i64 (i + 1)], blks := [B] } := by
  subst hB
  obtain ⟨l, hl, hn⟩ := prs_es z (by omega)
  have hs := spl_count z
  rw [r4_2, ctl_dec, if_pos (by omega), hg]
  simp only [bnd_some, ctl_true, ctl_false, ctl_and, ctl_or', ctl_or2, x_toPV, x_toCs, x_toCs2, x_toEs, x_bEs, x_bCs, x_aPV, x_aCs, x_int, x_bool, x_str, x_es, x_esn, nth_0, nth_1, nth_2, nth_3, nth_4, nth_5, nth_6, nth_7, nth_8, nth_9, y_nil, y_int, y_bool, y_str, y_sl, y_nils, y_agg, y_ownp, y_own, z_nil, z_int, z_bool, z_str, z_sl, z_nils, b_nil, b_arr, b_box1, b_box2, b_box3, b_box4, List.map_cons, List.map_nil, Bool.and_self, Bool.and_true, Bool.true_and, Bool.not_true, Bool.not_false, Bool.or_false, Bool.false_or, cond_true, cond_false, okPack, okPut, okPutBlks, okPutCells, q_isP, q_isAg, q_isBox, q_isArr, q_int, q_bool, q_str, q_sl, q_nils, e_exit, e_ret, e_nrm, e_ret_exit, e_exit_ret, e_nrm_exit, e_nrm_ret, e_exit_nrm, e_ret_nrm, Nat.zero_add, Nat.reduceAdd, noslR, noslP, noslB, noslA, List.all_cons, List.all_nil]
  rw [c_Parse z (by omega), c_rParse z (by omega)]
  simp only [bnd_some, ctl_true, ctl_false, ctl_and, ctl_or', ctl_or2, x_toPV, x_toCs, x_toCs2, x_toEs, x_bEs, x_bCs, x_aPV, x_aCs, x_int, x_bool, x_str, x_es, x_esn, nth_0, nth_1, nth_2, nth_3, nth_4, nth_5, nth_6, nth_7, nth_8, nth_9, y_nil, y_int, y_bool, y_str, y_sl, y_nils, y_agg, y_ownp, y_own, z_nil, z_int, z_bool, z_str, z_sl, z_nils, b_nil, b_arr, b_box1, b_box2, b_box3, b_box4, List.map_cons, List.map_nil, Bool.and_self, Bool.and_true, Bool.true_and, Bool.not_true, Bool.not_false, Bool.or_false, Bool.false_or, cond_true, cond_false, okPack, okPut, okPutBlks, okPutCells, q_isP, q_isAg, q_isBox, q_isArr, q_int, q_bool, q_str, q_sl, q_nils, e_exit, e_ret, e_nrm, e_ret_exit, e_exit_ret, e_nrm_exit, e_nrm_ret, e_exit_nrm, e_ret_nrm, Nat.zero_add, Nat.reduceAdd, noslR, noslP, noslB, noslA, List.all_cons, List.all_nil]
  rw [prs_sh]
  simp only [bnd_some, ctl_true, ctl_false, ctl_and, ctl_or', ctl_or2, x_toPV, x_toCs, x_toCs2, x_toEs, x_bEs, x_bCs, x_aPV, x_aCs, x_int, x_bool, x_str, x_es, x_esn, nth_0, nth_1, nth_2, nth_3, nth_4, nth_5, nth_6, nth_7, nth_8, nth_9, y_nil, y_int, y_bool, y_str, y_sl, y_nils, y_agg, y_ownp, y_own, z_nil, z_int, z_bool, z_str, z_sl, z_nils, b_nil, b_arr, b_box1, b_box2, b_box3, b_box4, List.map_cons, List.map_nil, Bool.and_self, Bool.and_true, Bool.true_and, Bool.not_true, Bool.not_false, Bool.or_false, Bool.false_or, cond_true, cond_false, okPack, okPut, okPutBlks, okPutCells, q_isP, q_isAg, q_isBox, q_isArr, q_int, q_bool, q_str, q_sl, q_nils, e_exit, e_ret, e_nrm, e_ret_exit, e_exit_ret, e_nrm_exit, e_nrm_ret, e_exit_nrm, e_ret_nrm, Nat.zero_add, Nat.reduceAdd, noslR, noslP, noslB, noslA, List.all_cons, List.all_nil]
  rw [hl, c_Same l l hn, c_Sum z (by omega), c_rSum z (by omega), bytesOk_byteEs, toBytes_byteEs, c_Fields z (by omega), c_rFields z (by omega)]
  simp only [beq_self_eq_true, bne_self_eq_false, bnd_some, ctl_true, ctl_false, ctl_and, ctl_or', ctl_or2, x_toPV, x_toCs, x_toCs2, x_toEs, x_bEs, x_bCs, x_aPV, x_aCs, x_int, x_bool, x_str, x_es, x_esn, nth_0, nth_1, nth_2, nth_3, nth_4, nth_5, nth_6, nth_7, nth_8, nth_9, y_nil, y_int, y_bool, y_str, y_sl, y_nils, y_agg, y_ownp, y_own, z_nil, z_int, z_bool, z_str, z_sl, z_nils, b_nil, b_arr, b_box1, b_box2, b_box3, b_box4, List.map_cons, List.map_nil, Bool.and_self, Bool.and_true, Bool.true_and, Bool.not_true, Bool.not_false, Bool.or_false, Bool.false_or, cond_true, cond_false, okPack, okPut, okPutBlks, okPutCells, q_isP, q_isAg, q_isBox, q_isArr, q_int, q_bool, q_str, q_sl, q_nils, e_exit, e_ret, e_nrm, e_ret_exit, e_exit_ret, e_nrm_exit, e_nrm_ret, e_exit_nrm, e_ret_nrm, Nat.zero_add, Nat.reduceAdd, noslR, noslP, noslB, noslA, List.all_cons, List.all_nil]
  rw [c_Texts _ _ (by omega)]
  simp only [beq_self_eq_true, bne_self_eq_false, bnd_some, ctl_true, ctl_false, ctl_and, ctl_or', ctl_or2, x_toPV, x_toCs, x_toCs2, x_toEs, x_bEs, x_bCs, x_aPV, x_aCs, x_int, x_bool, x_str, x_es, x_esn, nth_0, nth_1, nth_2, nth_3, nth_4, nth_5, nth_6, nth_7, nth_8, nth_9, y_nil, y_int, y_bool, y_str, y_sl, y_nils, y_agg, y_ownp, y_own, z_nil, z_int, z_bool, z_str, z_sl, z_nils, b_nil, b_arr, b_box1, b_box2, b_box3, b_box4, List.map_cons, List.map_nil, Bool.and_self, Bool.and_true, Bool.true_and, Bool.not_true, Bool.not_false, Bool.or_false, Bool.false_or, cond_true, cond_false, okPack, okPut, okPutBlks, okPutCells, q_isP, q_isAg, q_isBox, q_isArr, q_int, q_bool, q_str, q_sl, q_nils, e_exit, e_ret, e_nrm, e_ret_exit, e_exit_ret, e_nrm_exit, e_nrm_ret, e_exit_nrm, e_ret_nrm, Nat.zero_add, Nat.reduceAdd, noslR, noslP, noslB, noslA, List.all_cons, List.all_nil]
  rw [w64 (by omega)]

theorem l4_2 (b2 : List (List PV)) (body : List UInt8) (x0 x1 x2 : List (List PV)) (j : Int) (z0 z1 z2 z3 : List UInt8) (h0 : z0.length ≤ 1000) (h1 : z1.length ≤ 1000) (h2 : z2.length ≤ 1000) (h3 : z3.length ≤ 1000) (b00 : List (List PV)) (b01 : Int) :
    lp E (denC E) 4 0 [] 2 { vals := [AV.sl 1 b2, AV.str body, AV.agg [PV.sl 1 x0, PV.sl 1 x1, PV.sl 1 x2], AV.int .i64 j, AV.agg [PV.sl 1 (byteEs z0), PV.sl 1 (byteEs z1), PV.sl 1 (byteEs z2), PV.sl 1 (byteEs z3)], AV.int .i64 0], blks := [Blk.box [AV.sl 1 b00, AV.int IntKind.i64 b01]] } =
    some (Ex.exit 2, { vals := [AV.sl 1 b2, AV.str body, AV.agg [PV.sl 1 x0, PV.sl 1 x1, PV.sl 1 x2], AV.int .i64 j], blks := [Blk.box [AV.sl 1 b00, AV.int IntKind.i64 b01]] }) := by
  rw [s4_2 _ _ _ _ _ _ _ _ _ _ 0 _ _ _ rfl z0 h0 (by omega) (fun K => rfl), s4_2 _ _ _ _ _ _ _ _ _ _ (0 + 1) _ _ _ rfl z1 h1 (by omega) (fun K => rfl),
    s4_2 _ _ _ _ _ _ _ _ _ _ (0 + 1 + 1) _ _ _ rfl z2 h2 (by omega) (fun K => rfl), s4_2 _ _ _ _ _ _ _ _ _ _ (0 + 1 + 1 + 1) _ _ _ rfl z3 h3 (by omega) (fun K => rfl),
    r4_2]
  rfl

theorem bent_byte : ∀ x ∈ ([36, 42, 44, 97, 66, 48, 10, 13] : List Int), IntKind.u8.wrap x = (x.toNat.toUInt8.toNat : Int) := by decide +kernel

/-! ### The sentences -/
theorem s4_0 {L : List Int} {k : Nat} (hL : L.length ≤ 600) (hk : k ≤ 600) (b : List UInt8) (hb : b.length ≤ 300) (body : List UInt8) (x0 x1 x2 : List (List PV)) (j : Int) (hj : 0 ≤ j ∧ j < 3) (y : List (List UInt8))
    (hg : ∀ K : List PV → Option (Ex × Pack), getE [[PV.sl 1 x0], [PV.sl 1 x1], [PV.sl 1 x2]] j K = K [PV.sl 1 (strsK y)]) : ∃ k' : Nat, k' ≤ 600 ∧
    lp E (denC E) 4 0 [] 0 { vals := [AV.sl 1 (byteEs b), AV.str body, AV.agg [PV.sl 1 x0, PV.sl 1 x1, PV.sl 1 x2], AV.int .i64 j], blks := [src L k] } =
    lp E (denC E) 4 0 [] 0 { vals := [AV.sl 1 (byteEs b), AV.str body, AV.agg [PV.sl 1 x0, PV.sl 1 x1, PV.sl 1 x2], AV.int .i64 (j + 1)], blks := [src L k'] } := by
  have hf := frm_len y
  have hw : ([[PV.int IntKind.i64 36], [PV.int IntKind.i64 42], [PV.int IntKind.i64 44], [PV.int IntKind.i64 97], [PV.int IntKind.i64 66], [PV.int IntKind.i64 48], [PV.int IntKind.i64 10], [PV.int IntKind.i64 13]] : List (List PV)) = intsK .i64 [36, 42, 44, 97, 66, 48, 10, 13] := rfl
  have e0 : leN ((frm y).1.length * 1) 140737488355328 = true := decide_eq_true (by omega)
  by_cases h : (frm y).1.length = 0
  · have hn := vNoise_len L k (m := 12) (by omega)
    refine ⟨atNoise L k 12, atNoise_le hL hk, ?_⟩
    rw [r4_0, ctl_dec, if_pos (by omega), hg]
    simp only [bnd_some, ctl_true, ctl_false, ctl_and, ctl_or', ctl_or2, x_toPV, x_toCs, x_toCs2, x_toEs, x_bEs, x_bCs, x_aPV, x_aCs, x_int, x_bool, x_str, x_es, x_esn, nth_0, nth_1, nth_2, nth_3, nth_4, nth_5, nth_6, nth_7, nth_8, nth_9, y_nil, y_int, y_bool, y_str, y_sl, y_nils, y_agg, y_ownp, y_own, z_nil, z_int, z_bool, z_str, z_sl, z_nils, b_nil, b_arr, b_box1, b_box2, b_box3, b_box4, List.map_cons, List.map_nil, Bool.and_self, Bool.and_true, Bool.true_and, Bool.not_true, Bool.not_false, Bool.or_false, Bool.false_or, cond_true, cond_false, okPack, okPut, okPutBlks, okPutCells, q_isP, q_isAg, q_isBox, q_isArr, q_int, q_bool, q_str, q_sl, q_nils, e_exit, e_ret, e_nrm, e_ret_exit, e_exit_ret, e_nrm_exit, e_nrm_ret, e_exit_nrm, e_ret_nrm, Nat.zero_add, Nat.reduceAdd, noslR, noslP, noslB, noslA, List.all_cons, List.all_nil]
    rw [c_Format2 y, c_rFormat2 y, c_Valid2 y, c_rValid2 y]
    simp only [beq_self_eq_true, bne_self_eq_false, bnd_some, ctl_true, ctl_false, ctl_and, ctl_or', ctl_or2, x_toPV, x_toCs, x_toCs2, x_toEs, x_bEs, x_bCs, x_aPV, x_aCs, x_int, x_bool, x_str, x_es, x_esn, nth_0, nth_1, nth_2, nth_3, nth_4, nth_5, nth_6, nth_7, nth_8, nth_9, y_nil, y_int, y_bool, y_str, y_sl, y_nils, y_agg, y_ownp, y_own, z_nil, z_int, z_bool, z_str, z_sl, z_nils, b_nil, b_arr, b_box1, b_box2, b_box3, b_box4, List.map_cons, List.map_nil, Bool.and_self, Bool.and_true, Bool.true_and, Bool.not_true, Bool.not_false, Bool.or_false, Bool.false_or, cond_true, cond_false, okPack, okPut, okPutBlks, okPutCells, q_isP, q_isAg, q_isBox, q_isArr, q_int, q_bool, q_str, q_sl, q_nils, e_exit, e_ret, e_nrm, e_ret_exit, e_exit_ret, e_nrm_exit, e_nrm_ret, e_exit_nrm, e_ret_nrm, Nat.zero_add, Nat.reduceAdd, noslR, noslP, noslB, noslA, List.all_cons, List.all_nil]
    have e1 : ltB 0 ((frm y).1.length : Int) = false := decide_eq_false (by omega)
    rw [bytesOk_byteEs, byteEs_length, e0, e1, c_Noise hL hk (by omega)]
    simp only [bnd_some, ctl_true, ctl_false, ctl_and, ctl_or', ctl_or2, x_toPV, x_toCs, x_toCs2, x_toEs, x_bEs, x_bCs, x_aPV, x_aCs, x_int, x_bool, x_str, x_es, x_esn, nth_0, nth_1, nth_2, nth_3, nth_4, nth_5, nth_6, nth_7, nth_8, nth_9, y_nil, y_int, y_bool, y_str, y_sl, y_nils, y_agg, y_ownp, y_own, z_nil, z_int, z_bool, z_str, z_sl, z_nils, b_nil, b_arr, b_box1, b_box2, b_box3, b_box4, List.map_cons, List.map_nil, Bool.and_self, Bool.and_true, Bool.true_and, Bool.not_true, Bool.not_false, Bool.or_false, Bool.false_or, cond_true, cond_false, okPack, okPut, okPutBlks, okPutCells, q_isP, q_isAg, q_isBox, q_isArr, q_int, q_bool, q_str, q_sl, q_nils, e_exit, e_ret, e_nrm, e_ret_exit, e_exit_ret, e_nrm_exit, e_nrm_ret, e_exit_nrm, e_ret_nrm, Nat.zero_add, Nat.reduceAdd, noslR, noslP, noslB, noslA, List.all_cons, List.all_nil]
    rw [l4_2 _ _ _ _ _ _ _ _ _ _ (by omega) (by omega) (by omega) (by omega)]
    simp only [bnd_some, ctl_true, ctl_false, ctl_and, ctl_or', ctl_or2, x_toPV, x_toCs, x_toCs2, x_toEs, x_bEs, x_bCs, x_aPV, x_aCs, x_int, x_bool, x_str, x_es, x_esn, nth_0, nth_1, nth_2, nth_3, nth_4, nth_5, nth_6, nth_7, nth_8, nth_9, y_nil, y_int, y_bool, y_str, y_sl, y_nils, y_agg, y_ownp, y_own, z_nil, z_int, z_bool, z_str, z_sl, z_nils, b_nil, b_arr, b_box1, b_box2, b_box3, b_box4, List.map_cons, List.map_nil, Bool.and_self, Bool.and_true, Bool.true_and, Bool.not_true, Bool.not_false, Bool.or_false, Bool.false_or, cond_true, cond_false, okPack, okPut, okPutBlks, okPutCells, q_isP, q_isAg, q_isBox, q_isArr, q_int, q_bool, q_str, q_sl, q_nils, e_exit, e_ret, e_nrm, e_ret_exit, e_exit_ret, e_nrm_exit, e_nrm_ret, e_exit_nrm, e_ret_nrm, Nat.zero_add, Nat.reduceAdd, noslR, noslP, noslB, noslA, List.all_cons, List.all_nil]
    rw [w64 (by omega)]
  · have hv := vN_bounds (L := L) (k := k) (n := ((frm y).1.length : Int)) (by omega)
    have hk1 := at'_le hL hk
    have hk2 := at'_le hL hk1
    have hn := vNoise_len L (at' L (at' L k)) (m := 12) (by omega)
    refine ⟨atNoise L (at' L (at' L k)) 12, atNoise_le hL hk2, ?_⟩
    rw [r4_0, ctl_dec, if_pos (by omega), hg]
    simp only [bnd_some, ctl_true, ctl_false, ctl_and, ctl_or', ctl_or2, x_toPV, x_toCs, x_toCs2, x_toEs, x_bEs, x_bCs, x_aPV, x_aCs, x_int, x_bool, x_str, x_es, x_esn, nth_0, nth_1, nth_2, nth_3, nth_4, nth_5, nth_6, nth_7, nth_8, nth_9, y_nil, y_int, y_bool, y_str, y_sl, y_nils, y_agg, y_ownp, y_own, z_nil, z_int, z_bool, z_str, z_sl, z_nils, b_nil, b_arr, b_box1, b_box2, b_box3, b_box4, List.map_cons, List.map_nil, Bool.and_self, Bool.and_true, Bool.true_and, Bool.not_true, Bool.not_false, Bool.or_false, Bool.false_or, cond_true, cond_false, okPack, okPut, okPutBlks, okPutCells, q_isP, q_isAg, q_isBox, q_isArr, q_int, q_bool, q_str, q_sl, q_nils, e_exit, e_ret, e_nrm, e_ret_exit, e_exit_ret, e_nrm_exit, e_nrm_ret, e_exit_nrm, e_ret_nrm, Nat.zero_add, Nat.reduceAdd, noslR, noslP, noslB, noslA, List.all_cons, List.all_nil]
    rw [c_Format2 y, c_rFormat2 y, c_Valid2 y, c_rValid2 y]
    simp only [beq_self_eq_true, bne_self_eq_false, bnd_some, ctl_true, ctl_false, ctl_and, ctl_or', ctl_or2, x_toPV, x_toCs, x_toCs2, x_toEs, x_bEs, x_bCs, x_aPV, x_aCs, x_int, x_bool, x_str, x_es, x_esn, nth_0, nth_1, nth_2, nth_3, nth_4, nth_5, nth_6, nth_7, nth_8, nth_9, y_nil, y_int, y_bool, y_str, y_sl, y_nils, y_agg, y_ownp, y_own, z_nil, z_int, z_bool, z_str, z_sl, z_nils, b_nil, b_arr, b_box1, b_box2, b_box3, b_box4, List.map_cons, List.map_nil, Bool.and_self, Bool.and_true, Bool.true_and, Bool.not_true, Bool.not_false, Bool.or_false, Bool.false_or, cond_true, cond_false, okPack, okPut, okPutBlks, okPutCells, q_isP, q_isAg, q_isBox, q_isArr, q_int, q_bool, q_str, q_sl, q_nils, e_exit, e_ret, e_nrm, e_ret_exit, e_exit_ret, e_nrm_exit, e_nrm_ret, e_exit_nrm, e_ret_nrm, Nat.zero_add, Nat.reduceAdd, noslR, noslP, noslB, noslA, List.all_cons, List.all_nil]
    have e1 : ltB 0 ((frm y).1.length : Int) = true := decide_eq_true (by omega)
    rw [bytesOk_byteEs, byteEs_length, e0, e1, c_N hL hk _ (by omega)]
    simp only [bnd_some, ctl_true, ctl_false, ctl_and, ctl_or', ctl_or2, x_toPV, x_toCs, x_toCs2, x_toEs, x_bEs, x_bCs, x_aPV, x_aCs, x_int, x_bool, x_str, x_es, x_esn, nth_0, nth_1, nth_2, nth_3, nth_4, nth_5, nth_6, nth_7, nth_8, nth_9, y_nil, y_int, y_bool, y_str, y_sl, y_nils, y_agg, y_ownp, y_own, z_nil, z_int, z_bool, z_str, z_sl, z_nils, b_nil, b_arr, b_box1, b_box2, b_box3, b_box4, List.map_cons, List.map_nil, Bool.and_self, Bool.and_true, Bool.true_and, Bool.not_true, Bool.not_false, Bool.or_false, Bool.false_or, cond_true, cond_false, okPack, okPut, okPutBlks, okPutCells, q_isP, q_isAg, q_isBox, q_isArr, q_int, q_bool, q_str, q_sl, q_nils, e_exit, e_ret, e_nrm, e_ret_exit, e_exit_ret, e_nrm_exit, e_nrm_ret, e_exit_nrm, e_ret_nrm, Nat.zero_add, Nat.reduceAdd, noslR, noslP, noslB, noslA, List.all_cons, List.all_nil]
    rw [hw, c_Pick hL hk1 (by decide)]
    simp only [bnd_some, ctl_true, ctl_false, ctl_and, ctl_or', ctl_or2, x_toPV, x_toCs, x_toCs2, x_toEs, x_bEs, x_bCs, x_aPV, x_aCs, x_int, x_bool, x_str, x_es, x_esn, nth_0, nth_1, nth_2, nth_3, nth_4, nth_5, nth_6, nth_7, nth_8, nth_9, y_nil, y_int, y_bool, y_str, y_sl, y_nils, y_agg, y_ownp, y_own, z_nil, z_int, z_bool, z_str, z_sl, z_nils, b_nil, b_arr, b_box1, b_box2, b_box3, b_box4, List.map_cons, List.map_nil, Bool.and_self, Bool.and_true, Bool.true_and, Bool.not_true, Bool.not_false, Bool.or_false, Bool.false_or, cond_true, cond_false, okPack, okPut, okPutBlks, okPutCells, q_isP, q_isAg, q_isBox, q_isArr, q_int, q_bool, q_str, q_sl, q_nils, e_exit, e_ret, e_nrm, e_ret_exit, e_exit_ret, e_nrm_exit, e_nrm_ret, e_exit_nrm, e_ret_nrm, Nat.zero_add, Nat.reduceAdd, noslR, noslP, noslB, noslA, List.all_cons, List.all_nil]
    rw [in_r hv, c_Noise hL hk2 (by omega)]
    simp only [bnd_some, ctl_true, ctl_false, ctl_and, ctl_or', ctl_or2, x_toPV, x_toCs, x_toCs2, x_toEs, x_bEs, x_bCs, x_aPV, x_aCs, x_int, x_bool, x_str, x_es, x_esn, nth_0, nth_1, nth_2, nth_3, nth_4, nth_5, nth_6, nth_7, nth_8, nth_9, y_nil, y_int, y_bool, y_str, y_sl, y_nils, y_agg, y_ownp, y_own, z_nil, z_int, z_bool, z_str, z_sl, z_nils, b_nil, b_arr, b_box1, b_box2, b_box3, b_box4, List.map_cons, List.map_nil, Bool.and_self, Bool.and_true, Bool.true_and, Bool.not_true, Bool.not_false, Bool.or_false, Bool.false_or, cond_true, cond_false, okPack, okPut, okPutBlks, okPutCells, q_isP, q_isAg, q_isBox, q_isArr, q_int, q_bool, q_str, q_sl, q_nils, e_exit, e_ret, e_nrm, e_ret_exit, e_exit_ret, e_nrm_exit, e_nrm_ret, e_exit_nrm, e_ret_nrm, Nat.zero_add, Nat.reduceAdd, noslR, noslP, noslB, noslA, List.all_cons, List.all_nil]
    have hp := vPick_mem L (at' L k) (l := [36, 42, 44, 97, 66, 48, 10, 13]) (by decide)
    rw [bent_byte _ hp, setEs_bytes (by omega), l4_2 _ _ _ _ _ _ _ _ _ _ (by omega) (by simp; omega) (by omega) (by omega)]
    simp only [bnd_some, ctl_true, ctl_false, ctl_and, ctl_or', ctl_or2, x_toPV, x_toCs, x_toCs2, x_toEs, x_bEs, x_bCs, x_aPV, x_aCs, x_int, x_bool, x_str, x_es, x_esn, nth_0, nth_1, nth_2, nth_3, nth_4, nth_5, nth_6, nth_7, nth_8, nth_9, y_nil, y_int, y_bool, y_str, y_sl, y_nils, y_agg, y_ownp, y_own, z_nil, z_int, z_bool, z_str, z_sl, z_nils, b_nil, b_arr, b_box1, b_box2, b_box3, b_box4, List.map_cons, List.map_nil, Bool.and_self, Bool.and_true, Bool.true_and, Bool.not_true, Bool.not_false, Bool.or_false, Bool.false_or, cond_true, cond_false, okPack, okPut, okPutBlks, okPutCells, q_isP, q_isAg, q_isBox, q_isArr, q_int, q_bool, q_str, q_sl, q_nils, e_exit, e_ret, e_nrm, e_ret_exit, e_exit_ret, e_nrm_exit, e_nrm_ret, e_exit_nrm, e_ret_nrm, Nat.zero_add, Nat.reduceAdd, noslR, noslP, noslB, noslA, List.all_cons, List.all_nil]
    rw [w64 (by omega)]

theorem l4_0 {L : List Int} {k : Nat} (hL : L.length ≤ 600) (hk : k ≤ 600) (b : List UInt8) (hb : b.length ≤ 300) (body : List UInt8) (y0 y1 y2 : List (List UInt8)) :
    lp E (denC E) 4 0 [] 0 { vals := [AV.sl 1 (byteEs b), AV.str body, AV.agg [PV.sl 1 (strsK y0), PV.sl 1 (strsK y1), PV.sl 1 (strsK y2)], AV.int .i64 0], blks := [src L k] } =
    some (Ex.exit 0, { vals := [AV.str body], blks := [] }) := by
  obtain ⟨k1, h1, e1⟩ := s4_0 hL hk b hb body (strsK y0) (strsK y1) (strsK y2) 0 (by omega) y0 (fun K => rfl)
  obtain ⟨k2, h2, e2⟩ := s4_0 hL h1 b hb body (strsK y0) (strsK y1) (strsK y2) (0 + 1) (by omega) y1 (fun K => rfl)
  obtain ⟨k3, h3, e3⟩ := s4_0 hL h2 b hb body (strsK y0) (strsK y1) (strsK y2) (0 + 1 + 1) (by omega) y2 (fun K => rfl)
  rw [e1, e2, e3, r4_0]
  rfl

def odds : List (List UInt8) := [[97, 44, 98], [36], [42], [10], [49, 50, 51, 52, 53, 54, 55, 56, 57, 48, 49, 50, 51, 52, 53, 54, 55, 56, 57, 48, 49], [49, 50, 51, 52, 53, 54, 55, 56, 57, 48, 49, 50, 51, 52, 53, 54, 55, 56, 57, 48], [127]]

theorem d_SentenceExact (t : List Int) (_ : t.length ≤ maxLen) (_ : ∀ n ∈ t, -9223372036854775808 ≤ n ∧ n ≤ 9223372036854775807) (raw : AV) (hraw : WFA Tryd.prog 34 raw)
    (b : List Int) (_ : b.length ≤ maxLen) (vb : ∀ n ∈ b, 0 ≤ n ∧ n ≤ 255) (body : List UInt8) (_ : body.length ≤ maxLen) :
    denC E 4 [AV.sl 1 (intsK .i64 t), raw, AV.sl 1 (intsK .u8 b), AV.str body] [] = some ([RV.p (PV.bool true)], []) := by
  obtain ⟨w, rfl, hw⟩ := in_Sen hraw
  obtain ⟨s, eb, lb⟩ := u8s b vb
  obtain ⟨fw, hfw⟩ := c_few w hw
  rw [eb, denC_eq, r4, hfw, c_sane, byteEs_length]
  simp only [Bool.true_or, Bool.or_true, Bool.false_or, Bool.or_false, bnd_some, ctl_true, ctl_false, ctl_and, ctl_or', ctl_or2, x_toPV, x_toCs, x_toCs2, x_toEs, x_bEs, x_bCs, x_aPV, x_aCs, x_int, x_bool, x_str, x_es, x_esn, nth_0, nth_1, nth_2, nth_3, nth_4, nth_5, nth_6, nth_7, nth_8, nth_9, y_nil, y_int, y_bool, y_str, y_sl, y_nils, y_agg, y_ownp, y_own, z_nil, z_int, z_bool, z_str, z_sl, z_nils, b_nil, b_arr, b_box1, b_box2, b_box3, b_box4, List.map_cons, List.map_nil, Bool.and_self, Bool.and_true, Bool.true_and, Bool.not_true, Bool.not_false, Bool.or_false, Bool.false_or, cond_true, cond_false, okPack, okPut, okPutBlks, okPutCells, q_isP, q_isAg, q_isBox, q_isArr, q_int, q_bool, q_str, q_sl, q_nils, e_exit, e_ret, e_nrm, e_ret_exit, e_exit_ret, e_nrm_exit, e_nrm_ret, e_exit_nrm, e_ret_nrm, Nat.zero_add, Nat.reduceAdd, noslR, noslP, noslB, noslA, List.all_cons, List.all_nil]
  cases fw with
  | false => simp only [Bool.true_or, Bool.or_true, Bool.false_or, Bool.or_false, bnd_some, ctl_true, ctl_false, ctl_and, ctl_or', ctl_or2, x_toPV, x_toCs, x_toCs2, x_toEs, x_bEs, x_bCs, x_aPV, x_aCs, x_int, x_bool, x_str, x_es, x_esn, nth_0, nth_1, nth_2, nth_3, nth_4, nth_5, nth_6, nth_7, nth_8, nth_9, y_nil, y_int, y_bool, y_str, y_sl, y_nils, y_agg, y_ownp, y_own, z_nil, z_int, z_bool, z_str, z_sl, z_nils, b_nil, b_arr, b_box1, b_box2, b_box3, b_box4, List.map_cons, List.map_nil, Bool.and_self, Bool.and_true, Bool.true_and, Bool.not_true, Bool.not_false, Bool.or_false, Bool.false_or, cond_true, cond_false, okPack, okPut, okPutBlks, okPutCells, q_isP, q_isAg, q_isBox, q_isArr, q_int, q_bool, q_str, q_sl, q_nils, e_exit, e_ret, e_nrm, e_ret_exit, e_exit_ret, e_nrm_exit, e_nrm_ret, e_exit_nrm, e_ret_nrm, Nat.zero_add, Nat.reduceAdd, noslR, noslP, noslB, noslA, List.all_cons, List.all_nil]
  | true =>
    simp only [Bool.true_or, Bool.or_true, Bool.false_or, Bool.or_false, bnd_some, ctl_true, ctl_false, ctl_and, ctl_or', ctl_or2, x_toPV, x_toCs, x_toCs2, x_toEs, x_bEs, x_bCs, x_aPV, x_aCs, x_int, x_bool, x_str, x_es, x_esn, nth_0, nth_1, nth_2, nth_3, nth_4, nth_5, nth_6, nth_7, nth_8, nth_9, y_nil, y_int, y_bool, y_str, y_sl, y_nils, y_agg, y_ownp, y_own, z_nil, z_int, z_bool, z_str, z_sl, z_nils, b_nil, b_arr, b_box1, b_box2, b_box3, b_box4, List.map_cons, List.map_nil, Bool.and_self, Bool.and_true, Bool.true_and, Bool.not_true, Bool.not_false, Bool.or_false, Bool.false_or, cond_true, cond_false, okPack, okPut, okPutBlks, okPutCells, q_isP, q_isAg, q_isBox, q_isArr, q_int, q_bool, q_str, q_sl, q_nils, e_exit, e_ret, e_nrm, e_ret_exit, e_exit_ret, e_nrm_exit, e_nrm_ret, e_exit_nrm, e_ret_nrm, Nat.zero_add, Nat.reduceAdd, noslR, noslP, noslB, noslA, List.all_cons, List.all_nil]
    by_cases h1 : s.length ≤ 300
    · have e1 : ltB 300 (s.length : Int) = false := decide_eq_false (by omega)
      rw [e1]
      simp only [Bool.true_or, Bool.or_true, Bool.false_or, Bool.or_false, bnd_some, ctl_true, ctl_false, ctl_and, ctl_or', ctl_or2, x_toPV, x_toCs, x_toCs2, x_toEs, x_bEs, x_bCs, x_aPV, x_aCs, x_int, x_bool, x_str, x_es, x_esn, nth_0, nth_1, nth_2, nth_3, nth_4, nth_5, nth_6, nth_7, nth_8, nth_9, y_nil, y_int, y_bool, y_str, y_sl, y_nils, y_agg, y_ownp, y_own, z_nil, z_int, z_bool, z_str, z_sl, z_nils, b_nil, b_arr, b_box1, b_box2, b_box3, b_box4, List.map_cons, List.map_nil, Bool.and_self, Bool.and_true, Bool.true_and, Bool.not_true, Bool.not_false, Bool.or_false, Bool.false_or, cond_true, cond_false, okPack, okPut, okPutBlks, okPutCells, q_isP, q_isAg, q_isBox, q_isArr, q_int, q_bool, q_str, q_sl, q_nils, e_exit, e_ret, e_nrm, e_ret_exit, e_exit_ret, e_nrm_exit, e_nrm_ret, e_exit_nrm, e_ret_nrm, Nat.zero_add, Nat.reduceAdd, noslR, noslP, noslB, noslA, List.all_cons, List.all_nil]
      by_cases h2 : body.length ≤ 300
      · have e2 : ltB 300 (body.length : Int) = false := decide_eq_false (by omega)
        rw [e2, c_New]
        simp only [Bool.true_or, Bool.or_true, Bool.false_or, Bool.or_false, bnd_some, ctl_true, ctl_false, ctl_and, ctl_or', ctl_or2, x_toPV, x_toCs, x_toCs2, x_toEs, x_bEs, x_bCs, x_aPV, x_aCs, x_int, x_bool, x_str, x_es, x_esn, nth_0, nth_1, nth_2, nth_3, nth_4, nth_5, nth_6, nth_7, nth_8, nth_9, y_nil, y_int, y_bool, y_str, y_sl, y_nils, y_agg, y_ownp, y_own, z_nil, z_int, z_bool, z_str, z_sl, z_nils, b_nil, b_arr, b_box1, b_box2, b_box3, b_box4, List.map_cons, List.map_nil, Bool.and_self, Bool.and_true, Bool.true_and, Bool.not_true, Bool.not_false, Bool.or_false, Bool.false_or, cond_true, cond_false, okPack, okPut, okPutBlks, okPutCells, q_isP, q_isAg, q_isBox, q_isArr, q_int, q_bool, q_str, q_sl, q_nils, e_exit, e_ret, e_nrm, e_ret_exit, e_exit_ret, e_nrm_exit, e_nrm_ret, e_exit_nrm, e_ret_nrm, Nat.zero_add, Nat.reduceAdd, noslR, noslP, noslB, noslA, List.all_cons, List.all_nil]
        have hL := Lle (t := t)
        have hs := spl_count body
        generalize t.take 600 = L at hL
        have k1 := atFields_le (L := L) (k := 0) hL (by omega)
        have k2 := atFields_le hL k1
        obtain ⟨_, hf, _⟩ := vFields_ok L (atFields L 0)
        rw [src_zero, c_SFields hL (by omega)]
        simp only [Bool.true_or, Bool.or_true, Bool.false_or, Bool.or_false, bnd_some, ctl_true, ctl_false, ctl_and, ctl_or', ctl_or2, x_toPV, x_toCs, x_toCs2, x_toEs, x_bEs, x_bCs, x_aPV, x_aCs, x_int, x_bool, x_str, x_es, x_esn, nth_0, nth_1, nth_2, nth_3, nth_4, nth_5, nth_6, nth_7, nth_8, nth_9, y_nil, y_int, y_bool, y_str, y_sl, y_nils, y_agg, y_ownp, y_own, z_nil, z_int, z_bool, z_str, z_sl, z_nils, b_nil, b_arr, b_box1, b_box2, b_box3, b_box4, List.map_cons, List.map_nil, Bool.and_self, Bool.and_true, Bool.true_and, Bool.not_true, Bool.not_false, Bool.or_false, Bool.false_or, cond_true, cond_false, okPack, okPut, okPutBlks, okPutCells, q_isP, q_isAg, q_isBox, q_isArr, q_int, q_bool, q_str, q_sl, q_nils, e_exit, e_ret, e_nrm, e_ret_exit, e_exit_ret, e_nrm_exit, e_nrm_ret, e_exit_nrm, e_ret_nrm, Nat.zero_add, Nat.reduceAdd, noslR, noslP, noslB, noslA, List.all_cons, List.all_nil]
        rw [c_SFields hL k1]
        simp only [Bool.true_or, Bool.or_true, Bool.false_or, Bool.or_false, bnd_some, ctl_true, ctl_false, ctl_and, ctl_or', ctl_or2, x_toPV, x_toCs, x_toCs2, x_toEs, x_bEs, x_bCs, x_aPV, x_aCs, x_int, x_bool, x_str, x_es, x_esn, nth_0, nth_1, nth_2, nth_3, nth_4, nth_5, nth_6, nth_7, nth_8, nth_9, y_nil, y_int, y_bool, y_str, y_sl, y_nils, y_agg, y_ownp, y_own, z_nil, z_int, z_bool, z_str, z_sl, z_nils, b_nil, b_arr, b_box1, b_box2, b_box3, b_box4, List.map_cons, List.map_nil, Bool.and_self, Bool.and_true, Bool.true_and, Bool.not_true, Bool.not_false, Bool.or_false, Bool.false_or, cond_true, cond_false, okPack, okPut, okPutBlks, okPutCells, q_isP, q_isAg, q_isBox, q_isArr, q_int, q_bool, q_str, q_sl, q_nils, e_exit, e_ret, e_nrm, e_ret_exit, e_exit_ret, e_nrm_exit, e_nrm_ret, e_exit_nrm, e_ret_nrm, Nat.zero_add, Nat.reduceAdd, noslR, noslP, noslB, noslA, List.all_cons, List.all_nil]
        have ho : ([[PV.str [97, 44, 98]], [PV.str [36]], [PV.str [42]], [PV.str [10]], [PV.str [49, 50, 51, 52, 53, 54, 55, 56, 57, 48, 49, 50, 51, 52, 53, 54, 55, 56, 57, 48, 49]], [PV.str [49, 50, 51, 52, 53, 54, 55, 56, 57, 48, 49, 50, 51, 52, 53, 54, 55, 56, 57, 48]], [PV.str [127]]] : List (List PV)) = strsK odds := rfl
        rw [ho, c_SText hL k2 (by decide)]
        simp only [Bool.true_or, Bool.or_true, Bool.false_or, Bool.or_false, bnd_some, ctl_true, ctl_false, ctl_and, ctl_or', ctl_or2, x_toPV, x_toCs, x_toCs2, x_toEs, x_bEs, x_bCs, x_aPV, x_aCs, x_int, x_bool, x_str, x_es, x_esn, nth_0, nth_1, nth_2, nth_3, nth_4, nth_5, nth_6, nth_7, nth_8, nth_9, y_nil, y_int, y_bool, y_str, y_sl, y_nils, y_agg, y_ownp, y_own, z_nil, z_int, z_bool, z_str, z_sl, z_nils, b_nil, b_arr, b_box1, b_box2, b_box3, b_box4, List.map_cons, List.map_nil, Bool.and_self, Bool.and_true, Bool.true_and, Bool.not_true, Bool.not_false, Bool.or_false, Bool.false_or, cond_true, cond_false, okPack, okPut, okPutBlks, okPutCells, q_isP, q_isAg, q_isBox, q_isArr, q_int, q_bool, q_str, q_sl, q_nils, e_exit, e_ret, e_nrm, e_ret_exit, e_exit_ret, e_nrm_exit, e_nrm_ret, e_exit_nrm, e_ret_nrm, Nat.zero_add, Nat.reduceAdd, noslR, noslP, noslB, noslA, List.all_cons, List.all_nil]
        have ea : ∀ (l : List (List UInt8)) (x : List UInt8), strsK l ++ [[PV.str x]] = strsK (l ++ [x]) := fun l x => by simp [strsK]
        rw [strsK_length, ctl_dec, if_pos (by omega), ea, l4_0 hL (at'_le hL k2) s h1]
        simp only [Bool.true_or, Bool.or_true, Bool.false_or, Bool.or_false, bnd_some, ctl_true, ctl_false, ctl_and, ctl_or', ctl_or2, x_toPV, x_toCs, x_toCs2, x_toEs, x_bEs, x_bCs, x_aPV, x_aCs, x_int, x_bool, x_str, x_es, x_esn, nth_0, nth_1, nth_2, nth_3, nth_4, nth_5, nth_6, nth_7, nth_8, nth_9, y_nil, y_int, y_bool, y_str, y_sl, y_nils, y_agg, y_ownp, y_own, z_nil, z_int, z_bool, z_str, z_sl, z_nils, b_nil, b_arr, b_box1, b_box2, b_box3, b_box4, List.map_cons, List.map_nil, Bool.and_self, Bool.and_true, Bool.true_and, Bool.not_true, Bool.not_false, Bool.or_false, Bool.false_or, cond_true, cond_false, okPack, okPut, okPutBlks, okPutCells, q_isP, q_isAg, q_isBox, q_isArr, q_int, q_bool, q_str, q_sl, q_nils, e_exit, e_ret, e_nrm, e_ret_exit, e_exit_ret, e_nrm_exit, e_nrm_ret, e_exit_nrm, e_ret_nrm, Nat.zero_add, Nat.reduceAdd, noslR, noslP, noslB, noslA, List.all_cons, List.all_nil]
        rw [c_Fields body (by omega), c_rFields body (by omega)]
        simp only [Bool.true_or, Bool.or_true, Bool.false_or, Bool.or_false, bnd_some, ctl_true, ctl_false, ctl_and, ctl_or', ctl_or2, x_toPV, x_toCs, x_toCs2, x_toEs, x_bEs, x_bCs, x_aPV, x_aCs, x_int, x_bool, x_str, x_es, x_esn, nth_0, nth_1, nth_2, nth_3, nth_4, nth_5, nth_6, nth_7, nth_8, nth_9, y_nil, y_int, y_bool, y_str, y_sl, y_nils, y_agg, y_ownp, y_own, z_nil, z_int, z_bool, z_str, z_sl, z_nils, b_nil, b_arr, b_box1, b_box2, b_box3, b_box4, List.map_cons, List.map_nil, Bool.and_self, Bool.and_true, Bool.true_and, Bool.not_true, Bool.not_false, Bool.or_false, Bool.false_or, cond_true, cond_false, okPack, okPut, okPutBlks, okPutCells, q_isP, q_isAg, q_isBox, q_isArr, q_int, q_bool, q_str, q_sl, q_nils, e_exit, e_ret, e_nrm, e_ret_exit, e_exit_ret, e_nrm_exit, e_nrm_ret, e_exit_nrm, e_ret_nrm, Nat.zero_add, Nat.reduceAdd, noslR, noslP, noslB, noslA, List.all_cons, List.all_nil]
        rw [c_Texts _ _ (by omega)]
        simp only [beq_self_eq_true, bnd_some, ctl_true, ctl_false, ctl_and, ctl_or', ctl_or2, x_toPV, x_toCs, x_toCs2, x_toEs, x_bEs, x_bCs, x_aPV, x_aCs, x_int, x_bool, x_str, x_es, x_esn, nth_0, nth_1, nth_2, nth_3, nth_4, nth_5, nth_6, nth_7, nth_8, nth_9, y_nil, y_int, y_bool, y_str, y_sl, y_nils, y_agg, y_ownp, y_own, z_nil, z_int, z_bool, z_str, z_sl, z_nils, b_nil, b_arr, b_box1, b_box2, b_box3, b_box4, List.map_cons, List.map_nil, Bool.and_self, Bool.and_true, Bool.true_and, Bool.not_true, Bool.not_false, Bool.or_false, Bool.false_or, cond_true, cond_false, okPack, okPut, okPutBlks, okPutCells, q_isP, q_isAg, q_isBox, q_isArr, q_int, q_bool, q_str, q_sl, q_nils, e_exit, e_ret, e_nrm, e_ret_exit, e_exit_ret, e_nrm_exit, e_nrm_ret, e_exit_nrm, e_ret_nrm, Nat.zero_add, Nat.reduceAdd, noslR, noslP, noslB, noslA, List.all_cons, List.all_nil]
      · have e2 : ltB 300 (body.length : Int) = true := decide_eq_true (by omega)
        rw [e2]
        simp only [Bool.true_or, Bool.or_true, Bool.false_or, Bool.or_false, bnd_some, ctl_true, ctl_false, ctl_and, ctl_or', ctl_or2, x_toPV, x_toCs, x_toCs2, x_toEs, x_bEs, x_bCs, x_aPV, x_aCs, x_int, x_bool, x_str, x_es, x_esn, nth_0, nth_1, nth_2, nth_3, nth_4, nth_5, nth_6, nth_7, nth_8, nth_9, y_nil, y_int, y_bool, y_str, y_sl, y_nils, y_agg, y_ownp, y_own, z_nil, z_int, z_bool, z_str, z_sl, z_nils, b_nil, b_arr, b_box1, b_box2, b_box3, b_box4, List.map_cons, List.map_nil, Bool.and_self, Bool.and_true, Bool.true_and, Bool.not_true, Bool.not_false, Bool.or_false, Bool.false_or, cond_true, cond_false, okPack, okPut, okPutBlks, okPutCells, q_isP, q_isAg, q_isBox, q_isArr, q_int, q_bool, q_str, q_sl, q_nils, e_exit, e_ret, e_nrm, e_ret_exit, e_exit_ret, e_nrm_exit, e_nrm_ret, e_exit_nrm, e_ret_nrm, Nat.zero_add, Nat.reduceAdd, noslR, noslP, noslB, noslA, List.all_cons, List.all_nil]
    · have e1 : ltB 300 (s.length : Int) = true := decide_eq_true (by omega)
      rw [e1]
      simp only [Bool.true_or, Bool.or_true, Bool.false_or, Bool.or_false, bnd_some, ctl_true, ctl_false, ctl_and, ctl_or', ctl_or2, x_toPV, x_toCs, x_toCs2, x_toEs, x_bEs, x_bCs, x_aPV, x_aCs, x_int, x_bool, x_str, x_es, x_esn, nth_0, nth_1, nth_2, nth_3, nth_4, nth_5, nth_6, nth_7, nth_8, nth_9, y_nil, y_int, y_bool, y_str, y_sl, y_nils, y_agg, y_ownp, y_own, z_nil, z_int, z_bool, z_str, z_sl, z_nils, b_nil, b_arr, b_box1, b_box2, b_box3, b_box4, List.map_cons, List.map_nil, Bool.and_self, Bool.and_true, Bool.true_and, Bool.not_true, Bool.not_false, Bool.or_false, Bool.false_or, cond_true, cond_false, okPack, okPut, okPutBlks, okPutCells, q_isP, q_isAg, q_isBox, q_isArr, q_int, q_bool, q_str, q_sl, q_nils, e_exit, e_ret, e_nrm, e_ret_exit, e_exit_ret, e_nrm_exit, e_nrm_ret, e_exit_nrm, e_ret_nrm, Nat.zero_add, Nat.reduceAdd, noslR, noslP, noslB, noslA, List.all_cons, List.all_nil]

end Go.Proofs.YtclnapbghehlaaaDoor.Vm
