/- Contracts of chapter 04: texts, bytes, sentences. -/
import Derived.Test.YtmlhemkadoadaaaDoorMkC
import Derived.Test.YtmlhemkadoadaaaDoorPrims
namespace Go.Proofs.YtmlhemkadoadaaaDoor.Vm
set_option linter.unusedVariables false
set_option linter.unusedSimpArgs false

theorem byteEs_length (s : List UInt8) : (byteEs s).length = s.length := by simp [byteEs]
theorem strsK_length (s : List (List UInt8)) : (strsK s).length = s.length := by simp [strsK]
theorem u8_back (b : UInt8) : ((b.toNat : Int)).toNat.toUInt8 = b := by simp
theorem u8_back2 (b : UInt8) : UInt8.ofNat ((b.toNat : Int)).toNat = b := by simp

theorem toBytes_byteEs (s : List UInt8) : toBytes (byteEs s) = s := by
  unfold toBytes byteEs
  rw [List.map_map]
  exact (List.map_congr_left fun b _ => u8_back2 b).trans (List.map_id _)
theorem byteOk_b (b : UInt8) : byteOk [PV.int .u8 (b.toNat : Int)] = true := by
  have h := b.toNat_lt
  have h1 : leB 0 (b.toNat : Int) = true := decide_eq_true (by omega)
  have h2 : ltB (b.toNat : Int) 256 = true := decide_eq_true (by omega)
  show (leB 0 (b.toNat : Int) && ltB (b.toNat : Int) 256) = true
  rw [h1, h2]; rfl
theorem bytesOk_byteEs (s : List UInt8) : bytesOk (byteEs s) = true := by
  unfold bytesOk byteEs
  refine List.all_eq_true.2 fun e he => ?_
  obtain ⟨b, _, rfl⟩ := List.mem_map.1 he
  exact byteOk_b b

theorem getE_bytes {α : Type} {s : List UInt8} {i : Int} (hi : 0 ≤ i ∧ i < s.length) (K : List PV → Option α) : getE (byteEs s) i K = K [PV.int .u8 ((s.getD i.toNat 0).toNat : Int)] := by
  unfold getE
  rw [byteEs_length]
  have h1 : leB 0 i = true := by simpa using hi.1
  have h2 : ltB i s.length = true := by simpa using hi.2
  rw [h1, h2]
  have hlt : i.toNat < s.length := by omega
  simp only [Bool.and_self, ctl_true]
  rw [nth_eq]
  simp [byteEs, List.getD, hlt]

theorem getE_strs {α : Type} {s : List (List UInt8)} {i : Int} (hi : 0 ≤ i ∧ i < s.length) (K : List PV → Option α) : getE (strsK s) i K = K [PV.str (s.getD i.toNat [])] := by
  unfold getE
  rw [strsK_length]
  have h1 : leB 0 i = true := by simpa using hi.1
  have h2 : ltB i s.length = true := by simpa using hi.2
  rw [h1, h2]
  have hlt : i.toNat < s.length := by omega
  simp only [Bool.and_self, ctl_true]
  rw [nth_eq]
  simp [strsK, List.getD, hlt]

theorem getD_mid {α : Type} (pre : List α) (b : α) (l : List α) (d : α) : (pre ++ b :: l).getD pre.length d = b := by simp [List.getD]
theorem app_cons {α : Type} (pre : List α) (b : α) (l : List α) : pre ++ b :: l = (pre ++ [b]) ++ l := by simp
theorem len_snoc {α : Type} (pre : List α) (b : α) : ((pre.length : Int) + 1) = ((pre ++ [b]).length : Int) := by simp

theorem c_IndexByte (s : List UInt8) (c : Int) : denC E 47 [AV.str s, AV.int .u8 c] [] = some ([RV.p (PV.int .i64 (Lib.indexByte s c.toNat.toUInt8))], []) := by
  rw [denC_eq]; kernel_rfl

/-- A byte that no field may have. -/
def badB (b : UInt8) : Bool := (ltB (b.toNat : Int) 32 || ltB 126 (b.toNat : Int)) || (b == 36 || b == 42 || b == 44)
def fldB (s : List UInt8) : Bool := !ltB 20 (s.length : Int) && s.all fun b => !badB b

theorem ib3 (b : UInt8) : leB 0 (Lib.indexByte [36, 42, 44] b) = (b == 36 || b == 42 || b == 44) := by
  unfold Lib.indexByte
  by_cases h1 : b = 36
  · subst h1; rfl
  · by_cases h2 : b = 42
    · subst h2; rfl
    · by_cases h3 : b = 44
      · subst h3; rfl
      · have e1 : ((36 : UInt8) == b) = false := by simpa using fun e : 36 = b => h1 e.symm
        have e2 : ((42 : UInt8) == b) = false := by simpa using fun e : 42 = b => h2 e.symm
        have e3 : ((44 : UInt8) == b) = false := by simpa using fun e : 44 = b => h3 e.symm
        have f1 : (b == 36) = false := by simpa using h1
        have f2 : (b == 42) = false := by simpa using h2
        have f3 : (b == 44) = false := by simpa using h3
        simp only [Lib.indexByte, e1, e2, e3, f1, f2, f3]
        rfl

theorem l_field (l : List UInt8) : ∀ (pre : List UInt8), (pre ++ l).length ≤ 1000 → lp E (denC E) 57 0 [] 0 { vals := [AV.sl 1 (byteEs (pre ++ l)), AV.int .i64 (pre ++ l).length, AV.int .i64 pre.length], blks := [] } =
    some (bif (l.all fun b => !badB b) then (Ex.exit 0, { vals := [], blks := [] }) else (Ex.ret, { vals := [AV.bool false], blks := [] })) := by
  induction l with
  | nil =>
    intro pre h
    rw [r57_0, ctl_dec, if_neg (by simp)]
    rfl
  | cons b l ih =>
    intro pre h
    rw [r57_0, ctl_dec, if_pos (by simp; omega), getE_bytes (by simp; omega)]
    simp only [Int.toNat_natCast, getD_mid, bnd_some, ctl_true, ctl_false, ctl_and, ctl_or', ctl_or2, x_toPV, x_toCs, x_toCs2, x_toEs, x_bEs, x_bCs, x_aPV, x_aCs, x_int, x_bool, x_str, x_es, x_esn, nth_0, nth_1, nth_2, nth_3, nth_4, nth_5, nth_6, nth_7, nth_8, nth_9, y_nil, y_int, y_bool, y_str, y_sl, y_nils, y_agg, y_ownp, y_own, z_nil, z_int, z_bool, z_str, z_sl, z_nils, b_nil, b_arr, b_box1, b_box2, b_box3, b_box4, List.map_cons, List.map_nil, Bool.and_self, Bool.and_true, Bool.true_and, Bool.not_true, Bool.not_false, Bool.or_false, Bool.false_or, cond_true, cond_false, okPack, okPut, okPutBlks, okPutCells, q_isP, q_isAg, q_isBox, q_isArr, q_int, q_bool, q_str, q_sl, q_nils, e_exit, e_ret, e_nrm, e_ret_exit, e_exit_ret, e_nrm_exit, e_nrm_ret, e_exit_nrm, e_ret_nrm, Nat.zero_add, Nat.reduceAdd, noslR, noslP, noslB, noslA, List.all_cons, List.all_nil]
    rw [c_IndexByte, u8_back]
    simp only [bnd_some, ctl_true, ctl_false, ctl_and, ctl_or', ctl_or2, x_toPV, x_toCs, x_toCs2, x_toEs, x_bEs, x_bCs, x_aPV, x_aCs, x_int, x_bool, x_str, x_es, x_esn, nth_0, nth_1, nth_2, nth_3, nth_4, nth_5, nth_6, nth_7, nth_8, nth_9, y_nil, y_int, y_bool, y_str, y_sl, y_nils, y_agg, y_ownp, y_own, z_nil, z_int, z_bool, z_str, z_sl, z_nils, b_nil, b_arr, b_box1, b_box2, b_box3, b_box4, List.map_cons, List.map_nil, Bool.and_self, Bool.and_true, Bool.true_and, Bool.not_true, Bool.not_false, Bool.or_false, Bool.false_or, cond_true, cond_false, okPack, okPut, okPutBlks, okPutCells, q_isP, q_isAg, q_isBox, q_isArr, q_int, q_bool, q_str, q_sl, q_nils, e_exit, e_ret, e_nrm, e_ret_exit, e_exit_ret, e_nrm_exit, e_nrm_ret, e_exit_nrm, e_ret_nrm, Nat.zero_add, Nat.reduceAdd, noslR, noslP, noslB, noslA, List.all_cons, List.all_nil]
    rw [ib3]
    have hb : (ltB (b.toNat : Int) 32 || ltB 126 (b.toNat : Int) || (b == 36 || b == 42 || b == 44)) = badB b := rfl
    rw [hb, w64 (by simp at h; omega), len_snoc pre b]
    cases hbb : badB b with
    | true => simp only [ctl_true, List.all_cons, hbb, Bool.not_true, Bool.false_and, cond_false]
    | false =>
      rw [ctl_false, app_cons, ih (pre ++ [b]) (by simpa using h)]
      simp only [List.all_cons, hbb, Bool.not_false, Bool.true_and]

theorem c_field (s : List UInt8) : denC E 57 [AV.str s] [] = some ([RV.p (PV.bool (fldB s))], []) := by
  rw [denC_eq, r57, ctl_if]
  unfold fldB
  cases h : ltB 20 (s.length : Int) with
  | true => simp
  | false =>
    have h2 : s.length ≤ 20 := by have := of_decide_eq_false h; omega
    have := l_field s [] (by simp; omega)
    simp only [List.nil_append, List.length_nil] at this
    rw [byteEs_length]
    simp only [Bool.false_eq_true, if_false]
    rw [show ((0 : Int)) = (((0 : Nat)) : Int) from rfl, this]
    cases s.all fun b => !badB b <;> simp [bnd_some, ctl_true, ctl_false, ctl_and, ctl_or', ctl_or2, x_toPV, x_toCs, x_toCs2, x_toEs, x_bEs, x_bCs, x_aPV, x_aCs, x_int, x_bool, x_str, x_es, x_esn, nth_0, nth_1, nth_2, nth_3, nth_4, nth_5, nth_6, nth_7, nth_8, nth_9, y_nil, y_int, y_bool, y_str, y_sl, y_nils, y_agg, y_ownp, y_own, z_nil, z_int, z_bool, z_str, z_sl, z_nils, b_nil, b_arr, b_box1, b_box2, b_box3, b_box4, List.map_cons, List.map_nil, Bool.and_self, Bool.and_true, Bool.true_and, Bool.not_true, Bool.not_false, Bool.or_false, Bool.false_or, cond_true, cond_false, okPack, okPut, okPutBlks, okPutCells, q_isP, q_isAg, q_isBox, q_isArr, q_int, q_bool, q_str, q_sl, q_nils, e_exit, e_ret, e_nrm, e_ret_exit, e_exit_ret, e_nrm_exit, e_nrm_ret, e_exit_nrm, e_ret_nrm, Nat.zero_add, Nat.reduceAdd, noslR, noslP, noslB, noslA, List.all_cons, List.all_nil, okPack, okPut, okPutBlks]


/-! ### The document's field -/
theorem byteAt_mid (pre : List UInt8) (b : UInt8) (l : List UInt8) : byteAt (pre ++ b :: l) (pre.length : Int) = (b.toNat : Int) := by
  unfold byteAt
  rw [Int.toNat_natCast, nth_eq, getD_mid]
theorem b_eq (b c : UInt8) : ((b.toNat : Int) == (c.toNat : Int)) = (b == c) := by
  rw [Bool.eq_iff_iff]
  simp only [beq_iff_eq]
  exact ⟨fun h => UInt8.toNat_inj.1 (by omega), fun h => by rw [h]⟩
theorem in_mid {α : Type} (pre : List α) (b : α) (l : List α) : (leB 0 (pre.length : Int) && ltB (pre.length : Int) ((pre ++ b :: l).length : Int)) = true := by
  have h1 : leB 0 (pre.length : Int) = true := decide_eq_true (by omega)
  have h2 : ltB (pre.length : Int) ((pre ++ b :: l).length : Int) = true := decide_eq_true (by simp; omega)
  rw [h1, h2]; rfl

theorem l_rfield (l : List UInt8) : ∀ (pre : List UInt8), (pre ++ l).length ≤ 1000 → lp E (denC E) 40 0 [] 0 { vals := [AV.str (pre ++ l), AV.int .i64 pre.length], blks := [] } =
    some (bif (l.all fun b => !badB b) then (Ex.exit 0, { vals := [], blks := [] }) else (Ex.ret, { vals := [AV.bool false], blks := [] })) := by
  induction l with
  | nil =>
    intro pre h
    rw [r40_0, ctl_dec, if_neg (by simp)]
    rfl
  | cons b l ih =>
    intro pre h
    rw [r40_0, ctl_dec, if_pos (by simp; omega), in_mid]
    simp only [byteAt_mid, bnd_some, ctl_true, ctl_false, ctl_and, ctl_or', ctl_or2, x_toPV, x_toCs, x_toCs2, x_toEs, x_bEs, x_bCs, x_aPV, x_aCs, x_int, x_bool, x_str, x_es, x_esn, nth_0, nth_1, nth_2, nth_3, nth_4, nth_5, nth_6, nth_7, nth_8, nth_9, y_nil, y_int, y_bool, y_str, y_sl, y_nils, y_agg, y_ownp, y_own, z_nil, z_int, z_bool, z_str, z_sl, z_nils, b_nil, b_arr, b_box1, b_box2, b_box3, b_box4, List.map_cons, List.map_nil, Bool.and_self, Bool.and_true, Bool.true_and, Bool.not_true, Bool.not_false, Bool.or_false, Bool.false_or, cond_true, cond_false, okPack, okPut, okPutBlks, okPutCells, q_isP, q_isAg, q_isBox, q_isArr, q_int, q_bool, q_str, q_sl, q_nils, e_exit, e_ret, e_nrm, e_ret_exit, e_exit_ret, e_nrm_exit, e_nrm_ret, e_exit_nrm, e_ret_nrm, Nat.zero_add, Nat.reduceAdd, noslR, noslP, noslB, noslA, List.all_cons, List.all_nil]
    have e1 : ((b.toNat : Int) == 36) = (b == 36) := b_eq b 36
    have e2 : ((b.toNat : Int) == 42) = (b == 42) := b_eq b 42
    have e3 : ((b.toNat : Int) == 44) = (b == 44) := b_eq b 44
    rw [e1, e2, e3]
    have hb : (ltB (b.toNat : Int) 32 || ltB 126 (b.toNat : Int) || (b == 36) || (b == 42) || (b == 44)) = badB b := by unfold badB; simp only [Bool.or_assoc]
    rw [hb, w64 (by simp at h; omega), len_snoc pre b]
    cases hbb : badB b with
    | true => simp only [ctl_true, List.all_cons, hbb, Bool.not_true, Bool.false_and, cond_false]
    | false =>
      rw [ctl_false, app_cons, ih (pre ++ [b]) (by simpa using h)]
      simp only [List.all_cons, hbb, Bool.not_false, Bool.true_and]

theorem c_rfield (s : List UInt8) : denC E 40 [AV.str s] [] = some ([RV.p (PV.bool (fldB s))], []) := by
  rw [denC_eq, r40, ctl_if]
  unfold fldB
  cases h : ltB 20 (s.length : Int) with
  | true => simp
  | false =>
    have h2 : s.length ≤ 20 := by have := of_decide_eq_false h; omega
    have := l_rfield s [] (by simp; omega)
    simp only [List.nil_append, List.length_nil] at this
    simp only [Bool.false_eq_true, if_false]
    rw [show ((0 : Int)) = (((0 : Nat)) : Int) from rfl, this]
    cases s.all fun b => !badB b <;> simp [bnd_some, ctl_true, ctl_false, ctl_and, ctl_or', ctl_or2, x_toPV, x_toCs, x_toCs2, x_toEs, x_bEs, x_bCs, x_aPV, x_aCs, x_int, x_bool, x_str, x_es, x_esn, nth_0, nth_1, nth_2, nth_3, nth_4, nth_5, nth_6, nth_7, nth_8, nth_9, y_nil, y_int, y_bool, y_str, y_sl, y_nils, y_agg, y_ownp, y_own, z_nil, z_int, z_bool, z_str, z_sl, z_nils, b_nil, b_arr, b_box1, b_box2, b_box3, b_box4, List.map_cons, List.map_nil, Bool.and_self, Bool.and_true, Bool.true_and, Bool.not_true, Bool.not_false, Bool.or_false, Bool.false_or, cond_true, cond_false, okPack, okPut, okPutBlks, okPutCells, q_isP, q_isAg, q_isBox, q_isArr, q_int, q_bool, q_str, q_sl, q_nils, e_exit, e_ret, e_nrm, e_ret_exit, e_exit_ret, e_nrm_exit, e_nrm_ret, e_exit_nrm, e_ret_nrm, Nat.zero_add, Nat.reduceAdd, noslR, noslP, noslB, noslA, List.all_cons, List.all_nil, okPack, okPut, okPutBlks]

/-! ### Valid -/
def validB (l : List (List UInt8)) : Bool := leB 1 (l.length : Int) && leB (l.length : Int) 16 && l.all fldB && !(l == [[]])

theorem c_Validf (s : List UInt8) : denC E 56 [AV.str s] [] = some ([RV.p (PV.bool (!fldB s))], []) := by
  rw [denC_eq, r56, c_field]
  simp only [bnd_some, ctl_true, ctl_false, ctl_and, ctl_or', ctl_or2, x_toPV, x_toCs, x_toCs2, x_toEs, x_bEs, x_bCs, x_aPV, x_aCs, x_int, x_bool, x_str, x_es, x_esn, nth_0, nth_1, nth_2, nth_3, nth_4, nth_5, nth_6, nth_7, nth_8, nth_9, y_nil, y_int, y_bool, y_str, y_sl, y_nils, y_agg, y_ownp, y_own, z_nil, z_int, z_bool, z_str, z_sl, z_nils, b_nil, b_arr, b_box1, b_box2, b_box3, b_box4, List.map_cons, List.map_nil, Bool.and_self, Bool.and_true, Bool.true_and, Bool.not_true, Bool.not_false, Bool.or_false, Bool.false_or, cond_true, cond_false, okPack, okPut, okPutBlks, okPutCells, q_isP, q_isAg, q_isBox, q_isArr, q_int, q_bool, q_str, q_sl, q_nils, e_exit, e_ret, e_nrm, e_ret_exit, e_exit_ret, e_nrm_exit, e_nrm_ret, e_exit_nrm, e_ret_nrm, Nat.zero_add, Nat.reduceAdd, noslR, noslP, noslB, noslA, List.all_cons, List.all_nil]

theorem l_indexFunc (l : List (List UInt8)) : ∀ (pre : List (List UInt8)), (pre ++ l).length ≤ 1000 → ∃ k : Int, 0 ≤ k ∧ lp E (denC E) 63 0 [AV.undef, AV.fn 56 []] 0 { vals := [AV.sl 1 (strsK (pre ++ l)), AV.int .i64 (pre ++ l).length, AV.int .i64 pre.length], blks := [] } =
    some (bif l.all fldB then (Ex.exit 0, { vals := [], blks := [] }) else (Ex.ret, { vals := [AV.int .i64 k], blks := [] })) := by
  induction l with
  | nil =>
    intro pre h
    refine ⟨0, Int.le_refl _, ?_⟩
    rw [r63_0a, ctl_dec, if_neg (by simp)]
    rfl
  | cons b l ih =>
    intro pre h
    cases hbb : fldB b with
    | false =>
      refine ⟨pre.length, by omega, ?_⟩
      rw [r63_0a, ctl_dec, if_pos (by simp; omega), getE_strs (by simp; omega)]
      simp only [Int.toNat_natCast, getD_mid, bnd_some, ctl_true, ctl_false, ctl_and, ctl_or', ctl_or2, x_toPV, x_toCs, x_toCs2, x_toEs, x_bEs, x_bCs, x_aPV, x_aCs, x_int, x_bool, x_str, x_es, x_esn, nth_0, nth_1, nth_2, nth_3, nth_4, nth_5, nth_6, nth_7, nth_8, nth_9, y_nil, y_int, y_bool, y_str, y_sl, y_nils, y_agg, y_ownp, y_own, z_nil, z_int, z_bool, z_str, z_sl, z_nils, b_nil, b_arr, b_box1, b_box2, b_box3, b_box4, List.map_cons, List.map_nil, Bool.and_self, Bool.and_true, Bool.true_and, Bool.not_true, Bool.not_false, Bool.or_false, Bool.false_or, cond_true, cond_false, okPack, okPut, okPutBlks, okPutCells, q_isP, q_isAg, q_isBox, q_isArr, q_int, q_bool, q_str, q_sl, q_nils, e_exit, e_ret, e_nrm, e_ret_exit, e_exit_ret, e_nrm_exit, e_nrm_ret, e_exit_nrm, e_ret_nrm, Nat.zero_add, Nat.reduceAdd, noslR, noslP, noslB, noslA, List.all_cons, List.all_nil]
      rw [c_Validf, hbb]
      simp only [bnd_some, ctl_true, ctl_false, ctl_and, ctl_or', ctl_or2, x_toPV, x_toCs, x_toCs2, x_toEs, x_bEs, x_bCs, x_aPV, x_aCs, x_int, x_bool, x_str, x_es, x_esn, nth_0, nth_1, nth_2, nth_3, nth_4, nth_5, nth_6, nth_7, nth_8, nth_9, y_nil, y_int, y_bool, y_str, y_sl, y_nils, y_agg, y_ownp, y_own, z_nil, z_int, z_bool, z_str, z_sl, z_nils, b_nil, b_arr, b_box1, b_box2, b_box3, b_box4, List.map_cons, List.map_nil, Bool.and_self, Bool.and_true, Bool.true_and, Bool.not_true, Bool.not_false, Bool.or_false, Bool.false_or, cond_true, cond_false, okPack, okPut, okPutBlks, okPutCells, q_isP, q_isAg, q_isBox, q_isArr, q_int, q_bool, q_str, q_sl, q_nils, e_exit, e_ret, e_nrm, e_ret_exit, e_exit_ret, e_nrm_exit, e_nrm_ret, e_exit_nrm, e_ret_nrm, Nat.zero_add, Nat.reduceAdd, noslR, noslP, noslB, noslA, List.all_cons, List.all_nil, List.all_cons, hbb, Bool.false_and]
    | true =>
      obtain ⟨k, hk, e⟩ := ih (pre ++ [b]) (by simpa using h)
      refine ⟨k, hk, ?_⟩
      rw [r63_0a, ctl_dec, if_pos (by simp; omega), getE_strs (by simp; omega)]
      simp only [Int.toNat_natCast, getD_mid, bnd_some, ctl_true, ctl_false, ctl_and, ctl_or', ctl_or2, x_toPV, x_toCs, x_toCs2, x_toEs, x_bEs, x_bCs, x_aPV, x_aCs, x_int, x_bool, x_str, x_es, x_esn, nth_0, nth_1, nth_2, nth_3, nth_4, nth_5, nth_6, nth_7, nth_8, nth_9, y_nil, y_int, y_bool, y_str, y_sl, y_nils, y_agg, y_ownp, y_own, z_nil, z_int, z_bool, z_str, z_sl, z_nils, b_nil, b_arr, b_box1, b_box2, b_box3, b_box4, List.map_cons, List.map_nil, Bool.and_self, Bool.and_true, Bool.true_and, Bool.not_true, Bool.not_false, Bool.or_false, Bool.false_or, cond_true, cond_false, okPack, okPut, okPutBlks, okPutCells, q_isP, q_isAg, q_isBox, q_isArr, q_int, q_bool, q_str, q_sl, q_nils, e_exit, e_ret, e_nrm, e_ret_exit, e_exit_ret, e_nrm_exit, e_nrm_ret, e_exit_nrm, e_ret_nrm, Nat.zero_add, Nat.reduceAdd, noslR, noslP, noslB, noslA, List.all_cons, List.all_nil]
      rw [c_Validf, hbb]
      simp only [bnd_some, ctl_true, ctl_false, ctl_and, ctl_or', ctl_or2, x_toPV, x_toCs, x_toCs2, x_toEs, x_bEs, x_bCs, x_aPV, x_aCs, x_int, x_bool, x_str, x_es, x_esn, nth_0, nth_1, nth_2, nth_3, nth_4, nth_5, nth_6, nth_7, nth_8, nth_9, y_nil, y_int, y_bool, y_str, y_sl, y_nils, y_agg, y_ownp, y_own, z_nil, z_int, z_bool, z_str, z_sl, z_nils, b_nil, b_arr, b_box1, b_box2, b_box3, b_box4, List.map_cons, List.map_nil, Bool.and_self, Bool.and_true, Bool.true_and, Bool.not_true, Bool.not_false, Bool.or_false, Bool.false_or, cond_true, cond_false, okPack, okPut, okPutBlks, okPutCells, q_isP, q_isAg, q_isBox, q_isArr, q_int, q_bool, q_str, q_sl, q_nils, e_exit, e_ret, e_nrm, e_ret_exit, e_exit_ret, e_nrm_exit, e_nrm_ret, e_exit_nrm, e_ret_nrm, Nat.zero_add, Nat.reduceAdd, noslR, noslP, noslB, noslA, List.all_cons, List.all_nil]
      rw [w64 (by simp at h; omega), len_snoc pre b, app_cons, e]

theorem c_ContainsFunc (l : List (List UInt8)) (h : l.length ≤ 1000) : denC E 55 [AV.sl 1 (strsK l), AV.fn 56 []] [] = some ([RV.p (PV.bool (!l.all fldB))], []) := by
  rw [denC_eq, r55a]
  have : ∃ k : Int, denC E 63 [AV.sl 1 (strsK l), AV.fn 56 []] [] = some ([RV.p (PV.int .i64 (bif l.all fldB then -1 else k))], []) ∧ 0 ≤ k := by
    obtain ⟨k, hk, e⟩ := l_indexFunc l [] (by simpa using h)
    refine ⟨k, ?_, hk⟩
    simp only [List.nil_append, List.length_nil] at e
    rw [denC_eq, r63a, strsK_length, show ((0 : Int)) = (((0 : Nat)) : Int) from rfl, e]
    cases l.all fldB <;> simp [bnd_some, ctl_true, ctl_false, ctl_and, ctl_or', ctl_or2, x_toPV, x_toCs, x_toCs2, x_toEs, x_bEs, x_bCs, x_aPV, x_aCs, x_int, x_bool, x_str, x_es, x_esn, nth_0, nth_1, nth_2, nth_3, nth_4, nth_5, nth_6, nth_7, nth_8, nth_9, y_nil, y_int, y_bool, y_str, y_sl, y_nils, y_agg, y_ownp, y_own, z_nil, z_int, z_bool, z_str, z_sl, z_nils, b_nil, b_arr, b_box1, b_box2, b_box3, b_box4, List.map_cons, List.map_nil, Bool.and_self, Bool.and_true, Bool.true_and, Bool.not_true, Bool.not_false, Bool.or_false, Bool.false_or, cond_true, cond_false, okPack, okPut, okPutBlks, okPutCells, q_isP, q_isAg, q_isBox, q_isArr, q_int, q_bool, q_str, q_sl, q_nils, e_exit, e_ret, e_nrm, e_ret_exit, e_exit_ret, e_nrm_exit, e_nrm_ret, e_exit_nrm, e_ret_nrm, Nat.zero_add, Nat.reduceAdd, noslR, noslP, noslB, noslA, List.all_cons, List.all_nil, okPack, okPut, okPutBlks]
  obtain ⟨k, e, hk⟩ := this
  rw [e]
  simp only [bnd_some, ctl_true, ctl_false, ctl_and, ctl_or', ctl_or2, x_toPV, x_toCs, x_toCs2, x_toEs, x_bEs, x_bCs, x_aPV, x_aCs, x_int, x_bool, x_str, x_es, x_esn, nth_0, nth_1, nth_2, nth_3, nth_4, nth_5, nth_6, nth_7, nth_8, nth_9, y_nil, y_int, y_bool, y_str, y_sl, y_nils, y_agg, y_ownp, y_own, z_nil, z_int, z_bool, z_str, z_sl, z_nils, b_nil, b_arr, b_box1, b_box2, b_box3, b_box4, List.map_cons, List.map_nil, Bool.and_self, Bool.and_true, Bool.true_and, Bool.not_true, Bool.not_false, Bool.or_false, Bool.false_or, cond_true, cond_false, okPack, okPut, okPutBlks, okPutCells, q_isP, q_isAg, q_isBox, q_isArr, q_int, q_bool, q_str, q_sl, q_nils, e_exit, e_ret, e_nrm, e_ret_exit, e_exit_ret, e_nrm_exit, e_nrm_ret, e_exit_nrm, e_ret_nrm, Nat.zero_add, Nat.reduceAdd, noslR, noslP, noslB, noslA, List.all_cons, List.all_nil]
  cases l.all fldB
  · have : leB 0 k = true := decide_eq_true hk
    simp only [cond_false, this, Bool.not_false]
  · rfl

theorem c_Valid (l : List (List UInt8)) (h : l.length ≤ 100000) : denC E 49 [AV.agg [PV.sl 1 (strsK l)]] [] = some ([RV.p (PV.bool (validB l))], []) := by
  rw [denC_eq, r49, strsK_length, ctl_and]
  simp only [bnd_some]
  unfold validB
  cases hv : leB 1 (l.length : Int) && leB (l.length : Int) 16 with
  | false => rw [ctl_false]; simp
  | true =>
    have hb : 1 ≤ l.length ∧ l.length ≤ 16 := by
      simp only [Bool.and_eq_true, decide_eq_true_eq] at hv; omega
    rw [ctl_true, c_ContainsFunc l (by omega)]
    simp only [bnd_some, ctl_true, ctl_false, ctl_and, ctl_or', ctl_or2, x_toPV, x_toCs, x_toCs2, x_toEs, x_bEs, x_bCs, x_aPV, x_aCs, x_int, x_bool, x_str, x_es, x_esn, nth_0, nth_1, nth_2, nth_3, nth_4, nth_5, nth_6, nth_7, nth_8, nth_9, y_nil, y_int, y_bool, y_str, y_sl, y_nils, y_agg, y_ownp, y_own, z_nil, z_int, z_bool, z_str, z_sl, z_nils, b_nil, b_arr, b_box1, b_box2, b_box3, b_box4, List.map_cons, List.map_nil, Bool.and_self, Bool.and_true, Bool.true_and, Bool.not_true, Bool.not_false, Bool.or_false, Bool.false_or, cond_true, cond_false, okPack, okPut, okPutBlks, okPutCells, q_isP, q_isAg, q_isBox, q_isArr, q_int, q_bool, q_str, q_sl, q_nils, e_exit, e_ret, e_nrm, e_ret_exit, e_exit_ret, e_nrm_exit, e_nrm_ret, e_exit_nrm, e_ret_nrm, Nat.zero_add, Nat.reduceAdd, noslR, noslP, noslB, noslA, List.all_cons, List.all_nil]
    cases ha : l.all fldB with
    | false => simp [ctl, bnd]
    | true =>
      simp only [Bool.not_true, Bool.not_false, bnd_some, ctl_true, ctl_false, ctl_and, ctl_or', ctl_or2, x_toPV, x_toCs, x_toCs2, x_toEs, x_bEs, x_bCs, x_aPV, x_aCs, x_int, x_bool, x_str, x_es, x_esn, nth_0, nth_1, nth_2, nth_3, nth_4, nth_5, nth_6, nth_7, nth_8, nth_9, y_nil, y_int, y_bool, y_str, y_sl, y_nils, y_agg, y_ownp, y_own, z_nil, z_int, z_bool, z_str, z_sl, z_nils, b_nil, b_arr, b_box1, b_box2, b_box3, b_box4, List.map_cons, List.map_nil, Bool.and_self, Bool.and_true, Bool.true_and, Bool.not_true, Bool.not_false, Bool.or_false, Bool.false_or, cond_true, cond_false, okPack, okPut, okPutBlks, okPutCells, q_isP, q_isAg, q_isBox, q_isArr, q_int, q_bool, q_str, q_sl, q_nils, e_exit, e_ret, e_nrm, e_ret_exit, e_exit_ret, e_nrm_exit, e_nrm_ret, e_exit_nrm, e_ret_nrm, Nat.zero_add, Nat.reduceAdd, noslR, noslP, noslB, noslA, List.all_cons, List.all_nil]
      rw [getE_strs (by omega)]
      simp only [bnd_some, ctl_true, ctl_false, ctl_and, ctl_or', ctl_or2, x_toPV, x_toCs, x_toCs2, x_toEs, x_bEs, x_bCs, x_aPV, x_aCs, x_int, x_bool, x_str, x_es, x_esn, nth_0, nth_1, nth_2, nth_3, nth_4, nth_5, nth_6, nth_7, nth_8, nth_9, y_nil, y_int, y_bool, y_str, y_sl, y_nils, y_agg, y_ownp, y_own, z_nil, z_int, z_bool, z_str, z_sl, z_nils, b_nil, b_arr, b_box1, b_box2, b_box3, b_box4, List.map_cons, List.map_nil, Bool.and_self, Bool.and_true, Bool.true_and, Bool.not_true, Bool.not_false, Bool.or_false, Bool.false_or, cond_true, cond_false, okPack, okPut, okPutBlks, okPutCells, q_isP, q_isAg, q_isBox, q_isArr, q_int, q_bool, q_str, q_sl, q_nils, e_exit, e_ret, e_nrm, e_ret_exit, e_exit_ret, e_nrm_exit, e_nrm_ret, e_exit_nrm, e_ret_nrm, Nat.zero_add, Nat.reduceAdd, noslR, noslP, noslB, noslA, List.all_cons, List.all_nil]
      cases l with
      | nil => simp at hb
      | cons x t =>
        cases t with
        | nil => simp
        | cons y t =>
          have : ltB 1 ((x :: y :: t).length : Int) = true := decide_eq_true (by simp; omega)
          rw [this]; simp

theorem l_rValid (l : List (List UInt8)) : ∀ (pre : List (List UInt8)), (pre ++ l).length ≤ 1000 → lp E (denC E) 30 0 [] 0 { vals := [AV.sl 1 (strsK (pre ++ l)), AV.int .i64 (pre ++ l).length, AV.int .i64 pre.length], blks := [] } =
    some (bif l.all fldB then (Ex.exit 0, { vals := [], blks := [] }) else (Ex.ret, { vals := [AV.bool false], blks := [] })) := by
  induction l with
  | nil =>
    intro pre h
    rw [r30_0, ctl_dec, if_neg (by simp)]
    rfl
  | cons b l ih =>
    intro pre h
    rw [r30_0, ctl_dec, if_pos (by simp; omega), getE_strs (by simp; omega)]
    simp only [Int.toNat_natCast, getD_mid, bnd_some, ctl_true, ctl_false, ctl_and, ctl_or', ctl_or2, x_toPV, x_toCs, x_toCs2, x_toEs, x_bEs, x_bCs, x_aPV, x_aCs, x_int, x_bool, x_str, x_es, x_esn, nth_0, nth_1, nth_2, nth_3, nth_4, nth_5, nth_6, nth_7, nth_8, nth_9, y_nil, y_int, y_bool, y_str, y_sl, y_nils, y_agg, y_ownp, y_own, z_nil, z_int, z_bool, z_str, z_sl, z_nils, b_nil, b_arr, b_box1, b_box2, b_box3, b_box4, List.map_cons, List.map_nil, Bool.and_self, Bool.and_true, Bool.true_and, Bool.not_true, Bool.not_false, Bool.or_false, Bool.false_or, cond_true, cond_false, okPack, okPut, okPutBlks, okPutCells, q_isP, q_isAg, q_isBox, q_isArr, q_int, q_bool, q_str, q_sl, q_nils, e_exit, e_ret, e_nrm, e_ret_exit, e_exit_ret, e_nrm_exit, e_nrm_ret, e_exit_nrm, e_ret_nrm, Nat.zero_add, Nat.reduceAdd, noslR, noslP, noslB, noslA, List.all_cons, List.all_nil]
    rw [c_rfield]
    simp only [bnd_some, ctl_true, ctl_false, ctl_and, ctl_or', ctl_or2, x_toPV, x_toCs, x_toCs2, x_toEs, x_bEs, x_bCs, x_aPV, x_aCs, x_int, x_bool, x_str, x_es, x_esn, nth_0, nth_1, nth_2, nth_3, nth_4, nth_5, nth_6, nth_7, nth_8, nth_9, y_nil, y_int, y_bool, y_str, y_sl, y_nils, y_agg, y_ownp, y_own, z_nil, z_int, z_bool, z_str, z_sl, z_nils, b_nil, b_arr, b_box1, b_box2, b_box3, b_box4, List.map_cons, List.map_nil, Bool.and_self, Bool.and_true, Bool.true_and, Bool.not_true, Bool.not_false, Bool.or_false, Bool.false_or, cond_true, cond_false, okPack, okPut, okPutBlks, okPutCells, q_isP, q_isAg, q_isBox, q_isArr, q_int, q_bool, q_str, q_sl, q_nils, e_exit, e_ret, e_nrm, e_ret_exit, e_exit_ret, e_nrm_exit, e_nrm_ret, e_exit_nrm, e_ret_nrm, Nat.zero_add, Nat.reduceAdd, noslR, noslP, noslB, noslA, List.all_cons, List.all_nil]
    cases hbb : fldB b with
    | false => simp only [Bool.not_false, ctl_true, List.all_cons, hbb, Bool.false_and, cond_false]
    | true =>
      rw [w64 (by simp at h; omega), len_snoc pre b, app_cons, ih (pre ++ [b]) (by simpa using h)]
      simp only [Bool.not_true, ctl_false, List.all_append, List.all_cons, hbb, Bool.true_and]

theorem c_rValid (l : List (List UInt8)) (h : l.length ≤ 100000) : denC E 30 [AV.agg [PV.sl 1 (strsK l)]] [] = some ([RV.p (PV.bool (validB l))], []) := by
  rw [denC_eq, r30, strsK_length, ctl_or', bnd_some]
  unfold validB
  cases hv : leB 1 (l.length : Int) && leB (l.length : Int) 16 with
  | false =>
    have : (ltB (l.length : Int) 1 || ltB 16 (l.length : Int)) = true := by
      simp only [Bool.and_eq_false_iff, decide_eq_false_iff_not] at hv
      simp only [Bool.or_eq_true, decide_eq_true_eq]; omega
    rw [this]
    simp only [Bool.not_true, ctl_true, ctl_false, bnd_some]
    simp
  | true =>
    have hb : 1 ≤ l.length ∧ l.length ≤ 16 := by
      simp only [Bool.and_eq_true, decide_eq_true_eq] at hv; omega
    have : (ltB (l.length : Int) 1 || ltB 16 (l.length : Int)) = false := by
      simp only [Bool.or_eq_false_iff, decide_eq_false_iff_not]; omega
    rw [this]
    simp only [Bool.not_false, ctl_true]
    have hl := l_rValid l [] (by simp; omega)
    simp only [List.nil_append, List.length_nil, Int.natCast_zero] at hl
    have fin : (bnd (lp E (denC E) 30 0 [] 0 { vals := [AV.sl 1 (strsK l), AV.int .i64 l.length, AV.int .i64 0], blks := [] }) fun (p : Ex × Pack) =>
          ctl (p.fst.eqb (Ex.exit 0))
            (Option.some ([RV.p (PV.bool Bool.true)], []))
            (ctl (p.fst.eqb Ex.ret)
              (ctl (okPack { slots := [(2, Sum.inl Sh.bool)], blks := [] } p.snd)
                (Option.some
                  ([RV.p (PV.bool (nth AV.undef p.snd.vals 0).toPV.toBool)], []))
                Option.none)
              Option.none)) = some ([RV.p (PV.bool (l.all fldB))], ([] : List Blk)) := by
      rw [hl]
      cases l.all fldB <;> simp [bnd_some, ctl_true, ctl_false, ctl_and, ctl_or', ctl_or2, x_toPV, x_toCs, x_toCs2, x_toEs, x_bEs, x_bCs, x_aPV, x_aCs, x_int, x_bool, x_str, x_es, x_esn, nth_0, nth_1, nth_2, nth_3, nth_4, nth_5, nth_6, nth_7, nth_8, nth_9, y_nil, y_int, y_bool, y_str, y_sl, y_nils, y_agg, y_ownp, y_own, z_nil, z_int, z_bool, z_str, z_sl, z_nils, b_nil, b_arr, b_box1, b_box2, b_box3, b_box4, List.map_cons, List.map_nil, Bool.and_self, Bool.and_true, Bool.true_and, Bool.not_true, Bool.not_false, Bool.or_false, Bool.false_or, cond_true, cond_false, okPack, okPut, okPutBlks, okPutCells, q_isP, q_isAg, q_isBox, q_isArr, q_int, q_bool, q_str, q_sl, q_nils, e_exit, e_ret, e_nrm, e_ret_exit, e_exit_ret, e_nrm_exit, e_nrm_ret, e_exit_nrm, e_ret_nrm, Nat.zero_add, Nat.reduceAdd, noslR, noslP, noslB, noslA, List.all_cons, List.all_nil, okPack, okPut, okPutBlks]
    rw [fin]
    cases l with
    | nil => simp at hb
    | cons x t =>
      cases t with
      | nil =>
        rw [getE_strs (by simp)]
        simp only [List.length_singleton, Int.natCast_one, beq_self_eq_true, bnd_some, ctl_true, ctl_false, ctl_and, ctl_or', ctl_or2, x_toPV, x_toCs, x_toCs2, x_toEs, x_bEs, x_bCs, x_aPV, x_aCs, x_int, x_bool, x_str, x_es, x_esn, nth_0, nth_1, nth_2, nth_3, nth_4, nth_5, nth_6, nth_7, nth_8, nth_9, y_nil, y_int, y_bool, y_str, y_sl, y_nils, y_agg, y_ownp, y_own, z_nil, z_int, z_bool, z_str, z_sl, z_nils, b_nil, b_arr, b_box1, b_box2, b_box3, b_box4, List.map_cons, List.map_nil, Bool.and_self, Bool.and_true, Bool.true_and, Bool.not_true, Bool.not_false, Bool.or_false, Bool.false_or, cond_true, cond_false, okPack, okPut, okPutBlks, okPutCells, q_isP, q_isAg, q_isBox, q_isArr, q_int, q_bool, q_str, q_sl, q_nils, e_exit, e_ret, e_nrm, e_ret_exit, e_exit_ret, e_nrm_exit, e_nrm_ret, e_exit_nrm, e_ret_nrm, Nat.zero_add, Nat.reduceAdd, noslR, noslP, noslB, noslA, List.all_cons, List.all_nil]
        cases x with
        | nil => simp [ctl, bnd]
        | cons y t => simp [ctl, bnd, List.getD]
      | cons y t =>
        have : (((x :: y :: t).length : Int) == 1) = false := by simp; omega
        rw [this]
        simp [ctl, bnd]

end Go.Proofs.YtmlhemkadoadaaaDoor.Vm
