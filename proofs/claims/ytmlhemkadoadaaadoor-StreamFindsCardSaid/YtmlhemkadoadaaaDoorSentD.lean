/- Contracts of chapter 04: sums, texts, formats. -/
import Derived.Test.YtmlhemkadoadaaaDoorSentC
namespace Go.Proofs.YtmlhemkadoadaaaDoor.Vm
set_option linter.unusedVariables false
set_option linter.unusedSimpArgs false

/-! ### Sums -/
def sumB (s : List UInt8) : UInt8 := s.foldl (· ^^^ ·) 0

theorem xor8 (x b : UInt8) : IntKind.u8.wrap (((BitVec.ofInt 8 (x.toNat : Int) ^^^ BitVec.ofInt 8 (b.toNat : Int)).toNat : Nat) : Int) = ((x ^^^ b).toNat : Int) := by
  have h1 : ∀ y : UInt8, BitVec.ofInt 8 (y.toNat : Int) = y.toBitVec := fun y => by
    apply BitVec.eq_of_toNat_eq
    have := y.toNat_lt
    simp
  rw [h1, h1]
  have h2 : (x ^^^ b).toNat = (x.toBitVec ^^^ b.toBitVec).toNat := rfl
  rw [← h2]
  have := (x ^^^ b).toNat_lt
  exact IntWalk.u8_in _ (by omega)

theorem l_Sum (l : List UInt8) : ∀ (pre : List UInt8) (x : UInt8), (pre ++ l).length ≤ 1000000000000 → lp E (denC E) 58 0 [] 0 { vals := [AV.int .u8 x.toNat, AV.sl 1 (byteEs (pre ++ l)), AV.int .i64 (pre ++ l).length, AV.int .i64 pre.length], blks := [] } =
    some (Ex.exit 0, { vals := [AV.int .u8 ((l.foldl (· ^^^ ·) x).toNat : Int)], blks := [] }) := by
  induction l with
  | nil =>
    intro pre x h
    rw [r58_0, ctl_dec, if_neg (by simp)]
    rfl
  | cons b l ih =>
    intro pre x h
    rw [r58_0, ctl_dec, if_pos (by simp; omega), getE_bytes (by simp; omega)]
    simp only [Int.toNat_natCast, getD_mid, bnd_some, ctl_true, ctl_false, ctl_and, ctl_or', ctl_or2, x_toPV, x_toCs, x_toCs2, x_toEs, x_bEs, x_bCs, x_aPV, x_aCs, x_int, x_bool, x_str, x_es, x_esn, nth_0, nth_1, nth_2, nth_3, nth_4, nth_5, nth_6, nth_7, nth_8, nth_9, y_nil, y_int, y_bool, y_str, y_sl, y_nils, y_agg, y_ownp, y_own, z_nil, z_int, z_bool, z_str, z_sl, z_nils, b_nil, b_arr, b_box1, b_box2, b_box3, b_box4, List.map_cons, List.map_nil, Bool.and_self, Bool.and_true, Bool.true_and, Bool.not_true, Bool.not_false, Bool.or_false, Bool.false_or, cond_true, cond_false, okPack, okPut, okPutBlks, okPutCells, q_isP, q_isAg, q_isBox, q_isArr, q_int, q_bool, q_str, q_sl, q_nils, e_exit, e_ret, e_nrm, e_ret_exit, e_exit_ret, e_nrm_exit, e_nrm_ret, e_exit_nrm, e_ret_nrm, Nat.zero_add, Nat.reduceAdd, noslR, noslP, noslB, noslA, List.all_cons, List.all_nil]
    rw [xor8, w64 (by simp at h; omega), len_snoc pre b, app_cons, ih (pre ++ [b]) (x ^^^ b) (by simpa using h)]
    rfl

theorem c_Sum (s : List UInt8) (h : s.length ≤ 1000000000000) : denC E 58 [AV.sl 1 (byteEs s)] [] = some ([RV.p (PV.int .u8 (sumB s).toNat)], []) := by
  rw [denC_eq, r58, byteEs_length]
  have := l_Sum s [] 0 (by simpa using h)
  simp only [List.nil_append, List.length_nil] at this
  rw [show (AV.int IntKind.u8 0) = AV.int .u8 (((0 : UInt8).toNat : Nat) : Int) from rfl, show (AV.int IntKind.i64 0) = AV.int .i64 ((0 : Nat) : Int) from rfl, this]
  simp only [bnd_some, ctl_true, ctl_false, ctl_and, ctl_or', ctl_or2, x_toPV, x_toCs, x_toCs2, x_toEs, x_bEs, x_bCs, x_aPV, x_aCs, x_int, x_bool, x_str, x_es, x_esn, nth_0, nth_1, nth_2, nth_3, nth_4, nth_5, nth_6, nth_7, nth_8, nth_9, y_nil, y_int, y_bool, y_str, y_sl, y_nils, y_agg, y_ownp, y_own, z_nil, z_int, z_bool, z_str, z_sl, z_nils, b_nil, b_arr, b_box1, b_box2, b_box3, b_box4, List.map_cons, List.map_nil, Bool.and_self, Bool.and_true, Bool.true_and, Bool.not_true, Bool.not_false, Bool.or_false, Bool.false_or, cond_true, cond_false, okPack, okPut, okPutBlks, okPutCells, q_isP, q_isAg, q_isBox, q_isArr, q_int, q_bool, q_str, q_sl, q_nils, e_exit, e_ret, e_nrm, e_ret_exit, e_exit_ret, e_nrm_exit, e_nrm_ret, e_exit_nrm, e_ret_nrm, Nat.zero_add, Nat.reduceAdd, noslR, noslP, noslB, noslA, List.all_cons, List.all_nil]
  rfl

theorem l_rSum (l : List UInt8) : ∀ (pre : List UInt8) (x : UInt8), (pre ++ l).length ≤ 1000000000000 → lp E (denC E) 31 0 [] 0 { vals := [AV.int .u8 x.toNat, AV.sl 1 (byteEs (pre ++ l)), AV.int .i64 (pre ++ l).length, AV.int .i64 pre.length], blks := [] } =
    some (Ex.exit 0, { vals := [AV.int .u8 ((l.foldl (· ^^^ ·) x).toNat : Int)], blks := [] }) := by
  induction l with
  | nil =>
    intro pre x h
    rw [r31_0, ctl_dec, if_neg (by simp)]
    rfl
  | cons b l ih =>
    intro pre x h
    rw [r31_0, ctl_dec, if_pos (by simp; omega), getE_bytes (by simp; omega)]
    simp only [Int.toNat_natCast, getD_mid, bnd_some, ctl_true, ctl_false, ctl_and, ctl_or', ctl_or2, x_toPV, x_toCs, x_toCs2, x_toEs, x_bEs, x_bCs, x_aPV, x_aCs, x_int, x_bool, x_str, x_es, x_esn, nth_0, nth_1, nth_2, nth_3, nth_4, nth_5, nth_6, nth_7, nth_8, nth_9, y_nil, y_int, y_bool, y_str, y_sl, y_nils, y_agg, y_ownp, y_own, z_nil, z_int, z_bool, z_str, z_sl, z_nils, b_nil, b_arr, b_box1, b_box2, b_box3, b_box4, List.map_cons, List.map_nil, Bool.and_self, Bool.and_true, Bool.true_and, Bool.not_true, Bool.not_false, Bool.or_false, Bool.false_or, cond_true, cond_false, okPack, okPut, okPutBlks, okPutCells, q_isP, q_isAg, q_isBox, q_isArr, q_int, q_bool, q_str, q_sl, q_nils, e_exit, e_ret, e_nrm, e_ret_exit, e_exit_ret, e_nrm_exit, e_nrm_ret, e_exit_nrm, e_ret_nrm, Nat.zero_add, Nat.reduceAdd, noslR, noslP, noslB, noslA, List.all_cons, List.all_nil]
    rw [xor8, w64 (by simp at h; omega), len_snoc pre b, app_cons, ih (pre ++ [b]) (x ^^^ b) (by simpa using h)]
    rfl

theorem c_rSum (s : List UInt8) (h : s.length ≤ 1000000000000) : denC E 31 [AV.sl 1 (byteEs s)] [] = some ([RV.p (PV.int .u8 (sumB s).toNat)], []) := by
  rw [denC_eq, r31, byteEs_length]
  have := l_rSum s [] 0 (by simpa using h)
  simp only [List.nil_append, List.length_nil] at this
  rw [show (AV.int IntKind.u8 0) = AV.int .u8 (((0 : UInt8).toNat : Nat) : Int) from rfl, show (AV.int IntKind.i64 0) = AV.int .i64 ((0 : Nat) : Int) from rfl, this]
  simp only [bnd_some, ctl_true, ctl_false, ctl_and, ctl_or', ctl_or2, x_toPV, x_toCs, x_toCs2, x_toEs, x_bEs, x_bCs, x_aPV, x_aCs, x_int, x_bool, x_str, x_es, x_esn, nth_0, nth_1, nth_2, nth_3, nth_4, nth_5, nth_6, nth_7, nth_8, nth_9, y_nil, y_int, y_bool, y_str, y_sl, y_nils, y_agg, y_ownp, y_own, z_nil, z_int, z_bool, z_str, z_sl, z_nils, b_nil, b_arr, b_box1, b_box2, b_box3, b_box4, List.map_cons, List.map_nil, Bool.and_self, Bool.and_true, Bool.true_and, Bool.not_true, Bool.not_false, Bool.or_false, Bool.false_or, cond_true, cond_false, okPack, okPut, okPutBlks, okPutCells, q_isP, q_isAg, q_isBox, q_isArr, q_int, q_bool, q_str, q_sl, q_nils, e_exit, e_ret, e_nrm, e_ret_exit, e_exit_ret, e_nrm_exit, e_nrm_ret, e_exit_nrm, e_ret_nrm, Nat.zero_add, Nat.reduceAdd, noslR, noslP, noslB, noslA, List.all_cons, List.all_nil]
  rfl

/-! ### The text of a body -/
def digs : List UInt8 := [48, 49, 50, 51, 52, 53, 54, 55, 56, 57, 65, 66, 67, 68, 69, 70]
def hexd (n : Nat) : UInt8 := digs.getD n 0
def txt (body : List UInt8) : List UInt8 := 36 :: (body ++ [42, hexd ((sumB body).toNat / 16), hexd ((sumB body).toNat % 16), 13, 10])
theorem txt_length (body : List UInt8) : (txt body).length = body.length + 6 := by simp [txt]

theorem hi_cut : ∀ n : Nat, n < 256 → (leB 0 ((n : Int).fdiv 16) && (leB ((n : Int).fdiv 16) (IntKind.u8.wrap ((n : Int).fdiv 16 + 1)) && leB (IntKind.u8.wrap ((n : Int).fdiv 16 + 1)) 16)) = true ∧
    cutI digs ((n : Int).fdiv 16) (IntKind.u8.wrap ((n : Int).fdiv 16 + 1)) = [hexd (n / 16)] := by decide +kernel
theorem lo_cut : ∀ n : Nat, n < 256 → (true && (leB (IntKind.u8.wrap (((BitVec.ofInt 8 (n : Int) &&& BitVec.ofInt 8 15).toNat : Nat) : Int)) (IntKind.u8.wrap (IntKind.u8.wrap (((BitVec.ofInt 8 (n : Int) &&& BitVec.ofInt 8 15).toNat : Nat) : Int) + 1)) && leB (IntKind.u8.wrap (IntKind.u8.wrap (((BitVec.ofInt 8 (n : Int) &&& BitVec.ofInt 8 15).toNat : Nat) : Int) + 1)) 16)) = true ∧
    cutI digs (IntKind.u8.wrap (((BitVec.ofInt 8 (n : Int) &&& BitVec.ofInt 8 15).toNat : Nat) : Int)) (IntKind.u8.wrap (IntKind.u8.wrap (((BitVec.ofInt 8 (n : Int) &&& BitVec.ofInt 8 15).toNat : Nat) : Int) + 1)) = [hexd (n % 16)] := by decide +kernel

theorem c_text (body : List UInt8) (h : body.length ≤ 1000000000000) : denC E 50 [AV.str body] [] = some ([RV.p (PV.sl 1 (byteEs (txt body)))], []) := by
  rw [denC_eq, r50, c_Sum body h]
  simp only [bnd_some, ctl_true, ctl_false, ctl_and, ctl_or', ctl_or2, x_toPV, x_toCs, x_toCs2, x_toEs, x_bEs, x_bCs, x_aPV, x_aCs, x_int, x_bool, x_str, x_es, x_esn, nth_0, nth_1, nth_2, nth_3, nth_4, nth_5, nth_6, nth_7, nth_8, nth_9, y_nil, y_int, y_bool, y_str, y_sl, y_nils, y_agg, y_ownp, y_own, z_nil, z_int, z_bool, z_str, z_sl, z_nils, b_nil, b_arr, b_box1, b_box2, b_box3, b_box4, List.map_cons, List.map_nil, Bool.and_self, Bool.and_true, Bool.true_and, Bool.not_true, Bool.not_false, Bool.or_false, Bool.false_or, cond_true, cond_false, okPack, okPut, okPutBlks, okPutCells, q_isP, q_isAg, q_isBox, q_isArr, q_int, q_bool, q_str, q_sl, q_nils, e_exit, e_ret, e_nrm, e_ret_exit, e_exit_ret, e_nrm_exit, e_nrm_ret, e_exit_nrm, e_ret_nrm, Nat.zero_add, Nat.reduceAdd, noslR, noslP, noslB, noslA, List.all_cons, List.all_nil]
  have hlt := (sumB body).toNat_lt
  obtain ⟨h1, h2⟩ := hi_cut (sumB body).toNat (by omega)
  obtain ⟨h3, h4⟩ := lo_cut (sumB body).toNat (by omega)
  have hd : ([48, 49, 50, 51, 52, 53, 54, 55, 56, 57, 65, 66, 67, 68, 69, 70] : List UInt8) = digs := rfl
  rw [hd, h1, h2]
  rw [Bool.true_and] at h3
  rw [h3, h4]
  simp only [ctl_true]
  rw [ctl_dec, if_pos (by omega), ctl_dec, if_pos (by simp; omega), ctl_dec, if_pos (by simp; omega), ctl_dec, if_pos (by simp; omega), ctl_dec, if_pos (by simp; omega)]
  unfold txt
  simp only [List.append_assoc, List.cons_append, List.nil_append]

/-! ### Joined -/
theorem join_snoc (pre : List (List UInt8)) (b : List UInt8) : Lib.join (pre ++ [b]) [44] = match pre with | [] => b | _ :: _ => Lib.join pre [44] ++ ([44] ++ b) := by
  cases pre with
  | nil => exact Lib.join_one b [44]
  | cons x r =>
    rw [List.cons_append, Lib.join_cons, Lib.join_cons]
    simp [Lib.joinTail]

def totB (l : List (List UInt8)) : Nat := (l.map List.length).sum
theorem join_len (l : List (List UInt8)) : (Lib.join l [44]).length ≤ totB l + l.length := by
  cases l with
  | nil => simp [Lib.join_nil, totB]
  | cons x r =>
    rw [Lib.join_cons]
    have : ∀ r : List (List UInt8), (Lib.joinTail [44] r).length = totB r + r.length := fun r => by
      induction r with
      | nil => rfl
      | cons y r ih =>
        simp only [Lib.joinTail, List.map_cons, List.flatten_cons, List.length_append] at ih ⊢
        simp only [totB, List.map_cons, List.sum_cons, List.length_cons] at ih ⊢
        simp at ih ⊢
        omega
    rw [List.length_append, this r]
    simp only [totB, List.map_cons, List.sum_cons, List.length_cons]
    omega

theorem tot_valid {l : List (List UInt8)} (h : validB l = true) : l.length ≤ 16 ∧ totB l ≤ 20 * l.length := by
  unfold validB at h
  simp only [Bool.and_eq_true, decide_eq_true_eq] at h
  obtain ⟨⟨⟨h1, h2⟩, h3⟩, _⟩ := h
  refine ⟨by omega, ?_⟩
  have : ∀ l : List (List UInt8), l.all fldB = true → totB l ≤ 20 * l.length := fun l hl => by
    induction l with
    | nil => simp [totB]
    | cons x r ih =>
      simp only [List.all_cons, Bool.and_eq_true] at hl
      have hx := hl.1
      unfold fldB at hx
      simp only [Bool.and_eq_true, Bool.not_eq_true', decide_eq_false_iff_not] at hx
      have := ih hl.2
      simp only [totB, List.map_cons, List.sum_cons, List.length_cons] at this ⊢
      omega
  exact this l h3

def frm (l : List (List UInt8)) : List UInt8 × Int := if validB l = true then (if 200 < (txt (Lib.join l [44])).length then ([], 2) else (txt (Lib.join l [44]), 0)) else ([], 3)

/-! ### The document's format -/
theorem byteEs_app (a b : List UInt8) : byteEs (a ++ b) = byteEs a ++ byteEs b := by simp [byteEs]

theorem l_rFormat (l : List (List UInt8)) : ∀ (pre : List (List UInt8)), totB (pre ++ l) + (pre ++ l).length ≤ 1000000000000 → lp E (denC E) 16 0 [] 0 { vals := [AV.sl 1 (strsK (pre ++ l)), AV.int .i64 (pre ++ l).length, AV.int .i64 pre.length], blks := [Blk.arr 1 (byteEs (Lib.join pre [44]))] } =
    some (Ex.exit 0, { vals := [], blks := [Blk.arr 1 (byteEs (Lib.join (pre ++ l) [44]))] }) := by
  induction l with
  | nil =>
    intro pre h
    rw [r16_0, ctl_dec, if_neg (by simp), List.append_nil]
  | cons b l ih =>
    intro pre h
    have h0 : totB (pre ++ [b]) + (pre ++ [b]).length ≤ totB (pre ++ b :: l) + (pre ++ b :: l).length := by
      simp only [totB, List.map_append, List.map_cons, List.map_nil, List.sum_append, List.sum_cons, List.sum_nil, List.length_append, List.length_cons, List.length_nil]
      omega
    have hj := join_len (pre ++ [b])
    have hj0 := join_len pre
    have hb : totB (pre ++ [b]) = totB pre + b.length := by simp [totB]
    have ihp := ih (pre ++ [b]) (by simpa using h)
    rw [r16_0, ctl_dec, if_pos (by simp; omega), getE_strs (by simp; omega)]
    simp only [Int.toNat_natCast, getD_mid, bnd_some, ctl_true, ctl_false, ctl_and, ctl_or', ctl_or2, x_toPV, x_toCs, x_toCs2, x_toEs, x_bEs, x_bCs, x_aPV, x_aCs, x_int, x_bool, x_str, x_es, x_esn, nth_0, nth_1, nth_2, nth_3, nth_4, nth_5, nth_6, nth_7, nth_8, nth_9, y_nil, y_int, y_bool, y_str, y_sl, y_nils, y_agg, y_ownp, y_own, z_nil, z_int, z_bool, z_str, z_sl, z_nils, b_nil, b_arr, b_box1, b_box2, b_box3, b_box4, List.map_cons, List.map_nil, Bool.and_self, Bool.and_true, Bool.true_and, Bool.not_true, Bool.not_false, Bool.or_false, Bool.false_or, cond_true, cond_false, okPack, okPut, okPutBlks, okPutCells, q_isP, q_isAg, q_isBox, q_isArr, q_int, q_bool, q_str, q_sl, q_nils, e_exit, e_ret, e_nrm, e_ret_exit, e_exit_ret, e_nrm_exit, e_nrm_ret, e_exit_nrm, e_ret_nrm, Nat.zero_add, Nat.reduceAdd, noslR, noslP, noslB, noslA, List.all_cons, List.all_nil]
    rw [w64 (by simp at h; omega), len_snoc pre b, ctl_dec]
    rw [join_snoc] at ihp
    cases pre with
    | nil =>
      rw [if_neg (by simp), ctl_dec, if_pos (by simp only [Lib.join_nil, byteEs, List.map_nil, List.length_nil, List.length_map]; simp at h0 hj hb h; omega)]
      simp only [Lib.join_nil] at ihp ⊢
      have e : byteEs ([] : List UInt8) ++ byteEs b = byteEs b := by simp [byteEs]
      rw [e]
      simpa using ihp
    | cons x r =>
      simp only [List.length_append, List.length_cons, List.length_nil] at h0 hj hj0 hb h
      rw [if_pos (by simp only [List.length_cons]; omega), ctl_dec, if_pos (by rw [byteEs_length]; omega), ctl_dec, if_pos (by simp only [List.length_append, byteEs_length, List.length_singleton]; omega)]
      simp only at ihp
      have e : byteEs (Lib.join (x :: r) [44]) ++ [[PV.int IntKind.u8 44]] ++ byteEs b = byteEs (Lib.join (x :: r) [44] ++ ([44] ++ b)) := by
        rw [byteEs_app, byteEs_app, List.append_assoc]; rfl
      rw [e]
      rw [app_cons]
      exact ihp

theorem hi_at : ∀ n : Nat, n < 256 → (leB 0 (IntKind.u8.wrap ((n : Int).tdiv 16)) && ltB (IntKind.u8.wrap ((n : Int).tdiv 16)) 16) = true ∧ byteAt digs (IntKind.u8.wrap ((n : Int).tdiv 16)) = ((hexd (n / 16)).toNat : Int) := by decide +kernel
theorem lo_at : ∀ n : Nat, n < 256 → (leB 0 ((n : Int).tmod 16) && ltB ((n : Int).tmod 16) 16) = true ∧ byteAt digs ((n : Int).tmod 16) = ((hexd (n % 16)).toNat : Int) := by decide +kernel

theorem noslE_bytes (s : List UInt8) : ((byteEs s).all fun e => e.all noslP) = true := by
  refine List.all_eq_true.2 fun e he => ?_
  obtain ⟨b, _, rfl⟩ := List.mem_map.1 he
  rfl

theorem c_rFormat (l : List (List UInt8)) (h : l.length ≤ 100000) : denC E 16 [AV.agg [PV.sl 1 (strsK l)]] [] = some ([RV.p (PV.sl 1 (byteEs (frm l).1)), RV.p (PV.int .i64 (frm l).2)], []) := by
  rw [denC_eq, r16, c_rValid l h]
  simp only [bnd_some, y_bool, y_nil, b_nil, Bool.and_self, ctl_true, nth_0, x_toPV, x_bool]
  unfold frm
  cases hv : validB l with
  | false => simp [ctl, byteEs]
  | true =>
    obtain ⟨h1, h2⟩ := tot_valid hv
    have h3 := join_len l
    have hl := l_rFormat l [] (by simp; omega)
    simp only [List.nil_append, List.length_nil, Lib.join_nil] at hl
    simp only [Bool.not_true, ctl_false, if_true]
    rw [strsK_length, show (AV.int IntKind.i64 0) = AV.int .i64 ((0 : Nat) : Int) from rfl, show (Blk.arr 1 []) = Blk.arr 1 (byteEs []) from rfl, hl]
    simp only [bnd_some, ctl_true, ctl_false, ctl_and, ctl_or', ctl_or2, x_toPV, x_toCs, x_toCs2, x_toEs, x_bEs, x_bCs, x_aPV, x_aCs, x_int, x_bool, x_str, x_es, x_esn, nth_0, nth_1, nth_2, nth_3, nth_4, nth_5, nth_6, nth_7, nth_8, nth_9, y_nil, y_int, y_bool, y_str, y_sl, y_nils, y_agg, y_ownp, y_own, z_nil, z_int, z_bool, z_str, z_sl, z_nils, b_nil, b_arr, b_box1, b_box2, b_box3, b_box4, List.map_cons, List.map_nil, Bool.and_self, Bool.and_true, Bool.true_and, Bool.not_true, Bool.not_false, Bool.or_false, Bool.false_or, cond_true, cond_false, okPack, okPut, okPutBlks, okPutCells, q_isP, q_isAg, q_isBox, q_isArr, q_int, q_bool, q_str, q_sl, q_nils, e_exit, e_ret, e_nrm, e_ret_exit, e_exit_ret, e_nrm_exit, e_nrm_ret, e_exit_nrm, e_ret_nrm, Nat.zero_add, Nat.reduceAdd, noslR, noslP, noslB, noslA, List.all_cons, List.all_nil]
    rw [c_rSum _ (by omega)]
    simp only [bnd_some, ctl_true, ctl_false, ctl_and, ctl_or', ctl_or2, x_toPV, x_toCs, x_toCs2, x_toEs, x_bEs, x_bCs, x_aPV, x_aCs, x_int, x_bool, x_str, x_es, x_esn, nth_0, nth_1, nth_2, nth_3, nth_4, nth_5, nth_6, nth_7, nth_8, nth_9, y_nil, y_int, y_bool, y_str, y_sl, y_nils, y_agg, y_ownp, y_own, z_nil, z_int, z_bool, z_str, z_sl, z_nils, b_nil, b_arr, b_box1, b_box2, b_box3, b_box4, List.map_cons, List.map_nil, Bool.and_self, Bool.and_true, Bool.true_and, Bool.not_true, Bool.not_false, Bool.or_false, Bool.false_or, cond_true, cond_false, okPack, okPut, okPutBlks, okPutCells, q_isP, q_isAg, q_isBox, q_isArr, q_int, q_bool, q_str, q_sl, q_nils, e_exit, e_ret, e_nrm, e_ret_exit, e_exit_ret, e_nrm_exit, e_nrm_ret, e_exit_nrm, e_ret_nrm, Nat.zero_add, Nat.reduceAdd, noslR, noslP, noslB, noslA, List.all_cons, List.all_nil]
    have hlt := (sumB (Lib.join l [44])).toNat_lt
    obtain ⟨g1, g2⟩ := hi_at (sumB (Lib.join l [44])).toNat (by omega)
    obtain ⟨g3, g4⟩ := lo_at (sumB (Lib.join l [44])).toNat (by omega)
    have hd : ([48, 49, 50, 51, 52, 53, 54, 55, 56, 57, 65, 66, 67, 68, 69, 70] : List UInt8) = digs := rfl
    rw [hd, g1, g3, g2, g4]
    simp only [ctl_true]
    have e : ([[PV.int IntKind.u8 36]] ++ byteEs (Lib.join l [44]) ++ [[PV.int IntKind.u8 42], [PV.int IntKind.u8 ((hexd ((sumB (Lib.join l [44])).toNat / 16)).toNat : Int)], [PV.int IntKind.u8 ((hexd ((sumB (Lib.join l [44])).toNat % 16)).toNat : Int)], [PV.int IntKind.u8 13], [PV.int IntKind.u8 10]]) = byteEs (txt (Lib.join l [44])) := by
      unfold txt
      simp [byteEs]
    rw [e, ctl_dec, if_pos (by simp only [byteEs_length]; omega), ctl_dec, if_pos (by simp only [List.length_append, byteEs_length, List.length_singleton]; omega), ctl_dec, byteEs_length]
    by_cases hl : 200 < (txt (Lib.join l [44])).length
    · rw [if_pos (by omega), if_pos hl]; rfl
    · rw [if_neg (by omega), if_neg hl]

end Go.Proofs.YtmlhemkadoadaaaDoor.Vm
