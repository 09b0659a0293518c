/- Contracts of chapter 04: fields, reading. -/
import Derived.Test.YtmlhemkadoadaaaDoorSentD
namespace Go.Proofs.YtmlhemkadoadaaaDoor.Vm
set_option linter.unusedVariables false
set_option linter.unusedSimpArgs false

theorem c_CutPrefix (s p : List UInt8) : denC E 45 [AV.str s, AV.str p] [] = some ([RV.p (PV.str (Lib.trimPrefix s p)), RV.p (PV.bool (Lib.hasPrefix s p))], []) := by
  rw [denC_eq]; kernel_rfl
theorem c_CutSuffix (s p : List UInt8) (h : s.length ≤ 9223372036854775807) : denC E 46 [AV.str s, AV.str p] [] = some ([RV.p (PV.str (Lib.trimSuffix s p)), RV.p (PV.bool (Lib.hasSuffix s p))], []) := by
  rw [denC_eq]
  have : funK E (denC E) 46 [AV.str s, AV.str p] [] = match pCutSuffix [AV.str s, AV.str p] with | some rs => some (rs, []) | none => none := by kernel_rfl
  rw [this]
  unfold pCutSuffix
  simp only [h, if_true]
theorem c_Split (s : List UInt8) (c : UInt8) (h : s.length < 4294967281) : denC E 54 [AV.str s, AV.str [c]] [] = some ([RV.p (PV.sl 1 (strsK (spl c s)))], []) := by
  rw [denC_eq]
  have : funK E (denC E) 54 [AV.str s, AV.str [c]] [] = match pSplit [AV.str s, AV.str [c]] with | some rs => some (rs, []) | none => none := by kernel_rfl
  rw [this]
  unfold pSplit
  simp only [h, if_true]

theorem c_Fields (s : List UInt8) (h : s.length < 4294967281) : denC E 48 [AV.str s] [] = some ([RV.p (PV.sl 1 (strsK (spl 44 s)))], []) := by
  rw [denC_eq, r48, c_Split s 44 h]
  simp only [bnd_some, ctl_true, ctl_false, ctl_and, ctl_or', ctl_or2, x_toPV, x_toCs, x_toCs2, x_toEs, x_bEs, x_bCs, x_aPV, x_aCs, x_int, x_bool, x_str, x_es, x_esn, nth_0, nth_1, nth_2, nth_3, nth_4, nth_5, nth_6, nth_7, nth_8, nth_9, y_nil, y_int, y_bool, y_str, y_sl, y_nils, y_agg, y_ownp, y_own, z_nil, z_int, z_bool, z_str, z_sl, z_nils, b_nil, b_arr, b_box1, b_box2, b_box3, b_box4, List.map_cons, List.map_nil, Bool.and_self, Bool.and_true, Bool.true_and, Bool.not_true, Bool.not_false, Bool.or_false, Bool.false_or, cond_true, cond_false, okPack, okPut, okPutBlks, okPutCells, q_isP, q_isAg, q_isBox, q_isArr, q_int, q_bool, q_str, q_sl, q_nils, e_exit, e_ret, e_nrm, e_ret_exit, e_exit_ret, e_nrm_exit, e_nrm_ret, e_exit_nrm, e_ret_nrm, Nat.zero_add, Nat.reduceAdd, noslR, noslP, noslB, noslA, List.all_cons, List.all_nil]

/-! ### The document's fields -/
/-- The parts so far, with what follows put behind the last one. -/
def splA (done : List (List UInt8)) (cur : List UInt8) (s : List UInt8) : List (List UInt8) := match s with
  | [] => done ++ [cur]
  | b :: l => if b == 44 then splA (done ++ [cur]) [] l else splA done (cur ++ [b]) l
theorem spl_ne' (c : UInt8) (s : List UInt8) : spl c s ≠ [] := by
  cases s with
  | nil => simp [spl]
  | cons b l =>
    unfold spl
    split
    · simp
    · split <;> simp
theorem splA_spl : ∀ (s : List UInt8) (done : List (List UInt8)) (cur : List UInt8), splA done cur s = done ++ (match spl 44 s with | [] => [] | p :: r => (cur ++ p) :: r)
  | [], done, cur => by simp [splA, spl]
  | b :: l, done, cur => by
    have hne := spl_ne' 44 l
    unfold splA spl
    by_cases hb : (b == 44) = true
    · rw [hb, if_pos rfl, if_pos rfl, splA_spl l]
      cases hs : spl 44 l with
      | nil => exact absurd hs hne
      | cons p r => simp
    · have hb' : (b == 44) = false := by simpa using hb
      rw [hb', if_neg (by simp), if_neg (by simp), splA_spl l]
      cases hs : spl 44 l with
      | nil => exact absurd hs hne
      | cons p r => simp

theorem setEs_last (done : List (List UInt8)) (cur x : List UInt8) : setEs (strsK (done ++ [cur])) done.length 0 [PV.str x] = strsK (done ++ [x]) := by
  unfold setEs strsK
  rw [upd_eq]
  have h1 : lay (nth [] (List.map (fun s => [PV.str s]) (done ++ [cur])) done.length) 0 [PV.str x] = [PV.str x] := by
    rw [nth_eq]
    simp [List.getD, lay, lay.go]
  rw [h1]
  simp [List.set_append]
theorem nth_last (done : List (List UInt8)) (cur : List UInt8) : nth [] (strsK (done ++ [cur])) done.length = [PV.str cur] := by
  rw [nth_eq]; simp [strsK, List.getD]
theorem cutI_mid (pre : List UInt8) (b : UInt8) (l : List UInt8) : cutI (pre ++ b :: l) (pre.length : Int) ((pre.length : Int) + 1) = [b] := by
  unfold cutI
  have e : ((pre.length : Int) + 1).toNat = pre.length + 1 := by omega
  rw [e, Int.toNat_natCast, app_cons, List.take_append_of_le_length (by simp), List.take_of_length_le (by simp)]
  simp

theorem l_rFields (l : List UInt8) : ∀ (pre : List UInt8) (done : List (List UInt8)) (cur : List UInt8), (pre ++ l).length ≤ 1000000000 → done.length ≤ pre.length → cur.length ≤ pre.length →
    lp E (denC E) 42 0 [] 0 { vals := [AV.str (pre ++ l), AV.int .i64 pre.length], blks := [Blk.arr 1 (strsK (done ++ [cur]))] } =
    some (Ex.exit 0, { vals := [], blks := [Blk.arr 1 (strsK (splA done cur l))] }) := by
  induction l with
  | nil =>
    intro pre done cur h hd hc
    rw [r42_0, ctl_dec, if_neg (by simp)]
    rfl
  | cons b l ih =>
    intro pre done cur h hd hc
    have hlen : pre.length + 1 ≤ 1000000000 := by simp at h; omega
    have e0 : IntKind.i64.wrap ((pre.length : Int) + 1) = ((pre ++ [b]).length : Int) := by rw [w64 (by omega), len_snoc pre b]
    have e1 : IntKind.i64.wrap (((strsK (done ++ [cur])).length : Int) - 1) = (done.length : Int) := by
      rw [strsK_length, w64 (by simp; omega)]; simp
    rw [r42_0, ctl_dec, if_pos (by simp; omega), in_mid, byteAt_mid]
    have eb : ((b.toNat : Int) == 44) = (b == 44) := b_eq b 44
    rw [eb, e0, e1]
    simp only [ctl_true]
    unfold splA
    cases hb : (b == 44) with
    | true =>
      rw [ctl_true, ctl_dec, if_pos (by rw [strsK_length]; simp; omega)]
      have : strsK (done ++ [cur]) ++ [[PV.str []]] = strsK ((done ++ [cur]) ++ [[]]) := by simp [strsK]
      rw [this, app_cons, ih (pre ++ [b]) (done ++ [cur]) [] (by simpa using h) (by simp; omega) (by simp)]
      rfl
    | false =>
      have h1 : (leB 0 (done.length : Int) && ltB (done.length : Int) ((strsK (done ++ [cur])).length : Int)) = true := by
        have a1 : leB 0 (done.length : Int) = true := decide_eq_true (by omega)
        have a2 : ltB (done.length : Int) ((strsK (done ++ [cur])).length : Int) = true := decide_eq_true (by rw [strsK_length]; simp; omega)
        rw [a1, a2]; rfl
      have h2 : (leB 0 (pre.length : Int) && (leB (pre.length : Int) ((pre ++ [b]).length : Int) && leB ((pre ++ [b]).length : Int) ((pre ++ b :: l).length : Int))) = true := by
        have a1 : leB 0 (pre.length : Int) = true := decide_eq_true (by omega)
        have a2 : leB (pre.length : Int) ((pre ++ [b]).length : Int) = true := decide_eq_true (by simp; omega)
        have a3 : leB ((pre ++ [b]).length : Int) ((pre ++ b :: l).length : Int) = true := decide_eq_true (by simp; omega)
        rw [a1, a2, a3]; rfl
      rw [ctl_false, h1, Int.toNat_natCast, nth_last, h2]
      rw [← len_snoc pre b, cutI_mid, len_snoc pre b]
      have h3 : okCs [Sh.str] (List.take 1 (List.drop 0 [PV.str cur])) = true := rfl
      rw [h3]
      simp only [ctl_true, nth_0, x_str]
      rw [ctl_dec, if_pos (by simp; omega), setEs_last, app_cons, ih (pre ++ [b]) done (cur ++ [b]) (by simpa using h) (by simp; omega) (by simp; omega)]
      rfl

theorem c_rFields (s : List UInt8) (h : s.length ≤ 1000000000) : denC E 42 [AV.str s] [] = some ([RV.p (PV.sl 1 (strsK (spl 44 s)))], []) := by
  rw [denC_eq, r42]
  have := l_rFields s [] [] [] (by simpa using h) (Nat.le_refl _) (Nat.le_refl _)
  simp only [List.nil_append, List.length_nil, Int.natCast_zero] at this
  rw [show ([[PV.str []]] : List (List PV)) = strsK [[]] from rfl, this, splA_spl]
  cases hs : spl 44 s with
  | nil => exact absurd hs (spl_ne' 44 s)
  | cons p r => simp only [bnd_some, ctl_true, ctl_false, ctl_and, ctl_or', ctl_or2, x_toPV, x_toCs, x_toCs2, x_toEs, x_bEs, x_bCs, x_aPV, x_aCs, x_int, x_bool, x_str, x_es, x_esn, nth_0, nth_1, nth_2, nth_3, nth_4, nth_5, nth_6, nth_7, nth_8, nth_9, y_nil, y_int, y_bool, y_str, y_sl, y_nils, y_agg, y_ownp, y_own, z_nil, z_int, z_bool, z_str, z_sl, z_nils, b_nil, b_arr, b_box1, b_box2, b_box3, b_box4, List.map_cons, List.map_nil, Bool.and_self, Bool.and_true, Bool.true_and, Bool.not_true, Bool.not_false, Bool.or_false, Bool.false_or, cond_true, cond_false, okPack, okPut, okPutBlks, okPutCells, q_isP, q_isAg, q_isBox, q_isArr, q_int, q_bool, q_str, q_sl, q_nils, e_exit, e_ret, e_nrm, e_ret_exit, e_exit_ret, e_nrm_exit, e_nrm_ret, e_exit_nrm, e_ret_nrm, Nat.zero_add, Nat.reduceAdd, noslR, noslP, noslB, noslA, List.all_cons, List.all_nil, List.nil_append]

/-! ### The digits -/
def hexv (b : UInt8) : Int := Lib.indexByte digs b
theorem l_hex (b : UInt8) (l : List UInt8) : ∀ (pre : List UInt8), pre ++ l = digs → lp E (denC E) 41 0 [] 0 { vals := [AV.int .u8 b.toNat, AV.int .i64 pre.length], blks := [] } =
    some (bif Lib.indexByte l b == -1 then (Ex.exit 0, { vals := [], blks := [] }) else (Ex.ret, { vals := [AV.int .i64 (pre.length + Lib.indexByte l b)], blks := [] })) := by
  induction l with
  | nil =>
    intro pre h
    have hl : pre.length = 16 := by rw [List.append_nil] at h; rw [h]; rfl
    rw [r41_0, ctl_dec, if_neg (by omega)]
    rfl
  | cons x l ih =>
    intro pre h
    have hl : pre.length + (l.length + 1) = 16 := by have := congrArg List.length h; simpa [digs] using this
    have hd : ([48, 49, 50, 51, 52, 53, 54, 55, 56, 57, 65, 66, 67, 68, 69, 70] : List UInt8) = pre ++ x :: l := h.symm
    have hin : (leB 0 (pre.length : Int) && ltB (pre.length : Int) 16) = true := by
      have a1 : leB 0 (pre.length : Int) = true := decide_eq_true (by omega)
      have a2 : ltB (pre.length : Int) 16 = true := decide_eq_true (by omega)
      rw [a1, a2]; rfl
    have hge := Lib.indexByte_ge l b
    rw [r41_0, ctl_dec, if_pos (by omega), hin, hd, byteAt_mid, b_eq]
    simp only [ctl_true]
    rw [w64 (by omega), len_snoc pre x]
    unfold Lib.indexByte
    cases hb : (x == b) with
    | true => simp [ctl]
    | false =>
      rw [ctl_false, ih (pre ++ [x]) (by rw [← h]; simp)]
      simp only [Bool.false_eq_true, if_false]
      cases hm : (Lib.indexByte l b == -1) with
      | true => simp
      | false =>
        have : (Lib.indexByte l b + 1 == -1) = false := by
          have := (beq_eq_false_iff_ne).1 hm
          exact beq_eq_false_iff_ne.2 (by omega)
        simp only [Bool.false_eq_true, if_false, this, cond_false]
        congr 5
        simp; omega

theorem c_hex (b : UInt8) : denC E 41 [AV.int .u8 b.toNat] [] = some ([RV.p (PV.int .i64 (hexv b))], []) := by
  rw [denC_eq, r41]
  have := l_hex b digs [] rfl
  simp only [List.length_nil] at this
  rw [show (AV.int IntKind.i64 0) = AV.int .i64 ((0 : Nat) : Int) from rfl, this]
  unfold hexv
  cases hm : (Lib.indexByte digs b == -1) with
  | true =>
    have := beq_iff_eq.1 hm
    rw [this]; rfl
  | false =>
    simp only [bnd_some, ctl_true, ctl_false, ctl_and, ctl_or', ctl_or2, x_toPV, x_toCs, x_toCs2, x_toEs, x_bEs, x_bCs, x_aPV, x_aCs, x_int, x_bool, x_str, x_es, x_esn, nth_0, nth_1, nth_2, nth_3, nth_4, nth_5, nth_6, nth_7, nth_8, nth_9, y_nil, y_int, y_bool, y_str, y_sl, y_nils, y_agg, y_ownp, y_own, z_nil, z_int, z_bool, z_str, z_sl, z_nils, b_nil, b_arr, b_box1, b_box2, b_box3, b_box4, List.map_cons, List.map_nil, Bool.and_self, Bool.and_true, Bool.true_and, Bool.not_true, Bool.not_false, Bool.or_false, Bool.false_or, cond_true, cond_false, okPack, okPut, okPutBlks, okPutCells, q_isP, q_isAg, q_isBox, q_isArr, q_int, q_bool, q_str, q_sl, q_nils, e_exit, e_ret, e_nrm, e_ret_exit, e_exit_ret, e_nrm_exit, e_nrm_ret, e_exit_nrm, e_ret_nrm, Nat.zero_add, Nat.reduceAdd, noslR, noslP, noslB, noslA, List.all_cons, List.all_nil, Int.natCast_zero, Int.zero_add]

/-! ### Reading -/
/-- The parts of a text of the right form. -/
def splitS (b : List UInt8) : Option (List UInt8 × UInt8 × UInt8) :=
  if 6 ≤ b.length ∧ b.getD 0 0 = 36 ∧ b.getD (b.length - 5) 0 = 42 ∧ 0 ≤ hexv (b.getD (b.length - 4) 0) ∧ 0 ≤ hexv (b.getD (b.length - 3) 0) ∧ b.getD (b.length - 2) 0 = 13 ∧ b.getD (b.length - 1) 0 = 10
  then some ((b.drop 1).take (b.length - 6), b.getD (b.length - 4) 0, b.getD (b.length - 3) 0) else none

def prs (b : List UInt8) : PV × Int :=
  if 200 < b.length then (.nils, 2) else
  match splitS b with
  | none => (.nils, 3)
  | some (body, x, y) => if validB (spl 44 body) = true then (if ((sumB body).toNat : Int) = 16 * hexv x + hexv y then (.sl 1 (strsK (spl 44 body)), 0) else (.nils, 4)) else (.nils, 3)

theorem six {b : List UInt8} (h : 6 ≤ b.length) : ∃ c body p x y q r, b = c :: (body ++ [p, x, y, q, r]) := by
  cases b with
  | nil => simp at h
  | cons c t =>
    have ht : 5 ≤ t.length := by simpa using h
    refine ⟨c, t.take (t.length - 5), t.getD (t.length - 5) 0, t.getD (t.length - 4) 0, t.getD (t.length - 3) 0, t.getD (t.length - 2) 0, t.getD (t.length - 1) 0, ?_⟩
    congr 1
    have h1 : t = t.take (t.length - 5) ++ t.drop (t.length - 5) := (List.take_append_drop _ _).symm
    have h2 : ∀ d : List UInt8, d.length = 5 → d = [d.getD 0 0, d.getD 1 0, d.getD 2 0, d.getD 3 0, d.getD 4 0] := fun d hd => by
      match d, hd with
      | [a, b, c, d, e], _ => rfl
    have h3 := h2 (t.drop (t.length - 5)) (by simp; omega)
    have h4 : ∀ k, k < 5 → (t.drop (t.length - 5)).getD k 0 = t.getD (t.length - 5 + k) 0 := fun k hk => by simp [List.getD]
    rw [h4 0 (by omega), h4 1 (by omega), h4 2 (by omega), h4 3 (by omega), h4 4 (by omega)] at h3
    rw [show t.length - 5 + 0 = t.length - 5 by omega, show t.length - 5 + 1 = t.length - 4 by omega, show t.length - 5 + 2 = t.length - 3 by omega, show t.length - 5 + 3 = t.length - 2 by omega, show t.length - 5 + 4 = t.length - 1 by omega] at h3
    rw [← h3]
    exact h1

section
variable (c : UInt8) (body : List UInt8) (p x y q r : UInt8)
theorem sx_len : (c :: (body ++ [p, x, y, q, r])).length = body.length + 6 := by simp
theorem sx_at (k : Nat) : (c :: (body ++ [p, x, y, q, r])).getD (body.length + 1 + k) 0 = [p, x, y, q, r].getD k 0 := by
  rw [show body.length + 1 + k = (body.length + k) + 1 by omega, List.getD_cons_succ]
  simp only [List.getD_eq_getElem?_getD]
  rw [List.getElem?_append_right (by omega), Nat.add_sub_cancel_left]
theorem splitS_six : splitS (c :: (body ++ [p, x, y, q, r])) = if c = 36 ∧ p = 42 ∧ 0 ≤ hexv x ∧ 0 ≤ hexv y ∧ q = 13 ∧ r = 10 then some (body, x, y) else none := by
  unfold splitS
  rw [sx_len]
  have e0 : (c :: (body ++ [p, x, y, q, r])).getD 0 0 = c := rfl
  have e1 := sx_at c body p x y q r 0
  have e2 := sx_at c body p x y q r 1
  have e3 := sx_at c body p x y q r 2
  have e4 := sx_at c body p x y q r 3
  have e5 := sx_at c body p x y q r 4
  rw [show body.length + 6 - 5 = body.length + 1 + 0 by omega, show body.length + 6 - 4 = body.length + 1 + 1 by omega, show body.length + 6 - 3 = body.length + 1 + 2 by omega,
    show body.length + 6 - 2 = body.length + 1 + 3 by omega, show body.length + 6 - 1 = body.length + 1 + 4 by omega, show body.length + 6 - 6 = body.length by omega, e0, e1, e2, e3, e4, e5]
  have e6 : ((c :: (body ++ [p, x, y, q, r])).drop 1).take body.length = body := by simp
  rw [e6]
  have h6 : 6 ≤ body.length + 6 := by omega
  simp [h6]
end

end Go.Proofs.YtmlhemkadoadaaaDoor.Vm
