import Derived.Test.YtcopadohnlcheaaDoorSentD
/- Contracts of chapter 04: fields, reading. -/
namespace Go.Proofs.YtcopadohnlcheaaDoor.Vm
set_option linter.unusedVariables false
set_option linter.unusedSimpArgs false

/-! ### The document's fields -/
/-- The parts so far, with what follows put behind the last one. -/
def splA (done : List (List UInt8)) (cur : List UInt8) (s : List UInt8) : List (List UInt8) := match s with
  | [] => done ++ [cur]
  | b :: l => if b == 44 then splA (done ++ [cur]) [] l else splA done (cur ++ [b]) l
theorem spl_ne' (c : UInt8) (s : List UInt8) : spl c s ≠ [] := by
  cases s with
  | nil => simp [spl]
  | cons b l =>
    unfold spl
    split
    · simp
    · split <;> simp
theorem splA_spl : ∀ (s : List UInt8) (done : List (List UInt8)) (cur : List UInt8), splA done cur s = done ++ (match spl 44 s with | [] => [] | p :: r => (cur ++ p) :: r)
  | [], done, cur => by simp [splA, spl]
  | b :: l, done, cur => by
    have hne := spl_ne' 44 l
    unfold splA spl
    by_cases hb : (b == 44) = true
    · rw [hb, if_pos rfl, if_pos rfl, splA_spl l]
      cases hs : spl 44 l with
      | nil => exact absurd hs hne
      | cons p r => simp
    · have hb' : (b == 44) = false := by simpa using hb
      rw [hb', if_neg (by simp), if_neg (by simp), splA_spl l]
      cases hs : spl 44 l with
      | nil => exact absurd hs hne
      | cons p r => simp

theorem setEs_last (done : List (List UInt8)) (cur x : List UInt8) : setEs (strsK (done ++ [cur])) done.length 0 [PV.str x] = strsK (done ++ [x]) := by
  unfold setEs strsK
  rw [upd_eq]
  have h1 : lay (nth [] (List.map (fun s => [PV.str s]) (done ++ [cur])) done.length) 0 [PV.str x] = [PV.str x] := by
    rw [nth_eq]
    simp [List.getD, lay, lay.go]
  rw [h1]
  simp [List.set_append]
theorem nth_last (done : List (List UInt8)) (cur : List UInt8) : nth [] (strsK (done ++ [cur])) done.length = [PV.str cur] := by
  rw [nth_eq]; simp [strsK, List.getD]
theorem cutI_mid (pre : List UInt8) (b : UInt8) (l : List UInt8) : cutI (pre ++ b :: l) (pre.length : Int) ((pre.length : Int) + 1) = [b] := by
  unfold cutI
  have e : ((pre.length : Int) + 1).toNat = pre.length + 1 := by omega
  rw [e, Int.toNat_natCast, app_cons, List.take_append_of_le_length (by simp), List.take_of_length_le (by simp)]
  simp

theorem l_rFields (l : List UInt8) : ∀ (pre : List UInt8) (done : List (List UInt8)) (cur : List UInt8), (pre ++ l).length ≤ 1000000000 → done.length ≤ pre.length → cur.length ≤ pre.length →
    lp E (denC E) 46 0 [] 0 { vals := [AV.str (pre ++ l), AV.int .i64 pre.length], blks := [Blk.arr 1 (strsK (done ++ [cur]))] } =
    some (Ex.exit 0, { vals := [], blks := [Blk.arr 1 (strsK (splA done cur l))] }) := by
  induction l with
  | nil =>
    intro pre done cur h hd hc
    rw [r46_0, ctl_dec, if_neg (by simp)]
    rfl
  | cons b l ih =>
    intro pre done cur h hd hc
    have hlen : pre.length + 1 ≤ 1000000000 := by simp at h; omega
    have e0 : IntKind.i64.wrap ((pre.length : Int) + 1) = ((pre ++ [b]).length : Int) := by rw [w64 (by omega), len_snoc pre b]
    have e1 : IntKind.i64.wrap (((strsK (done ++ [cur])).length : Int) - 1) = (done.length : Int) := by
      rw [strsK_length, w64 (by simp; omega)]; simp
    rw [r46_0, ctl_dec, if_pos (by simp; omega), in_mid, byteAt_mid]
    have eb : ((b.toNat : Int) == 44) = (b == 44) := b_eq b 44
    rw [eb, e0, e1]
    simp only [ctl_true]
    unfold splA
    cases hb : (b == 44) with
    | true =>
      rw [ctl_true, ctl_dec, if_pos (by rw [strsK_length]; simp; omega)]
      have : strsK (done ++ [cur]) ++ [[PV.str []]] = strsK ((done ++ [cur]) ++ [[]]) := by simp [strsK]
      rw [this, app_cons, ih (pre ++ [b]) (done ++ [cur]) [] (by simpa using h) (by simp; omega) (by simp)]
      rfl
    | false =>
      have h1 : (leB 0 (done.length : Int) && ltB (done.length : Int) ((strsK (done ++ [cur])).length : Int)) = true := by
        have a1 : leB 0 (done.length : Int) = true := decide_eq_true (by omega)
        have a2 : ltB (done.length : Int) ((strsK (done ++ [cur])).length : Int) = true := decide_eq_true (by rw [strsK_length]; simp; omega)
        rw [a1, a2]; rfl
      have h2 : (leB 0 (pre.length : Int) && (leB (pre.length : Int) ((pre ++ [b]).length : Int) && leB ((pre ++ [b]).length : Int) ((pre ++ b :: l).length : Int))) = true := by
        have a1 : leB 0 (pre.length : Int) = true := decide_eq_true (by omega)
        have a2 : leB (pre.length : Int) ((pre ++ [b]).length : Int) = true := decide_eq_true (by simp; omega)
        have a3 : leB ((pre ++ [b]).length : Int) ((pre ++ b :: l).length : Int) = true := decide_eq_true (by simp; omega)
        rw [a1, a2, a3]; rfl
      rw [ctl_false, h1, Int.toNat_natCast, nth_last, h2]
      rw [← len_snoc pre b, cutI_mid, len_snoc pre b]
      have h3 : okCs [Sh.str] (List.take 1 (List.drop 0 [PV.str cur])) = true := rfl
      rw [h3]
      simp only [ctl_true, nth_0, x_str]
      rw [ctl_dec, if_pos (by simp; omega), setEs_last, app_cons, ih (pre ++ [b]) done (cur ++ [b]) (by simpa using h) (by simp; omega) (by simp; omega)]
      rfl

theorem c_rFields (s : List UInt8) (h : s.length ≤ 1000000000) : denC E 46 [AV.str s] [] = some ([RV.p (PV.sl 1 (strsK (spl 44 s)))], []) := by
  rw [denC_eq, r46]
  have := l_rFields s [] [] [] (by simpa using h) (Nat.le_refl _) (Nat.le_refl _)
  simp only [List.nil_append, List.length_nil, Int.natCast_zero] at this
  rw [show ([[PV.str []]] : List (List PV)) = strsK [[]] from rfl, this, splA_spl]
  cases hs : spl 44 s with
  | nil => exact absurd hs (spl_ne' 44 s)
  | cons p r => simp only [bnd_some, ctl_true, ctl_false, ctl_and, ctl_or', ctl_or2, x_toPV, x_toCs, x_toCs2, x_toEs, x_bEs, x_bCs, x_aPV, x_aCs, x_int, x_bool, x_str, x_es, x_esn, nth_0, nth_1, nth_2, nth_3, nth_4, nth_5, nth_6, nth_7, nth_8, nth_9, y_nil, y_int, y_bool, y_str, y_sl, y_nils, y_agg, y_ownp, y_own, z_nil, z_int, z_bool, z_str, z_sl, z_nils, b_nil, b_arr, b_box1, b_box2, b_box3, b_box4, List.map_cons, List.map_nil, Bool.and_self, Bool.and_true, Bool.true_and, Bool.not_true, Bool.not_false, Bool.or_false, Bool.false_or, cond_true, cond_false, okPack, okPut, okPutBlks, okPutCells, q_isP, q_isAg, q_isBox, q_isArr, q_int, q_bool, q_str, q_sl, q_nils, e_exit, e_ret, e_nrm, e_ret_exit, e_exit_ret, e_nrm_exit, e_nrm_ret, e_exit_nrm, e_ret_nrm, Nat.zero_add, Nat.reduceAdd, noslR, noslP, noslB, noslA, List.all_cons, List.all_nil, List.nil_append]

/-! ### The digits -/
def hexv (b : UInt8) : Int := Lib.indexByte digs b
theorem l_hex (b : UInt8) (l : List UInt8) : ∀ (pre : List UInt8), pre ++ l = digs → lp E (denC E) 45 0 [] 0 { vals := [AV.int .u8 b.toNat, AV.int .i64 pre.length], blks := [] } =
    some (bif Lib.indexByte l b == -1 then (Ex.exit 0, { vals := [], blks := [] }) else (Ex.ret, { vals := [AV.int .i64 (pre.length + Lib.indexByte l b)], blks := [] })) := by
  induction l with
  | nil =>
    intro pre h
    have hl : pre.length = 16 := by rw [List.append_nil] at h; rw [h]; rfl
    rw [r45_0, ctl_dec, if_neg (by omega)]
    rfl
  | cons x l ih =>
    intro pre h
    have hl : pre.length + (l.length + 1) = 16 := by have := congrArg List.length h; simpa [digs] using this
    have hd : ([48, 49, 50, 51, 52, 53, 54, 55, 56, 57, 65, 66, 67, 68, 69, 70] : List UInt8) = pre ++ x :: l := h.symm
    have hin : (leB 0 (pre.length : Int) && ltB (pre.length : Int) 16) = true := by
      have a1 : leB 0 (pre.length : Int) = true := decide_eq_true (by omega)
      have a2 : ltB (pre.length : Int) 16 = true := decide_eq_true (by omega)
      rw [a1, a2]; rfl
    have hge := Lib.indexByte_ge l b
    rw [r45_0, ctl_dec, if_pos (by omega), hin, hd, byteAt_mid, b_eq]
    simp only [ctl_true]
    rw [w64 (by omega), len_snoc pre x]
    unfold Lib.indexByte
    cases hb : (x == b) with
    | true => simp [ctl]
    | false =>
      rw [ctl_false, ih (pre ++ [x]) (by rw [← h]; simp)]
      simp only [Bool.false_eq_true, if_false]
      cases hm : (Lib.indexByte l b == -1) with
      | true => simp
      | false =>
        have : (Lib.indexByte l b + 1 == -1) = false := by
          have := (beq_eq_false_iff_ne).1 hm
          exact beq_eq_false_iff_ne.2 (by omega)
        simp only [Bool.false_eq_true, if_false, this, cond_false]
        congr 5
        simp; omega

theorem c_hex (b : UInt8) : denC E 45 [AV.int .u8 b.toNat] [] = some ([RV.p (PV.int .i64 (hexv b))], []) := by
  rw [denC_eq, r45]
  have := l_hex b digs [] rfl
  simp only [List.length_nil] at this
  rw [show (AV.int IntKind.i64 0) = AV.int .i64 ((0 : Nat) : Int) from rfl, this]
  unfold hexv
  cases hm : (Lib.indexByte digs b == -1) with
  | true =>
    have := beq_iff_eq.1 hm
    rw [this]; rfl
  | false =>
    simp only [bnd_some, ctl_true, ctl_false, ctl_and, ctl_or', ctl_or2, x_toPV, x_toCs, x_toCs2, x_toEs, x_bEs, x_bCs, x_aPV, x_aCs, x_int, x_bool, x_str, x_es, x_esn, nth_0, nth_1, nth_2, nth_3, nth_4, nth_5, nth_6, nth_7, nth_8, nth_9, y_nil, y_int, y_bool, y_str, y_sl, y_nils, y_agg, y_ownp, y_own, z_nil, z_int, z_bool, z_str, z_sl, z_nils, b_nil, b_arr, b_box1, b_box2, b_box3, b_box4, List.map_cons, List.map_nil, Bool.and_self, Bool.and_true, Bool.true_and, Bool.not_true, Bool.not_false, Bool.or_false, Bool.false_or, cond_true, cond_false, okPack, okPut, okPutBlks, okPutCells, q_isP, q_isAg, q_isBox, q_isArr, q_int, q_bool, q_str, q_sl, q_nils, e_exit, e_ret, e_nrm, e_ret_exit, e_exit_ret, e_nrm_exit, e_nrm_ret, e_exit_nrm, e_ret_nrm, Nat.zero_add, Nat.reduceAdd, noslR, noslP, noslB, noslA, List.all_cons, List.all_nil, Int.natCast_zero, Int.zero_add]

/-! ### Reading -/
/-- The parts of a text of the right form. -/
def splitS (b : List UInt8) : Option (List UInt8 × UInt8 × UInt8) :=
  if 6 ≤ b.length ∧ b.getD 0 0 = 36 ∧ b.getD (b.length - 5) 0 = 42 ∧ 0 ≤ hexv (b.getD (b.length - 4) 0) ∧ 0 ≤ hexv (b.getD (b.length - 3) 0) ∧ b.getD (b.length - 2) 0 = 13 ∧ b.getD (b.length - 1) 0 = 10
  then some ((b.drop 1).take (b.length - 6), b.getD (b.length - 4) 0, b.getD (b.length - 3) 0) else none

def prs (b : List UInt8) : PV × Int :=
  if 200 < b.length then (.nils, 2) else
  match splitS b with
  | none => (.nils, 3)
  | some (body, x, y) => if validB (spl 44 body) = true then (if ((sumB body).toNat : Int) = 16 * hexv x + hexv y then (.sl 1 (strsK (spl 44 body)), 0) else (.nils, 4)) else (.nils, 3)

theorem six {b : List UInt8} (h : 6 ≤ b.length) : ∃ c body p x y q r, b = c :: (body ++ [p, x, y, q, r]) := by
  cases b with
  | nil => simp at h
  | cons c t =>
    have ht : 5 ≤ t.length := by simpa using h
    refine ⟨c, t.take (t.length - 5), t.getD (t.length - 5) 0, t.getD (t.length - 4) 0, t.getD (t.length - 3) 0, t.getD (t.length - 2) 0, t.getD (t.length - 1) 0, ?_⟩
    congr 1
    have h1 : t = t.take (t.length - 5) ++ t.drop (t.length - 5) := (List.take_append_drop _ _).symm
    have h2 : ∀ d : List UInt8, d.length = 5 → d = [d.getD 0 0, d.getD 1 0, d.getD 2 0, d.getD 3 0, d.getD 4 0] := fun d hd => by
      match d, hd with
      | [a, b, c, d, e], _ => rfl
    have h3 := h2 (t.drop (t.length - 5)) (by simp; omega)
    have h4 : ∀ k, k < 5 → (t.drop (t.length - 5)).getD k 0 = t.getD (t.length - 5 + k) 0 := fun k hk => by simp [List.getD]
    rw [h4 0 (by omega), h4 1 (by omega), h4 2 (by omega), h4 3 (by omega), h4 4 (by omega)] at h3
    rw [show t.length - 5 + 0 = t.length - 5 by omega, show t.length - 5 + 1 = t.length - 4 by omega, show t.length - 5 + 2 = t.length - 3 by omega, show t.length - 5 + 3 = t.length - 2 by omega, show t.length - 5 + 4 = t.length - 1 by omega] at h3
    rw [← h3]
    exact h1

section
variable (c : UInt8) (body : List UInt8) (p x y q r : UInt8)
theorem sx_len : (c :: (body ++ [p, x, y, q, r])).length = body.length + 6 := by simp
theorem sx_at (k : Nat) : (c :: (body ++ [p, x, y, q, r])).getD (body.length + 1 + k) 0 = [p, x, y, q, r].getD k 0 := by
  rw [show body.length + 1 + k = (body.length + k) + 1 by omega, List.getD_cons_succ]
  simp only [List.getD_eq_getElem?_getD]
  rw [List.getElem?_append_right (by omega), Nat.add_sub_cancel_left]
theorem splitS_six : splitS (c :: (body ++ [p, x, y, q, r])) = if c = 36 ∧ p = 42 ∧ 0 ≤ hexv x ∧ 0 ≤ hexv y ∧ q = 13 ∧ r = 10 then some (body, x, y) else none := by
  unfold splitS
  rw [sx_len]
  have e0 : (c :: (body ++ [p, x, y, q, r])).getD 0 0 = c := rfl
  have e1 := sx_at c body p x y q r 0
  have e2 := sx_at c body p x y q r 1
  have e3 := sx_at c body p x y q r 2
  have e4 := sx_at c body p x y q r 3
  have e5 := sx_at c body p x y q r 4
  rw [show body.length + 6 - 5 = body.length + 1 + 0 by omega, show body.length + 6 - 4 = body.length + 1 + 1 by omega, show body.length + 6 - 3 = body.length + 1 + 2 by omega,
    show body.length + 6 - 2 = body.length + 1 + 3 by omega, show body.length + 6 - 1 = body.length + 1 + 4 by omega, show body.length + 6 - 6 = body.length by omega, e0, e1, e2, e3, e4, e5]
  have e6 : ((c :: (body ++ [p, x, y, q, r])).drop 1).take body.length = body := by simp
  rw [e6]
  have h6 : 6 ≤ body.length + 6 := by omega
  simp [h6]
end

end Go.Proofs.YtcopadohnlcheaaDoor.Vm

/- Contracts of chapter 04: reading, comparing, the source's texts. -/
namespace Go.Proofs.YtcopadohnlcheaaDoor.Vm
set_option linter.unusedVariables false
set_option linter.unusedSimpArgs false

/-! ### The document's reading -/
section
variable (c : UInt8) (body : List UInt8) (p x y q r : UInt8)
theorem sx_get {α : Type} (k : Nat) (hk : k < 5) (i : Int) (hi : i = body.length + 1 + k) (K : List PV → Option α) : getE (byteEs (c :: (body ++ [p, x, y, q, r]))) i K = K [PV.int .u8 (([p, x, y, q, r].getD k 0).toNat : Int)] := by
  rw [getE_bytes (by rw [sx_len]; omega)]
  have : i.toNat = body.length + 1 + k := by omega
  rw [this, sx_at]
theorem sx_cut : cutI (byteEs (c :: (body ++ [p, x, y, q, r]))) 1 ((body.length : Int) + 1) = byteEs body := by
  unfold cutI byteEs
  have e : ((body.length : Int) + 1).toNat = body.length + 1 := by omega
  rw [e]
  simp
end

theorem bne_b (b c : UInt8) : ((b.toNat : Int) != (c.toNat : Int)) = !(b == c) := by rw [← b_eq]; rfl

/-- What is read of a text of the right form. -/
def prsT (body : List UInt8) (x y : UInt8) : PV × Int :=
  if validB (spl 44 body) = true then (if ((sumB body).toNat : Int) = 16 * hexv x + hexv y then (.sl 1 (strsK (spl 44 body)), 0) else (.nils, 4)) else (.nils, 3)
theorem prs_six (c : UInt8) (body : List UInt8) (p x y q r : UInt8) (h : body.length + 6 ≤ 200) : prs (c :: (body ++ [p, x, y, q, r])) =
    if c = 36 ∧ p = 42 ∧ 0 ≤ hexv x ∧ 0 ≤ hexv y ∧ q = 13 ∧ r = 10 then prsT body x y else (.nils, 3) := by
  unfold prs
  rw [sx_len, if_neg (by omega), splitS_six]
  split
  · rename_i h; split at h <;> rename_i hc
    · cases h
    · rw [if_neg hc]
  · rename_i h; split at h <;> rename_i hc
    · cases h; rw [if_pos hc]; rfl
    · cases h
theorem prs_short {b : List UInt8} (h : b.length < 6) : prs b = (.nils, 3) := by
  unfold prs splitS
  rw [if_neg (by omega), if_neg (by omega)]
theorem prs_long {b : List UInt8} (h : 200 < b.length) : prs b = (.nils, 2) := by unfold prs; rw [if_pos h]

theorem spl_count (s : List UInt8) : (spl 44 s).length ≤ s.length + 1 := by
  induction s with
  | nil => simp [spl]
  | cons b l ih =>
    unfold spl
    split
    · simp; omega
    · split
      · simp
      · rename_i h; rw [h] at ih; simp at ih ⊢; omega

theorem hexv_le (b : UInt8) : hexv b ≤ 15 ∧ -1 ≤ hexv b := by
  have : ∀ n : Nat, n < 256 → hexv (UInt8.ofNat n) ≤ 15 ∧ -1 ≤ hexv (UInt8.ofNat n) := by decide +kernel
  have h := this b.toNat b.toNat_lt
  rwa [UInt8.ofNat_toNat] at h

theorem c_rParse (b : List UInt8) (h : b.length ≤ 1000000000) : denC E 25 [AV.sl 1 (byteEs b)] [] = some ([RV.agg [(prs b).1], RV.p (PV.int .i64 (prs b).2)], []) := by
  rw [denC_eq, r25, byteEs_length, ctl_dec]
  by_cases h200 : 200 < b.length
  · rw [if_pos (by omega), prs_long h200]
  rw [if_neg (by omega)]
  by_cases h6 : b.length < 6
  · rw [prs_short h6]
    have : ltB (b.length : Int) 6 = true := decide_eq_true (by omega)
    rw [this]
    rfl
  have hn : ltB (b.length : Int) 6 = false := decide_eq_false (by omega)
  obtain ⟨c, body, p, x, y, q, r, rfl⟩ := six (b := b) (by omega)
  have hl : body.length + 6 ≤ 200 := by rw [sx_len] at h200; omega
  rw [prs_six _ _ _ _ _ _ _ hl, hn, sx_len]
  have w5 : IntKind.i64.wrap (((body.length + 6 : Nat) : Int) - 5) = (body.length : Int) + 1 := by rw [w64 (by omega)]; omega
  have w4 : IntKind.i64.wrap (((body.length + 6 : Nat) : Int) - 4) = (body.length : Int) + 2 := by rw [w64 (by omega)]; omega
  have w3 : IntKind.i64.wrap (((body.length + 6 : Nat) : Int) - 3) = (body.length : Int) + 3 := by rw [w64 (by omega)]; omega
  have w2 : IntKind.i64.wrap (((body.length + 6 : Nat) : Int) - 2) = (body.length : Int) + 4 := by rw [w64 (by omega)]; omega
  have w1 : IntKind.i64.wrap (((body.length + 6 : Nat) : Int) - 1) = (body.length : Int) + 5 := by rw [w64 (by omega)]; omega
  rw [w5, w4, w3, w2, w1]
  have g0 : ∀ {α : Type} (K : List PV → Option α), getE (byteEs (c :: (body ++ [p, x, y, q, r]))) 0 K = K [PV.int .u8 (c.toNat : Int)] := fun K => by
    rw [getE_bytes (by rw [sx_len]; omega)]; rfl
  rw [g0, sx_get c body p x y q r 0 (by omega) ((body.length : Int) + 1) (by omega), sx_get c body p x y q r 1 (by omega) ((body.length : Int) + 2) (by omega), sx_get c body p x y q r 2 (by omega) ((body.length : Int) + 3) (by omega),
    sx_get c body p x y q r 3 (by omega) ((body.length : Int) + 4) (by omega), sx_get c body p x y q r 4 (by omega) ((body.length : Int) + 5) (by omega)]
  simp only [List.getD_cons_zero, List.getD_cons_succ, bnd_some, ctl_true, ctl_false, ctl_and, ctl_or', ctl_or2, x_toPV, x_toCs, x_toCs2, x_toEs, x_bEs, x_bCs, x_aPV, x_aCs, x_int, x_bool, x_str, x_es, x_esn, nth_0, nth_1, nth_2, nth_3, nth_4, nth_5, nth_6, nth_7, nth_8, nth_9, y_nil, y_int, y_bool, y_str, y_sl, y_nils, y_agg, y_ownp, y_own, z_nil, z_int, z_bool, z_str, z_sl, z_nils, b_nil, b_arr, b_box1, b_box2, b_box3, b_box4, List.map_cons, List.map_nil, Bool.and_self, Bool.and_true, Bool.true_and, Bool.not_true, Bool.not_false, Bool.or_false, Bool.false_or, cond_true, cond_false, okPack, okPut, okPutBlks, okPutCells, q_isP, q_isAg, q_isBox, q_isArr, q_int, q_bool, q_str, q_sl, q_nils, e_exit, e_ret, e_nrm, e_ret_exit, e_exit_ret, e_nrm_exit, e_nrm_ret, e_exit_nrm, e_ret_nrm, Nat.zero_add, Nat.reduceAdd, noslR, noslP, noslB, noslA, List.all_cons, List.all_nil]
  rw [c_hex, c_hex]
  simp only [bnd_some, ctl_true, ctl_false, ctl_and, ctl_or', ctl_or2, x_toPV, x_toCs, x_toCs2, x_toEs, x_bEs, x_bCs, x_aPV, x_aCs, x_int, x_bool, x_str, x_es, x_esn, nth_0, nth_1, nth_2, nth_3, nth_4, nth_5, nth_6, nth_7, nth_8, nth_9, y_nil, y_int, y_bool, y_str, y_sl, y_nils, y_agg, y_ownp, y_own, z_nil, z_int, z_bool, z_str, z_sl, z_nils, b_nil, b_arr, b_box1, b_box2, b_box3, b_box4, List.map_cons, List.map_nil, Bool.and_self, Bool.and_true, Bool.true_and, Bool.not_true, Bool.not_false, Bool.or_false, Bool.false_or, cond_true, cond_false, okPack, okPut, okPutBlks, okPutCells, q_isP, q_isAg, q_isBox, q_isArr, q_int, q_bool, q_str, q_sl, q_nils, e_exit, e_ret, e_nrm, e_ret_exit, e_exit_ret, e_nrm_exit, e_nrm_ret, e_exit_nrm, e_ret_nrm, Nat.zero_add, Nat.reduceAdd, noslR, noslP, noslB, noslA, List.all_cons, List.all_nil]
  have b36 : ((c.toNat : Int) != 36) = !(c == 36) := bne_b c 36
  have b42 : ((p.toNat : Int) != 42) = !(p == 42) := bne_b p 42
  have b13 : ((q.toNat : Int) != 13) = !(q == 13) := bne_b q 13
  have b10 : ((r.toNat : Int) != 10) = !(r == 10) := bne_b r 10
  rw [b36, b42, b13, b10]
  have hv : (!(c == 36) || !(p == 42) || ltB (hexv x) 0 || ltB (hexv y) 0 || !(q == 13) || !(r == 10)) = !decide (c = 36 ∧ p = 42 ∧ 0 ≤ hexv x ∧ 0 ≤ hexv y ∧ q = 13 ∧ r = 10) := by
    rw [Bool.eq_iff_iff]
    simp only [Bool.or_eq_true, Bool.not_eq_true', beq_eq_false_iff_ne, decide_eq_true_eq, decide_eq_false_iff_not, ne_eq]
    constructor
    · rintro h ⟨a1, a2, a3, a4, a5, a6⟩
      rcases h with ((((h | h) | h) | h) | h) | h
      · exact h a1
      · exact h a2
      · omega
      · omega
      · exact h a5
      · exact h a6
    · intro h
      by_cases a1 : c = 36
      · by_cases a2 : p = 42
        · by_cases a3 : 0 ≤ hexv x
          · by_cases a4 : 0 ≤ hexv y
            · by_cases a5 : q = 13
              · by_cases a6 : r = 10
                · exact absurd ⟨a1, a2, a3, a4, a5, a6⟩ h
                · exact .inr a6
              · exact .inl (.inr a5)
            · exact .inl (.inl (.inr (by omega)))
          · exact .inl (.inl (.inl (.inr (by omega))))
        · exact .inl (.inl (.inl (.inl (.inr a2))))
      · exact .inl (.inl (.inl (.inl (.inl a1))))
  rw [hv, ctl_ndec]
  by_cases hc : c = 36 ∧ p = 42 ∧ 0 ≤ hexv x ∧ 0 ≤ hexv y ∧ q = 13 ∧ r = 10
  · rw [if_pos hc, if_pos hc]
    have hin : (leB 1 ((body.length : Int) + 1) && leB ((body.length : Int) + 1) ((body.length + 6 : Nat) : Int)) = true := by
      have a1 : leB 1 ((body.length : Int) + 1) = true := decide_eq_true (by omega)
      have a2 : leB ((body.length : Int) + 1) ((body.length + 6 : Nat) : Int) = true := decide_eq_true (by omega)
      rw [a1, a2]; rfl
    rw [hin, sx_cut, bytesOk_byteEs, toBytes_byteEs]
    simp only [ctl_true]
    have hs := spl_count body
    rw [c_rFields body (by omega)]
    simp only [bnd_some, ctl_true, ctl_false, ctl_and, ctl_or', ctl_or2, x_toPV, x_toCs, x_toCs2, x_toEs, x_bEs, x_bCs, x_aPV, x_aCs, x_int, x_bool, x_str, x_es, x_esn, nth_0, nth_1, nth_2, nth_3, nth_4, nth_5, nth_6, nth_7, nth_8, nth_9, y_nil, y_int, y_bool, y_str, y_sl, y_nils, y_agg, y_ownp, y_own, z_nil, z_int, z_bool, z_str, z_sl, z_nils, b_nil, b_arr, b_box1, b_box2, b_box3, b_box4, List.map_cons, List.map_nil, Bool.and_self, Bool.and_true, Bool.true_and, Bool.not_true, Bool.not_false, Bool.or_false, Bool.false_or, cond_true, cond_false, okPack, okPut, okPutBlks, okPutCells, q_isP, q_isAg, q_isBox, q_isArr, q_int, q_bool, q_str, q_sl, q_nils, e_exit, e_ret, e_nrm, e_ret_exit, e_exit_ret, e_nrm_exit, e_nrm_ret, e_exit_nrm, e_ret_nrm, Nat.zero_add, Nat.reduceAdd, noslR, noslP, noslB, noslA, List.all_cons, List.all_nil]
    rw [c_rValid _ (by omega)]
    simp only [bnd_some, ctl_true, ctl_false, ctl_and, ctl_or', ctl_or2, x_toPV, x_toCs, x_toCs2, x_toEs, x_bEs, x_bCs, x_aPV, x_aCs, x_int, x_bool, x_str, x_es, x_esn, nth_0, nth_1, nth_2, nth_3, nth_4, nth_5, nth_6, nth_7, nth_8, nth_9, y_nil, y_int, y_bool, y_str, y_sl, y_nils, y_agg, y_ownp, y_own, z_nil, z_int, z_bool, z_str, z_sl, z_nils, b_nil, b_arr, b_box1, b_box2, b_box3, b_box4, List.map_cons, List.map_nil, Bool.and_self, Bool.and_true, Bool.true_and, Bool.not_true, Bool.not_false, Bool.or_false, Bool.false_or, cond_true, cond_false, okPack, okPut, okPutBlks, okPutCells, q_isP, q_isAg, q_isBox, q_isArr, q_int, q_bool, q_str, q_sl, q_nils, e_exit, e_ret, e_nrm, e_ret_exit, e_exit_ret, e_nrm_exit, e_nrm_ret, e_exit_nrm, e_ret_nrm, Nat.zero_add, Nat.reduceAdd, noslR, noslP, noslB, noslA, List.all_cons, List.all_nil]
    unfold prsT
    cases hval : validB (spl 44 body) with
    | false => rfl
    | true =>
      have hx := hexv_le x
      have hy := hexv_le y
      simp only [Bool.not_true, ctl_false, if_true]
      rw [c_rSum body (by omega)]
      simp only [bnd_some, ctl_true, ctl_false, ctl_and, ctl_or', ctl_or2, x_toPV, x_toCs, x_toCs2, x_toEs, x_bEs, x_bCs, x_aPV, x_aCs, x_int, x_bool, x_str, x_es, x_esn, nth_0, nth_1, nth_2, nth_3, nth_4, nth_5, nth_6, nth_7, nth_8, nth_9, y_nil, y_int, y_bool, y_str, y_sl, y_nils, y_agg, y_ownp, y_own, z_nil, z_int, z_bool, z_str, z_sl, z_nils, b_nil, b_arr, b_box1, b_box2, b_box3, b_box4, List.map_cons, List.map_nil, Bool.and_self, Bool.and_true, Bool.true_and, Bool.not_true, Bool.not_false, Bool.or_false, Bool.false_or, cond_true, cond_false, okPack, okPut, okPutBlks, okPutCells, q_isP, q_isAg, q_isBox, q_isArr, q_int, q_bool, q_str, q_sl, q_nils, e_exit, e_ret, e_nrm, e_ret_exit, e_exit_ret, e_nrm_exit, e_nrm_ret, e_exit_nrm, e_ret_nrm, Nat.zero_add, Nat.reduceAdd, noslR, noslP, noslB, noslA, List.all_cons, List.all_nil]
      have hlt := (sumB body).toNat_lt
      rw [sx_get c body p x y q r 1 (by omega) ((body.length : Int) + 2) (by omega)]
      simp only [List.getD_cons_zero, List.getD_cons_succ, bnd_some, ctl_true, ctl_false, ctl_and, ctl_or', ctl_or2, x_toPV, x_toCs, x_toCs2, x_toEs, x_bEs, x_bCs, x_aPV, x_aCs, x_int, x_bool, x_str, x_es, x_esn, nth_0, nth_1, nth_2, nth_3, nth_4, nth_5, nth_6, nth_7, nth_8, nth_9, y_nil, y_int, y_bool, y_str, y_sl, y_nils, y_agg, y_ownp, y_own, z_nil, z_int, z_bool, z_str, z_sl, z_nils, b_nil, b_arr, b_box1, b_box2, b_box3, b_box4, List.map_cons, List.map_nil, Bool.and_self, Bool.and_true, Bool.true_and, Bool.not_true, Bool.not_false, Bool.or_false, Bool.false_or, cond_true, cond_false, okPack, okPut, okPutBlks, okPutCells, q_isP, q_isAg, q_isBox, q_isArr, q_int, q_bool, q_str, q_sl, q_nils, e_exit, e_ret, e_nrm, e_ret_exit, e_exit_ret, e_nrm_exit, e_nrm_ret, e_exit_nrm, e_ret_nrm, Nat.zero_add, Nat.reduceAdd, noslR, noslP, noslB, noslA, List.all_cons, List.all_nil]
      rw [c_hex]
      simp only [bnd_some, ctl_true, ctl_false, ctl_and, ctl_or', ctl_or2, x_toPV, x_toCs, x_toCs2, x_toEs, x_bEs, x_bCs, x_aPV, x_aCs, x_int, x_bool, x_str, x_es, x_esn, nth_0, nth_1, nth_2, nth_3, nth_4, nth_5, nth_6, nth_7, nth_8, nth_9, y_nil, y_int, y_bool, y_str, y_sl, y_nils, y_agg, y_ownp, y_own, z_nil, z_int, z_bool, z_str, z_sl, z_nils, b_nil, b_arr, b_box1, b_box2, b_box3, b_box4, List.map_cons, List.map_nil, Bool.and_self, Bool.and_true, Bool.true_and, Bool.not_true, Bool.not_false, Bool.or_false, Bool.false_or, cond_true, cond_false, okPack, okPut, okPutBlks, okPutCells, q_isP, q_isAg, q_isBox, q_isArr, q_int, q_bool, q_str, q_sl, q_nils, e_exit, e_ret, e_nrm, e_ret_exit, e_exit_ret, e_nrm_exit, e_nrm_ret, e_exit_nrm, e_ret_nrm, Nat.zero_add, Nat.reduceAdd, noslR, noslP, noslB, noslA, List.all_cons, List.all_nil]
      rw [sx_get c body p x y q r 2 (by omega) ((body.length : Int) + 3) (by omega)]
      simp only [List.getD_cons_zero, List.getD_cons_succ, bnd_some, ctl_true, ctl_false, ctl_and, ctl_or', ctl_or2, x_toPV, x_toCs, x_toCs2, x_toEs, x_bEs, x_bCs, x_aPV, x_aCs, x_int, x_bool, x_str, x_es, x_esn, nth_0, nth_1, nth_2, nth_3, nth_4, nth_5, nth_6, nth_7, nth_8, nth_9, y_nil, y_int, y_bool, y_str, y_sl, y_nils, y_agg, y_ownp, y_own, z_nil, z_int, z_bool, z_str, z_sl, z_nils, b_nil, b_arr, b_box1, b_box2, b_box3, b_box4, List.map_cons, List.map_nil, Bool.and_self, Bool.and_true, Bool.true_and, Bool.not_true, Bool.not_false, Bool.or_false, Bool.false_or, cond_true, cond_false, okPack, okPut, okPutBlks, okPutCells, q_isP, q_isAg, q_isBox, q_isArr, q_int, q_bool, q_str, q_sl, q_nils, e_exit, e_ret, e_nrm, e_ret_exit, e_exit_ret, e_nrm_exit, e_nrm_ret, e_exit_nrm, e_ret_nrm, Nat.zero_add, Nat.reduceAdd, noslR, noslP, noslB, noslA, List.all_cons, List.all_nil]
      rw [c_hex]
      simp only [bnd_some, ctl_true, ctl_false, ctl_and, ctl_or', ctl_or2, x_toPV, x_toCs, x_toCs2, x_toEs, x_bEs, x_bCs, x_aPV, x_aCs, x_int, x_bool, x_str, x_es, x_esn, nth_0, nth_1, nth_2, nth_3, nth_4, nth_5, nth_6, nth_7, nth_8, nth_9, y_nil, y_int, y_bool, y_str, y_sl, y_nils, y_agg, y_ownp, y_own, z_nil, z_int, z_bool, z_str, z_sl, z_nils, b_nil, b_arr, b_box1, b_box2, b_box3, b_box4, List.map_cons, List.map_nil, Bool.and_self, Bool.and_true, Bool.true_and, Bool.not_true, Bool.not_false, Bool.or_false, Bool.false_or, cond_true, cond_false, okPack, okPut, okPutBlks, okPutCells, q_isP, q_isAg, q_isBox, q_isArr, q_int, q_bool, q_str, q_sl, q_nils, e_exit, e_ret, e_nrm, e_ret_exit, e_exit_ret, e_nrm_exit, e_nrm_ret, e_exit_nrm, e_ret_nrm, Nat.zero_add, Nat.reduceAdd, noslR, noslP, noslB, noslA, List.all_cons, List.all_nil]
      rw [w64 (n := ((sumB body).toNat : Int)) (by omega), w64 (n := 16 * hexv x) (by omega), w64 (n := 16 * hexv x + hexv y) (by omega)]
      by_cases he : ((sumB body).toNat : Int) = 16 * hexv x + hexv y
      · have : (((sumB body).toNat : Int) != 16 * hexv x + hexv y) = false := by simpa using he
        rw [this, if_pos he]; rfl
      · have : (((sumB body).toNat : Int) != 16 * hexv x + hexv y) = true := by simpa using he
        rw [this, if_neg he]; rfl
  · rw [if_neg hc, if_neg hc]

/-! ### Reading -/
theorem pre36 (c : UInt8) (t : List UInt8) : Lib.hasPrefix (c :: t) [36] = (c == 36) := by
  unfold Lib.hasPrefix
  show ((36 : UInt8) == c && [].isPrefixOf t) = _
  by_cases h : c = 36
  · subst h; rfl
  · have e1 : ((36 : UInt8) == c) = false := by simpa using fun e : 36 = c => h e.symm
    have e2 : (c == 36) = false := by simpa using h
    rw [e1, e2]; rfl
theorem suf2 (l : List UInt8) (q r : UInt8) : Lib.hasSuffix (l ++ [q, r]) [13, 10] = (q == 13 && r == 10) := by
  unfold Lib.hasSuffix List.isSuffixOf
  rw [List.reverse_append]
  show ((10 : UInt8) == r && ((13 : UInt8) == q && [].isPrefixOf l.reverse)) = _
  have e : ∀ a b : UInt8, (a == b) = (b == a) := fun a b => by
    rw [Bool.eq_iff_iff]; simp only [beq_iff_eq]; exact eq_comm
  rw [e 10 r, e 13 q]
  cases r == 10 <;> cases q == 13 <;> rfl
theorem suf_len {s p : List UInt8} (h : Lib.hasSuffix s p = true) : (Lib.trimSuffix s p).length = s.length - p.length := by
  unfold Lib.trimSuffix; rw [if_pos h]; simp
theorem trim36 (t : List UInt8) : Lib.trimPrefix (36 :: t) [36] = t := by
  unfold Lib.trimPrefix; rw [pre36]; rfl
theorem trim2 (l : List UInt8) : Lib.trimSuffix (l ++ [13, 10]) [13, 10] = l := by
  unfold Lib.trimSuffix; rw [suf2]; simp

theorem digs_lit : ([48, 49, 50, 51, 52, 53, 54, 55, 56, 57, 65, 66, 67, 68, 69, 70] : List UInt8) = digs := rfl

theorem hexd_hexv : ∀ a : Nat, a < 16 → ∀ b : Nat, b < 256 → (hexd a = UInt8.ofNat b ↔ hexv (UInt8.ofNat b) = a) := by decide +kernel
theorem hexd_iff (a : Nat) (b : UInt8) (h : a < 16) : hexd a = b ↔ hexv b = a := by
  have := hexd_hexv a h b.toNat b.toNat_lt
  rwa [UInt8.ofNat_toNat] at this

theorem txt_eq (body : List UInt8) (x y : UInt8) (hx : 0 ≤ hexv x) (hy : 0 ≤ hexv y) : (txt body == 36 :: (body ++ [42, x, y, 13, 10])) = decide (((sumB body).toNat : Int) = 16 * hexv x + hexv y) := by
  have hlt := (sumB body).toNat_lt
  have h1 := hexd_iff ((sumB body).toNat / 16) x (by omega)
  have h2 := hexd_iff ((sumB body).toNat % 16) y (by omega)
  have hxl := hexv_le x
  have hyl := hexv_le y
  rw [Bool.eq_iff_iff]
  unfold txt
  simp only [beq_iff_eq, decide_eq_true_eq, List.cons.injEq, List.append_cancel_left_eq, true_and, and_true]
  rw [h1, h2]
  constructor
  · rintro ⟨a, b⟩; omega
  · intro h; omega

section
variable (body : List UInt8) (p x y : UInt8)
theorem t3_len : (body ++ [p, x, y]).length = body.length + 3 := by simp
theorem t3_at (k : Nat) : byteAt (body ++ [p, x, y]) ((body.length : Int) + k) = ([p, x, y].getD k 0).toNat := by
  unfold byteAt
  have : ((body.length : Int) + k).toNat = body.length + k := by omega
  rw [this, nth_eq]
  simp only [List.getD_eq_getElem?_getD]
  rw [List.getElem?_append_right (by omega), Nat.add_sub_cancel_left]
theorem t3_cut : cutI (body ++ [p, x, y]) 0 (body.length : Int) = body := by
  unfold cutI; simp
end

theorem in_r {i n : Int} (h : 0 ≤ i ∧ i < n) : (leB 0 i && ltB i n) = true := by
  have a1 : leB 0 i = true := decide_eq_true h.1
  have a2 : ltB i n = true := decide_eq_true h.2
  rw [a1, a2]; rfl

/-! ### Comparing -/
theorem l_Texts (l : List (List UInt8)) : ∀ (pre a' : List (List UInt8)) (b' : List (List UInt8)), a' = pre ++ l → a'.length = b'.length → pre = b'.take pre.length → a'.length ≤ 1000000000 →
    lp E (denC E) 29 0 [] 0 { vals := [AV.sl 1 (strsK a'), AV.sl 1 (strsK b'), AV.int .i64 a'.length, AV.int .i64 pre.length], blks := [] } =
    some (bif l == b'.drop pre.length then (Ex.exit 0, { vals := [], blks := [] }) else (Ex.ret, { vals := [AV.bool false], blks := [] })) := by
  induction l with
  | nil =>
    intro pre a' b' ha hl hp hn
    rw [List.append_nil] at ha
    subst ha
    rw [r29_0, ctl_dec, if_neg (by omega), List.drop_of_length_le (by omega)]
    rfl
  | cons x l ih =>
    intro pre a' b' ha hl hp hn
    have hlt : pre.length < a'.length := by rw [ha]; simp
    have hxa : a'.getD ((pre.length : Int)).toNat [] = x := by rw [ha, Int.toNat_natCast, getD_mid]
    have hd : b'.drop pre.length = b'.getD pre.length [] :: b'.drop (pre.length + 1) := by
      rw [List.drop_eq_getElem_cons (by omega)]
      simp [List.getD, show pre.length < b'.length by omega]
    rw [r29_0, ctl_dec, if_pos (by omega), getE_strs (by omega), getE_strs (by omega), hxa, Int.toNat_natCast]
    simp only [bnd_some, ctl_true, ctl_false, ctl_and, ctl_or', ctl_or2, x_toPV, x_toCs, x_toCs2, x_toEs, x_bEs, x_bCs, x_aPV, x_aCs, x_int, x_bool, x_str, x_es, x_esn, nth_0, nth_1, nth_2, nth_3, nth_4, nth_5, nth_6, nth_7, nth_8, nth_9, y_nil, y_int, y_bool, y_str, y_sl, y_nils, y_agg, y_ownp, y_own, z_nil, z_int, z_bool, z_str, z_sl, z_nils, b_nil, b_arr, b_box1, b_box2, b_box3, b_box4, List.map_cons, List.map_nil, Bool.and_self, Bool.and_true, Bool.true_and, Bool.not_true, Bool.not_false, Bool.or_false, Bool.false_or, cond_true, cond_false, okPack, okPut, okPutBlks, okPutCells, q_isP, q_isAg, q_isBox, q_isArr, q_int, q_bool, q_str, q_sl, q_nils, e_exit, e_ret, e_nrm, e_ret_exit, e_exit_ret, e_nrm_exit, e_nrm_ret, e_exit_nrm, e_ret_nrm, Nat.zero_add, Nat.reduceAdd, noslR, noslP, noslB, noslA, List.all_cons, List.all_nil]
    rw [hd, w64 (by omega), len_snoc pre x]
    have hcc : (x :: l == b'.getD pre.length [] :: b'.drop (pre.length + 1)) = (x == b'.getD pre.length [] && l == b'.drop (pre.length + 1)) := rfl
    rw [hcc]
    cases hx : (x == b'.getD pre.length []) with
    | false => simp only [Bool.not_false, ctl_true, Bool.false_and, cond_false]
    | true =>
      have hxe := beq_iff_eq.1 hx
      have htk : pre ++ [x] = b'.take (pre ++ [x]).length := by
        have : b'.take (pre.length + 1) = b'.take pre.length ++ [b'.getD pre.length []] := by
          rw [List.take_add_one]
          simp [List.getD, show pre.length < b'.length by omega]
        rw [List.length_append, List.length_singleton, this, ← hp, hxe]
      rw [ih (pre ++ [x]) a' b' (by rw [ha]; simp) hl htk hn]
      simp only [Bool.not_true, ctl_false, Bool.true_and, List.length_append, List.length_singleton]

theorem c_Texts (a b : List (List UInt8)) (h : a.length ≤ 1000000000) : denC E 29 [AV.sl 1 (strsK a), AV.sl 1 (strsK b)] [] = some ([RV.p (PV.bool (a == b))], []) := by
  rw [denC_eq, r29, strsK_length, strsK_length]
  by_cases hl : a.length = b.length
  · have e : ((a.length : Int) != (b.length : Int)) = false := by rw [hl]; simp
    rw [e, ctl_false, show (AV.int IntKind.i64 0) = AV.int .i64 (([] : List (List UInt8)).length : Int) from rfl, l_Texts a [] a b rfl hl rfl h]
    simp only [List.length_nil, List.drop_zero]
    cases a == b <;> simp [bnd_some, ctl_true, ctl_false, ctl_and, ctl_or', ctl_or2, x_toPV, x_toCs, x_toCs2, x_toEs, x_bEs, x_bCs, x_aPV, x_aCs, x_int, x_bool, x_str, x_es, x_esn, nth_0, nth_1, nth_2, nth_3, nth_4, nth_5, nth_6, nth_7, nth_8, nth_9, y_nil, y_int, y_bool, y_str, y_sl, y_nils, y_agg, y_ownp, y_own, z_nil, z_int, z_bool, z_str, z_sl, z_nils, b_nil, b_arr, b_box1, b_box2, b_box3, b_box4, List.map_cons, List.map_nil, Bool.and_self, Bool.and_true, Bool.true_and, Bool.not_true, Bool.not_false, Bool.or_false, Bool.false_or, cond_true, cond_false, okPack, okPut, okPutBlks, okPutCells, q_isP, q_isAg, q_isBox, q_isArr, q_int, q_bool, q_str, q_sl, q_nils, e_exit, e_ret, e_nrm, e_ret_exit, e_exit_ret, e_nrm_exit, e_nrm_ret, e_exit_nrm, e_ret_nrm, Nat.zero_add, Nat.reduceAdd, noslR, noslP, noslB, noslA, List.all_cons, List.all_nil, okPack, okPut, okPutBlks]
  · have e : ((a.length : Int) != (b.length : Int)) = true := by simp; omega
    have e2 : (a == b) = false := by
      rw [Bool.eq_false_iff]
      intro hh
      exact hl (by rw [beq_iff_eq.1 hh])
    rw [e, ctl_true, e2]

theorem c_Same (a b : List (List UInt8)) (h : a.length ≤ 1000000000) : denC E 15 [AV.agg [PV.sl 1 (strsK a)], AV.agg [PV.sl 1 (strsK b)]] [] = some ([RV.p (PV.bool (a == b))], []) := by
  rw [denC_eq, r15, c_Texts a b h]
  simp only [bnd_some, ctl_true, ctl_false, ctl_and, ctl_or', ctl_or2, x_toPV, x_toCs, x_toCs2, x_toEs, x_bEs, x_bCs, x_aPV, x_aCs, x_int, x_bool, x_str, x_es, x_esn, nth_0, nth_1, nth_2, nth_3, nth_4, nth_5, nth_6, nth_7, nth_8, nth_9, y_nil, y_int, y_bool, y_str, y_sl, y_nils, y_agg, y_ownp, y_own, z_nil, z_int, z_bool, z_str, z_sl, z_nils, b_nil, b_arr, b_box1, b_box2, b_box3, b_box4, List.map_cons, List.map_nil, Bool.and_self, Bool.and_true, Bool.true_and, Bool.not_true, Bool.not_false, Bool.or_false, Bool.false_or, cond_true, cond_false, okPack, okPut, okPutBlks, okPutCells, q_isP, q_isAg, q_isBox, q_isArr, q_int, q_bool, q_str, q_sl, q_nils, e_exit, e_ret, e_nrm, e_ret_exit, e_exit_ret, e_nrm_exit, e_nrm_ret, e_exit_nrm, e_ret_nrm, Nat.zero_add, Nat.reduceAdd, noslR, noslP, noslB, noslA, List.all_cons, List.all_nil]

/-! ### The source's texts -/
def vText (L : List Int) (k : Nat) (l : List (List UInt8)) : List UInt8 := l.getD (vN L k l.length).toNat []
theorem c_SText {L : List Int} {k : Nat} (hL : L.length ≤ 600) (hk : k ≤ 600) {l : List (List UInt8)} (hl : 1 ≤ l.length ∧ l.length ≤ 1000) :
    denC E 16 [AV.t (.ptr 0 0), AV.sl 1 (strsK l)] [src L k] = some ([RV.p (PV.str (vText L k l))], [src L (at' L k)]) := by
  rw [denC_eq]
  have hN := c_N hL hk l.length (by omega)
  have hb := vN_bounds (L := L) (k := k) (n := l.length) (by omega)
  rw [r16, strsK_length, hN]
  simp only [bnd_some, ctl_true, ctl_false, ctl_and, ctl_or', ctl_or2, x_toPV, x_toCs, x_toCs2, x_toEs, x_bEs, x_bCs, x_aPV, x_aCs, x_int, x_bool, x_str, x_es, x_esn, nth_0, nth_1, nth_2, nth_3, nth_4, nth_5, nth_6, nth_7, nth_8, nth_9, y_nil, y_int, y_bool, y_str, y_sl, y_nils, y_agg, y_ownp, y_own, z_nil, z_int, z_bool, z_str, z_sl, z_nils, b_nil, b_arr, b_box1, b_box2, b_box3, b_box4, List.map_cons, List.map_nil, Bool.and_self, Bool.and_true, Bool.true_and, Bool.not_true, Bool.not_false, Bool.or_false, Bool.false_or, cond_true, cond_false, okPack, okPut, okPutBlks, okPutCells, q_isP, q_isAg, q_isBox, q_isArr, q_int, q_bool, q_str, q_sl, q_nils, e_exit, e_ret, e_nrm, e_ret_exit, e_exit_ret, e_nrm_exit, e_nrm_ret, e_exit_nrm, e_ret_nrm, Nat.zero_add, Nat.reduceAdd, noslR, noslP, noslB, noslA, List.all_cons, List.all_nil]
  rw [getE_strs hb]
  simp only [bnd_some, ctl_true, ctl_false, ctl_and, ctl_or', ctl_or2, x_toPV, x_toCs, x_toCs2, x_toEs, x_bEs, x_bCs, x_aPV, x_aCs, x_int, x_bool, x_str, x_es, x_esn, nth_0, nth_1, nth_2, nth_3, nth_4, nth_5, nth_6, nth_7, nth_8, nth_9, y_nil, y_int, y_bool, y_str, y_sl, y_nils, y_agg, y_ownp, y_own, z_nil, z_int, z_bool, z_str, z_sl, z_nils, b_nil, b_arr, b_box1, b_box2, b_box3, b_box4, List.map_cons, List.map_nil, Bool.and_self, Bool.and_true, Bool.true_and, Bool.not_true, Bool.not_false, Bool.or_false, Bool.false_or, cond_true, cond_false, okPack, okPut, okPutBlks, okPutCells, q_isP, q_isAg, q_isBox, q_isArr, q_int, q_bool, q_str, q_sl, q_nils, e_exit, e_ret, e_nrm, e_ret_exit, e_exit_ret, e_nrm_exit, e_nrm_ret, e_exit_nrm, e_ret_nrm, Nat.zero_add, Nat.reduceAdd, noslR, noslP, noslB, noslA, List.all_cons, List.all_nil]
  rfl
theorem vText_mem (L : List Int) (k : Nat) {l : List (List UInt8)} (hl : 1 ≤ l.length) : vText L k l ∈ l := by
  have hb := vN_bounds (L := L) (k := k) (n := l.length) (by omega)
  have hlt : (vN L k l.length).toNat < l.length := by omega
  unfold vText
  simp [List.getD, hlt]

def words : List (List UInt8) := [[65], [49], [70, 73, 88], [45, 50, 48], [], [120, 32, 121], [49, 55], [72, 68, 71], [126, 33]]
/-- n texts out of the source. -/
def takeT (L : List Int) : Nat → Nat → List (List UInt8) × Nat
  | 0, k => ([], k)
  | n + 1, k => (vText L k words :: (takeT L n (at' L k)).1, (takeT L n (at' L k)).2)
theorem takeT_at (L : List Int) (hL : L.length ≤ 600) : ∀ n k, k ≤ 600 → (takeT L n k).2 ≤ 600
  | 0, k, h => h
  | n + 1, k, h => takeT_at L hL n _ (at'_le hL h)
theorem takeT_len (L : List Int) : ∀ n k, (takeT L n k).1.length = n
  | 0, k => rfl
  | n + 1, k => by simp [takeT, takeT_len L n]
theorem takeT_mem (L : List Int) : ∀ n k, ∀ x ∈ (takeT L n k).1, x ∈ words
  | 0, k, x, h => by cases h
  | n + 1, k, x, h => by
    rcases List.mem_cons.1 h with rfl | h
    · exact vText_mem L k (by decide)
    · exact takeT_mem L n _ x h

/-- The fields that the source makes. -/
def vFields (L : List Int) (k : Nat) : List (List UInt8) :=
  if (takeT L (vRange L k 1 5).toNat (at' L k)).1 = [[]] then [[65]] else (takeT L (vRange L k 1 5).toNat (at' L k)).1
def atFields (L : List Int) (k : Nat) : Nat := (takeT L (vRange L k 1 5).toNat (at' L k)).2
theorem atFields_le {L : List Int} {k : Nat} (hL : L.length ≤ 600) (hk : k ≤ 600) : atFields L k ≤ 600 := takeT_at L hL _ _ (at'_le hL hk)

theorem words_ok : ∀ x ∈ words, fldB x = true ∧ x.length ≤ 3 := by decide +kernel
theorem vFields_ok (L : List Int) (k : Nat) : validB (vFields L k) = true ∧ (vFields L k).length ≤ 5 ∧ totB (vFields L k) ≤ 15 := by
  have hb := vRange_bounds (L := L) (k := k) (lo := 1) (hi := 5) (by omega)
  unfold vFields
  split
  · exact ⟨by decide +kernel, by decide, by decide⟩
  · rename_i hne
    have hl := takeT_len L (vRange L k 1 5).toNat (at' L k)
    have hm := takeT_mem L (vRange L k 1 5).toNat (at' L k)
    generalize (takeT L (vRange L k 1 5).toNat (at' L k)).1 = l at hne hl hm
    have htot : ∀ l : List (List UInt8), (∀ x ∈ l, x ∈ words) → totB l ≤ 3 * l.length := fun l hl => by
      induction l with
      | nil => simp [totB]
      | cons x r ih =>
        have h1 := (words_ok x (hl x (by simp))).2
        have := ih fun y hy => hl y (by simp [hy])
        simp only [totB, List.map_cons, List.sum_cons, List.length_cons] at this ⊢
        omega
    have ht := htot l hm
    refine ⟨?_, by omega, by omega⟩
    unfold validB
    have h1 : leB 1 (l.length : Int) = true := decide_eq_true (by omega)
    have h2 : leB (l.length : Int) 16 = true := decide_eq_true (by omega)
    have h3 : l.all fldB = true := List.all_eq_true.2 fun x hx => (words_ok x (hm x hx)).1
    have h4 : (l == [[]]) = false := by simpa using hne
    rw [h1, h2, h3, h4]; rfl

def noise : List Int := [36, 42, 44, 65, 48, 13, 10, 0, 255, 32]
def takeB' (L : List Int) : Nat → Nat → List UInt8 × Nat
  | 0, k => ([], k)
  | n + 1, k => ((vPick L k noise).toNat.toUInt8 :: (takeB' L n (at' L k)).1, (takeB' L n (at' L k)).2)
theorem takeB'_at (L : List Int) (hL : L.length ≤ 600) : ∀ n k, k ≤ 600 → (takeB' L n k).2 ≤ 600
  | 0, k, h => h
  | n + 1, k, h => takeB'_at L hL n _ (at'_le hL h)
theorem takeB'_len (L : List Int) : ∀ n k, (takeB' L n k).1.length = n
  | 0, k => rfl
  | n + 1, k => by simp [takeB', takeB'_len L n]
theorem noise_byte : ∀ x ∈ noise, IntKind.u8.wrap x = (x.toNat.toUInt8.toNat : Int) := by decide +kernel

end Go.Proofs.YtcopadohnlcheaaDoor.Vm

/- Chapter 04: texts and sentences go back and forth. -/
namespace Go.Proofs.YtcopadohnlcheaaDoor.Vm
set_option linter.unusedVariables false
set_option linter.unusedSimpArgs false

theorem hexv_hexd {n : Nat} (h : n < 16) : hexv (hexd n) = n := (hexd_iff n (hexd n) h).1 rfl

theorem spl_no {s : List UInt8} (h : ∀ b ∈ s, b ≠ 44) : spl 44 s = [s] := by
  induction s with
  | nil => rfl
  | cons b l ih =>
    have hb : (b == 44) = false := by simpa using h b (by simp)
    unfold spl
    rw [hb, ih fun x hx => h x (by simp [hx])]
    rfl
theorem spl_step {b : UInt8} {l : List UInt8} (h : (b == 44) = false) : spl 44 (b :: l) = match spl 44 l with | [] => [[b]] | p :: r => (b :: p) :: r := by
  rw [spl, h]
  rfl
theorem spl_app {s : List UInt8} (h : ∀ b ∈ s, b ≠ 44) (t : List UInt8) : spl 44 (s ++ 44 :: t) = s :: spl 44 t := by
  induction s with
  | nil => rfl
  | cons b l ih =>
    have hb : (b == 44) = false := by simpa using h b (by simp)
    rw [List.cons_append, spl_step hb, ih fun x hx => h x (by simp [hx])]
theorem spl_join : ∀ (x : List UInt8) (r : List (List UInt8)), (∀ s ∈ x :: r, ∀ b ∈ s, b ≠ 44) → spl 44 (Lib.join (x :: r) [44]) = x :: r
  | x, [], h => by
    rw [Lib.join_one]
    exact spl_no (h x (by simp))
  | x, y :: r, h => by
    have e : Lib.join (x :: y :: r) [44] = x ++ 44 :: Lib.join (y :: r) [44] := by
      rw [Lib.join_cons, Lib.join_cons]
      simp [Lib.joinTail]
    rw [e, spl_app (h x (by simp)), spl_join y r fun s hs => h s (by simp [hs])]

theorem fld_no {s : List UInt8} (h : fldB s = true) : ∀ b ∈ s, b ≠ 44 := by
  intro b hb he
  unfold fldB at h
  simp only [Bool.and_eq_true] at h
  have := List.all_eq_true.1 h.2 b hb
  subst he
  exact absurd this (by decide)

theorem valid_ne {l : List (List UInt8)} (h : validB l = true) : l ≠ [] ∧ ∀ s ∈ l, fldB s = true := by
  unfold validB at h
  simp only [Bool.and_eq_true, decide_eq_true_eq] at h
  refine ⟨fun e => ?_, fun s hs => List.all_eq_true.1 h.1.2 s hs⟩
  subst e
  have := h.1.1.1
  simp at this

theorem spl_valid {l : List (List UInt8)} (h : validB l = true) : spl 44 (Lib.join l [44]) = l := by
  obtain ⟨hne, hf⟩ := valid_ne h
  cases l with
  | nil => exact absurd rfl hne
  | cons x r => exact spl_join x r fun s hs => fld_no (hf s hs)

theorem prs_txt {l : List (List UInt8)} (h : validB l = true) (hl : (txt (Lib.join l [44])).length ≤ 200) : prs (txt (Lib.join l [44])) = (.sl 1 (strsK l), 0) := by
  have hlt := (sumB (Lib.join l [44])).toNat_lt
  have h1 := hexv_hexd (n := (sumB (Lib.join l [44])).toNat / 16) (by omega)
  have h2 := hexv_hexd (n := (sumB (Lib.join l [44])).toNat % 16) (by omega)
  rw [txt_length] at hl
  unfold txt
  rw [prs_six _ _ _ _ _ _ _ hl, if_pos ⟨rfl, rfl, by omega, by omega, rfl, rfl⟩]
  unfold prsT
  rw [spl_valid h, if_pos h, if_pos (by rw [h1, h2]; omega)]

theorem frm_ok {l : List (List UInt8)} (h : validB l = true) (hl : (txt (Lib.join l [44])).length ≤ 200) : frm l = (txt (Lib.join l [44]), 0) := by
  unfold frm
  rw [if_pos h, if_neg (by omega)]

theorem txt_fields (L : List Int) (k : Nat) : (txt (Lib.join (vFields L k) [44])).length ≤ 26 := by
  obtain ⟨_, h2, h3⟩ := vFields_ok L k
  have := join_len (vFields L k)
  rw [txt_length]; omega

theorem Lle {t : List Int} : (t.take 600).length ≤ 600 := by simp; omega

end Go.Proofs.YtcopadohnlcheaaDoor.Vm
