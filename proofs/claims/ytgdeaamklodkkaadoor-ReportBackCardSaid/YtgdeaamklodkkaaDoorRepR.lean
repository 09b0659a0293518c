import Derived.Test.YtgdeaamklodkkaaDoorSentC
import Derived.Test.YtgdeaamklodkkaaDoorRawSum
import Derived.Test.YtgdeaamklodkkaaDoorRaw
import Derived.Test.YtgdeaamklodkkaaDoorPrims
import Derived.Lib.AtoiAllCases
/- Contracts of chapter 36: sums, entries, lines. -/
namespace Go.Proofs.YtgdeaamklodkkaaDoor.Vm
set_option linter.unusedVariables false
set_option linter.unusedSimpArgs false

/-- One byte more in a sum. -/
def sumStep (x : Int) (b : UInt8) : Int :=
  IntKind.u64.wrap (IntKind.u64.wrap (↑(BitVec.ofInt 64 x ^^^ BitVec.ofInt 64 (IntKind.u64.wrap (b.toNat : Int))).toNat : Int) * 1099511628211)

def sumB (x : Int) (s : List UInt8) : Int := s.foldl sumStep x

theorem sumB_cons (x : Int) (b : UInt8) (s : List UInt8) : sumB x (b :: s) = sumB (sumStep x b) s := rfl

theorem sumB_app (x : Int) (s t : List UInt8) : sumB x (s ++ t) = sumB (sumB x s) t := List.foldl_append ..

theorem lp9 (pre l : List UInt8) (x : Int) (h : (pre ++ l).length ≤ 9223372036854775807) :
    lp E (denC E) 24 0 [] 0 { vals := [AV.int .u64 x, AV.str (pre ++ l), AV.int .i64 pre.length], blks := [] } = some (.exit 0, { vals := [AV.int .u64 (sumB x l)], blks := [] }) := by
  induction l generalizing pre x with
  | nil =>
    rw [r24_0]
    have h1 : ltB (pre.length : Int) (((pre ++ []).length : Nat) : Int) = false := by simp [ltB]
    rw [h1]
    rfl
  | cons b l ih =>
    rw [r24_0]
    have hl : pre.length < (pre ++ b :: l).length := by simp
    have h1 : ltB (pre.length : Int) (((pre ++ b :: l).length : Nat) : Int) = true := by simp [ltB]; omega
    have h0 : leB 0 (pre.length : Int) = true := by simp [leB]
    rw [h1, h0]
    simp only [Bool.and_self, ctl_true]
    have e1 : byteAt (pre ++ b :: l) (pre.length : Int) = (b.toNat : Int) := by
      unfold byteAt
      rw [nth_eq, Int.toNat_natCast, getD_mid]
    rw [e1, w64 (n := (pre.length : Int) + 1) (by omega), len_snoc pre b, app_cons pre b l]
    exact ih (pre ++ [b]) _ (by simpa using h)

theorem lp39 (pre l : List UInt8) (x : Int) (h : (pre ++ l).length ≤ 9223372036854775807) :
    lp E (denC E) 57 0 [] 0 { vals := [AV.int .u64 x, AV.sl 1 (byteEs (pre ++ l)), AV.int .i64 (pre ++ l).length, AV.int .i64 pre.length], blks := [] } = some (.exit 0, { vals := [AV.int .u64 (sumB x l)], blks := [] }) := by
  induction l generalizing pre x with
  | nil =>
    rw [r57_0]
    have h1 : ltB (pre.length : Int) (((pre ++ []).length : Nat) : Int) = false := by simp [ltB]
    rw [h1]
    rfl
  | cons b l ih =>
    rw [r57_0]
    have hl : pre.length < (pre ++ b :: l).length := by simp
    have h1 : ltB (pre.length : Int) (((pre ++ b :: l).length : Nat) : Int) = true := by simp [ltB]; omega
    rw [h1, ctl_true, getE_bytes (by omega)]
    have e1 : (pre ++ b :: l).getD (pre.length : Int).toNat 0 = b := by rw [Int.toNat_natCast, getD_mid]
    rw [e1]
    have e2 : okCs [Sh.int IntKind.u8] [PV.int .u8 (b.toNat : Int)] = true := rfl
    rw [e2, ctl_true]
    show lp E (denC E) 57 0 [] 0 { vals := [AV.int .u64 (sumStep x b), AV.sl 1 (byteEs (pre ++ b :: l)), AV.int .i64 (pre ++ b :: l).length, AV.int .i64 (IntKind.i64.wrap ((pre.length : Int) + 1))], blks := [] } = _
    rw [w64 (n := (pre.length : Int) + 1) (by omega), len_snoc pre b, app_cons pre b l]
    exact ih (pre ++ [b]) _ (by simpa using h)

theorem c_SumD (x : Int) (s : List UInt8) (h : s.length ≤ 9223372036854775807) : denC E 24 [AV.int .u64 x, AV.str s] [] = some ([RV.p (PV.int .u64 (sumB x s))], []) := by
  rw [denC_eq, r24]
  have := lp9 [] s x h
  simp only [List.nil_append, List.length_nil, Int.ofNat_zero] at this
  rw [this]
  rfl

theorem c_SumL (x : Int) (s : List UInt8) (h : s.length ≤ 9223372036854775807) : denC E 57 [AV.int .u64 x, AV.str s] [] = some ([RV.p (PV.int .u64 (sumB x s))], []) := by
  rw [denC_eq, r57, byteEs_length]
  have := lp39 [] s x h
  simp only [List.nil_append, List.length_nil, Int.ofNat_zero] at this
  rw [this]
  rfl

/-- How many words an entry of a kind has. -/
def wordsP (k : Int) : Int := if k = 1 ∨ k = 2 ∨ k = 3 then 1 else if k = 4 ∨ k = 5 ∨ k = 7 then 2 else if k = 6 then 4 else if k = 8 then 3 else -1

theorem c_words (k : Int) : denC E 59 [AV.int .i64 k] [] = some ([RV.p (PV.int .i64 (wordsP k))], []) := by
  rw [denC_eq, r59]
  by_cases h : 1 ≤ k ∧ k ≤ 8
  · have : k = 1 ∨ k = 2 ∨ k = 3 ∨ k = 4 ∨ k = 5 ∨ k = 6 ∨ k = 7 ∨ k = 8 := by omega
    rcases this with rfl | rfl | rfl | rfl | rfl | rfl | rfl | rfl <;> rfl
  · have e : ∀ n : Int, 1 ≤ n → n ≤ 8 → (k == n) = false := fun n h1 h2 => by
      rw [beq_eq_false_iff_ne]; omega
    rw [e 1 (by omega) (by omega), e 2 (by omega) (by omega), e 3 (by omega) (by omega), e 4 (by omega) (by omega), e 5 (by omega) (by omega), e 6 (by omega) (by omega), e 7 (by omega) (by omega), e 8 (by omega) (by omega)]
    have : wordsP k = -1 := by
      unfold wordsP
      rw [if_neg (by omega), if_neg (by omega), if_neg (by omega), if_neg (by omega)]
    rw [this]
    rfl

theorem c_wordsD (k : Int) : denC E 41 [AV.int .i64 k] [] = some ([RV.p (PV.int .i64 (wordsP k))], []) := by
  rw [denC_eq, r41]
  by_cases h : 1 ≤ k ∧ k ≤ 8
  · have : k = 1 ∨ k = 2 ∨ k = 3 ∨ k = 4 ∨ k = 5 ∨ k = 6 ∨ k = 7 ∨ k = 8 := by omega
    rcases this with rfl | rfl | rfl | rfl | rfl | rfl | rfl | rfl <;> rfl
  · have e1 : bnd (ctl (!ltB k 1) (some (ltB 8 k)) (some true)) (fun v : Bool => some v) = some true := by
      by_cases h1 : k < 1
      · simp [ltB, h1, ctl, bnd]
      · have : 8 < k := by omega
        simp [ltB, h1, this, ctl, bnd]
    have : wordsP k = -1 := by
      unfold wordsP
      rw [if_neg (by omega), if_neg (by omega), if_neg (by omega), if_neg (by omega)]
    rw [this]
    have e2 : ctl (!ltB k 1) (some (ltB 8 k)) (some true) = some true := by
      by_cases h1 : k < 1
      · simp [ltB, h1, ctl]
      · have : 8 < k := by omega
        simp [ltB, h1, this, ctl]
    rw [e2]
    rfl

/-- All numbers are within the limits of a word. -/
def inside (ws : List Int) : Bool := ws.all fun x => decide (-1000000000 ≤ x) && decide (x ≤ 1000000000)

theorem out_of (x : Int) : ctl (!ltB x (-1000000000)) (some (ltB 1000000000 x)) (some true) = some (!(decide (-1000000000 ≤ x) && decide (x ≤ 1000000000))) := by
  by_cases h1 : x < -1000000000
  · have : ¬ -1000000000 ≤ x := by omega
    simp [ltB, h1, ctl, this]
  · have h2 : -1000000000 ≤ x := by omega
    by_cases h3 : 1000000000 < x
    · have : ¬ x ≤ 1000000000 := by omega
      simp [ltB, h1, h3, ctl, this]
    · have : x ≤ 1000000000 := by omega
      simp [ltB, h1, h3, ctl, this, h2]

theorem inside_cons (x : Int) (l : List Int) : inside (x :: l) = ((decide (-1000000000 ≤ x) && decide (x ≤ 1000000000)) && inside l) := rfl

theorem mid_lt {α : Type} (pre : List α) (b : α) (l : List α) : 0 ≤ (pre.length : Int) ∧ (pre.length : Int) < ((pre ++ b :: l).length : Int) := by simp; omega

theorem lp_Within (pre l : List Int) (h : (pre ++ l).length ≤ 9223372036854775807) :
    lp E (denC E) 76 0 [] 0 { vals := [AV.int .i64 1000000000, AV.sl 1 (intsK .i64 (pre ++ l)), AV.int .i64 (pre ++ l).length, AV.int .i64 pre.length], blks := [] } =
      some (if inside l then (.exit 0, { vals := [], blks := [] }) else (.ret, { vals := [AV.bool false], blks := [] })) := by
  induction l generalizing pre with
  | nil =>
    rw [r76_0]
    have h1 : ltB (pre.length : Int) (((pre ++ []).length : Nat) : Int) = false := by simp [ltB]
    rw [h1]
    rfl
  | cons b l ih =>
    rw [r76_0]
    have hl := mid_lt pre b l
    have h1 : ltB (pre.length : Int) (((pre ++ b :: l).length : Nat) : Int) = true := by simp [ltB]; omega
    rw [h1, ctl_true, getE_ints hl]
    have e1 : (pre ++ b :: l).getD (pre.length : Int).toNat 0 = b := by rw [Int.toNat_natCast, getD_mid]
    rw [e1]
    have e2 : okCs [Sh.int IntKind.i64] [PV.int .i64 b] = true := rfl
    rw [e2, ctl_true]
    have e3 : (nth PV.nilp [PV.int .i64 b] 0).toInt = b := rfl
    have e4 : IntKind.i64.wrap (0 - 1000000000) = -1000000000 := by decide +kernel
    rw [e3, e4, out_of, inside_cons]
    cases hb : (decide (-1000000000 ≤ b) && decide (b ≤ 1000000000)) with
    | false => rfl
    | true =>
      simp only [Bool.not_true, Bool.true_and]
      show lp E (denC E) 76 0 [] 0 { vals := [AV.int .i64 1000000000, AV.sl 1 (intsK .i64 (pre ++ b :: l)), AV.int .i64 (pre ++ b :: l).length, AV.int .i64 (IntKind.i64.wrap ((pre.length : Int) + 1))], blks := [] } = _
      rw [w64 (n := (pre.length : Int) + 1) (by omega), len_snoc pre b, app_cons pre b l]
      exact ih (pre ++ [b]) (by simpa using h)

theorem intsK_len (k : IntKind) (l : List Int) : (intsK k l).length = l.length := by simp [intsK]

theorem c_Within (ws : List Int) (h : ws.length ≤ 9223372036854775807) : denC E 76 [AV.int .i64 1000000000, AV.sl 1 (intsK .i64 ws)] [] = some ([RV.p (PV.bool (inside ws))], []) := by
  rw [denC_eq, r76, intsK_len]
  have := lp_Within [] ws h
  simp only [List.nil_append, List.length_nil, Int.ofNat_zero] at this
  rw [this]
  cases hb : inside ws <;> rfl

/-- An entry as it may be. -/
def validP (t k : Int) (ws : List Int) : Bool := ((decide (0 ≤ t) && decide (t ≤ 2147483648)) && decide ((ws.length : Int) = wordsP k)) && inside ws

theorem c_ValidE (t k : Int) (ws : List Int) (h : ws.length ≤ 9223372036854775807) : denC E 56 [AV.agg [PV.int .i64 t, PV.int .i64 k, PV.sl 1 (intsK .i64 ws)]] [] = some ([RV.p (PV.bool (validP t k ws))], []) := by
  rw [denC_eq, r56, c_words, c_Within ws h, intsK_len]
  have e1 : ctl (leB 0 t) (some (leB t 2147483648)) (some false) = some (decide (0 ≤ t) && decide (t ≤ 2147483648)) := by
    by_cases h0 : 0 ≤ t <;> simp [leB, h0, ctl]
  rw [e1]
  unfold validP
  have e2 : ((ws.length : Int) == wordsP k) = decide ((ws.length : Int) = wordsP k) := by
    by_cases hq : (ws.length : Int) = wordsP k
    · rw [decide_eq_true hq]; simpa using hq
    · rw [decide_eq_false hq]; simpa using hq
  cases (decide (0 ≤ t) && decide (t ≤ 2147483648)) with
  | false => rfl
  | true =>
    simp only [bnd_some, ctl_true, ctl_false, ctl_and, ctl_or', ctl_or2, x_toPV, x_toCs, x_toCs2, x_toEs, x_bEs, x_bCs, x_aPV, x_aCs, x_int, x_bool, x_str, x_es, x_esn, nth_0, nth_1, nth_2, nth_3, nth_4, nth_5, nth_6, nth_7, nth_8, nth_9, y_nil, y_int, y_bool, y_str, y_sl, y_nils, y_agg, y_ownp, y_own, z_nil, z_int, z_bool, z_str, z_sl, z_nils, b_nil, b_arr, b_box1, b_box2, b_box3, b_box4, List.map_cons, List.map_nil, Bool.and_self, Bool.and_true, Bool.true_and, Bool.not_true, Bool.not_false, Bool.or_false, Bool.false_or, cond_true, cond_false, okPack, okPut, okPutBlks, okPutCells, q_isP, q_isAg, q_isBox, q_isArr, q_int, q_bool, q_str, q_sl, q_nils, e_exit, e_ret, e_nrm, e_ret_exit, e_exit_ret, e_nrm_exit, e_nrm_ret, e_exit_nrm, e_ret_nrm, Nat.zero_add, Nat.reduceAdd, noslR, noslP, noslB, noslA, List.all_cons, List.all_nil, e2]

theorem lp_ValidD (pre l : List Int) (h : (pre ++ l).length ≤ 9223372036854775807) :
    lp E (denC E) 23 0 [] 0 { vals := [AV.sl 1 (intsK .i64 (pre ++ l)), AV.int .i64 (pre ++ l).length, AV.int .i64 pre.length], blks := [] } =
      some (if inside l then (.exit 0, { vals := [], blks := [] }) else (.ret, { vals := [AV.bool false], blks := [] })) := by
  induction l generalizing pre with
  | nil =>
    rw [r23_0]
    have h1 : ltB (pre.length : Int) (((pre ++ []).length : Nat) : Int) = false := by simp [ltB]
    rw [h1]
    rfl
  | cons b l ih =>
    rw [r23_0]
    have hl := mid_lt pre b l
    have h1 : ltB (pre.length : Int) (((pre ++ b :: l).length : Nat) : Int) = true := by simp [ltB]; omega
    rw [h1, ctl_true, getE_ints hl]
    have e1 : (pre ++ b :: l).getD (pre.length : Int).toNat 0 = b := by rw [Int.toNat_natCast, getD_mid]
    rw [e1]
    have e2 : okCs [Sh.int IntKind.i64] [PV.int .i64 b] = true := rfl
    rw [e2, ctl_true]
    have e3 : (nth PV.nilp [PV.int .i64 b] 0).toInt = b := rfl
    rw [e3, out_of, inside_cons]
    cases hb : (decide (-1000000000 ≤ b) && decide (b ≤ 1000000000)) with
    | false => rfl
    | true =>
      simp only [Bool.not_true, Bool.true_and]
      show lp E (denC E) 23 0 [] 0 { vals := [AV.sl 1 (intsK .i64 (pre ++ b :: l)), AV.int .i64 (pre ++ b :: l).length, AV.int .i64 (IntKind.i64.wrap ((pre.length : Int) + 1))], blks := [] } = _
      rw [w64 (n := (pre.length : Int) + 1) (by omega), len_snoc pre b, app_cons pre b l]
      exact ih (pre ++ [b]) (by simpa using h)

theorem c_ValidD (t k : Int) (ws : List Int) (h : ws.length ≤ 9223372036854775807) : denC E 23 [AV.agg [PV.int .i64 t, PV.int .i64 k, PV.sl 1 (intsK .i64 ws)]] [] = some ([RV.p (PV.bool (validP t k ws))], []) := by
  rw [denC_eq, r23, c_wordsD, intsK_len]
  have hlp := lp_ValidD [] ws h
  simp only [List.nil_append, List.length_nil, Int.ofNat_zero] at hlp
  rw [hlp]
  have e1 : ctl (!ltB t 0) (some (ltB 2147483648 t)) (some true) = some (!(decide (0 ≤ t) && decide (t ≤ 2147483648))) := by
    by_cases h0 : t < 0
    · have : ¬ 0 ≤ t := by omega
      simp [ltB, h0, ctl, this]
    · have h1 : 0 ≤ t := by omega
      by_cases h2 : 2147483648 < t
      · have : ¬ t ≤ 2147483648 := by omega
        simp [ltB, h0, h2, ctl, this]
      · have : t ≤ 2147483648 := by omega
        simp [ltB, h0, h2, ctl, this, h1]
  rw [e1]
  unfold validP
  have e2 : ((ws.length : Int) != wordsP k) = !decide ((ws.length : Int) = wordsP k) := by
    by_cases hq : (ws.length : Int) = wordsP k
    · rw [decide_eq_true hq]; simpa using hq
    · rw [decide_eq_false hq]; simpa using hq
  have e3 : ltB (wordsP k) 0 = true → decide ((ws.length : Int) = wordsP k) = false := fun hw => by
    have : wordsP k < 0 := by simpa [ltB] using hw
    exact decide_eq_false (by omega)
  cases (decide (0 ≤ t) && decide (t ≤ 2147483648)) with
  | false => rfl
  | true =>
    simp only [bnd_some, ctl_true, ctl_false, ctl_and, ctl_or', ctl_or2, x_toPV, x_toCs, x_toCs2, x_toEs, x_bEs, x_bCs, x_aPV, x_aCs, x_int, x_bool, x_str, x_es, x_esn, nth_0, nth_1, nth_2, nth_3, nth_4, nth_5, nth_6, nth_7, nth_8, nth_9, y_nil, y_int, y_bool, y_str, y_sl, y_nils, y_agg, y_ownp, y_own, z_nil, z_int, z_bool, z_str, z_sl, z_nils, b_nil, b_arr, b_box1, b_box2, b_box3, b_box4, List.map_cons, List.map_nil, Bool.and_self, Bool.and_true, Bool.true_and, Bool.not_true, Bool.not_false, Bool.or_false, Bool.false_or, cond_true, cond_false, okPack, okPut, okPutBlks, okPutCells, q_isP, q_isAg, q_isBox, q_isArr, q_int, q_bool, q_str, q_sl, q_nils, e_exit, e_ret, e_nrm, e_ret_exit, e_exit_ret, e_nrm_exit, e_nrm_ret, e_exit_nrm, e_ret_nrm, Nat.zero_add, Nat.reduceAdd, noslR, noslP, noslB, noslA, List.all_cons, List.all_nil, e2]
    cases hw : ltB (wordsP k) 0 with
    | true => rw [e3 hw]; rfl
    | false =>
      cases decide ((ws.length : Int) = wordsP k) with
      | false => rfl
      | true => cases inside ws <;> rfl

theorem c_Itoa (n : Int) (h : -9223372036854775808 ≤ n ∧ n ≤ 9223372036854775807) : denC E 36 [AV.int .i64 n] [] = some ([RV.p (PV.str (Lib.itoa n))], []) := by
  rw [denC_eq]
  have : funK E (denC E) 36 [AV.int .i64 n] [] = match pItoa [AV.int .i64 n] with | some rs => some (rs, []) | none => none := by kernel_rfl
  rw [this]
  unfold pItoa
  simp only [h, and_self, if_true]

theorem strsK_snoc (c : List (List UInt8)) (s : List UInt8) : strsK c ++ [[PV.str s]] = strsK (c ++ [s]) := by simp [strsK]

theorem lp_line (pre l : List Int) (c : List (List UInt8)) (hb : ∀ x ∈ l, -9223372036854775808 ≤ x ∧ x ≤ 9223372036854775807) (h : (pre ++ l).length ≤ 1000000) (hc : c.length + l.length ≤ 2000000) :
    lp E (denC E) 58 0 [] 0 { vals := [AV.sl 1 (intsK .i64 (pre ++ l)), AV.int .i64 (pre ++ l).length, AV.int .i64 pre.length], blks := [Blk.arr 1 (strsK c)] } =
      some (.exit 0, { vals := [], blks := [Blk.arr 1 (strsK (c ++ l.map Lib.itoa))] }) := by
  induction l generalizing pre c with
  | nil =>
    rw [r58_0]
    have h1 : ltB (pre.length : Int) (((pre ++ []).length : Nat) : Int) = false := by simp [ltB]
    rw [h1, ctl_false, List.map_nil, List.append_nil]
  | cons b l ih =>
    rw [r58_0]
    have hl := mid_lt pre b l
    have h1 : ltB (pre.length : Int) (((pre ++ b :: l).length : Nat) : Int) = true := by simp [ltB]; omega
    rw [h1, ctl_true, getE_ints hl]
    have e1 : (pre ++ b :: l).getD (pre.length : Int).toNat 0 = b := by rw [Int.toNat_natCast, getD_mid]
    rw [e1]
    have e2 : okCs [Sh.int IntKind.i64] [PV.int .i64 b] = true := rfl
    rw [e2, ctl_true]
    have e3 : (nth PV.nilp [PV.int .i64 b] 0).toInt = b := rfl
    rw [e3, c_Itoa b (hb b (.head _))]
    have e4 : leN (((strsK c).length + 1) * 16) 140737488355328 = true := by
      rw [strsK_length]
      simp only [List.length_cons] at hc
      simp [leN]; omega
    show ctl (leN (((strsK c).length + 1) * 16) 140737488355328) (lp E (denC E) 58 0 [] 0 { vals := [AV.sl 1 (intsK .i64 (pre ++ b :: l)), AV.int .i64 (pre ++ b :: l).length, AV.int .i64 (IntKind.i64.wrap ((pre.length : Int) + 1))], blks := [Blk.arr 1 (strsK c ++ [[PV.str (Lib.itoa b)]])] }) none = _
    rw [e4, ctl_true, w64 (n := (pre.length : Int) + 1) (by omega), len_snoc pre b, app_cons pre b l, strsK_snoc]
    rw [ih (pre ++ [b]) (c ++ [Lib.itoa b]) (fun x hx => hb x (.tail _ hx)) (by simpa using h) (by simp at hc ⊢; omega)]
    simp

theorem c_JoinB (l : List (List UInt8)) (sep : List UInt8) (h : l.length ≤ 140737488355328 ∧ (Lib.join l sep).length ≤ 140737488355328) : denC E 77 [AV.sl 1 (strsK l), AV.str sep] [] = some ([RV.p (PV.str (Lib.join l sep))], []) := by
  rw [denC_eq]
  have hs : ∀ l : List (List UInt8), strsOf (strsK l) = some l := fun l => by
    induction l with
    | nil => rfl
    | cons x r ih =>
      unfold strsK at ih ⊢
      simp only [List.map_cons, strsOf, ih]
  have : funK E (denC E) 77 [AV.sl 1 (strsK l), AV.str sep] [] = match pJoin [AV.sl 1 (strsK l), AV.str sep] with | some rs => some (rs, []) | none => none := by kernel_rfl
  rw [this]
  unfold pJoin
  simp only [hs, h, and_self, if_true]

/-- The line of an entry. -/
def lineP (t k : Int) (ws : List Int) : List UInt8 := Lib.join (Lib.itoa t :: Lib.itoa k :: ws.map Lib.itoa) [32] ++ [10]

def wordOk (x : Int) : Prop := -9223372036854775808 ≤ x ∧ x ≤ 9223372036854775807

theorem c_lineE (t k : Int) (ws : List Int) (ht : wordOk t) (hk : wordOk k) (hw : ∀ x ∈ ws, wordOk x) (hl : ws.length ≤ 1000000) (hj : (Lib.join (Lib.itoa t :: Lib.itoa k :: ws.map Lib.itoa) [32]).length ≤ 140737488355327) :
    denC E 58 [AV.agg [PV.int .i64 t, PV.int .i64 k, PV.sl 1 (intsK .i64 ws)]] [] = some ([RV.p (PV.str (lineP t k ws))], []) := by
  rw [denC_eq, r58, c_Itoa t ht, c_Itoa k hk, intsK_len]
  have hlp := lp_line [] ws [Lib.itoa t, Lib.itoa k] hw hl (by simp; omega)
  simp only [List.nil_append, List.length_nil, Int.ofNat_zero] at hlp
  have e1 : strsK [Lib.itoa t, Lib.itoa k] = [[PV.str (Lib.itoa t)], [PV.str (Lib.itoa k)]] := rfl
  rw [e1] at hlp
  simp only [bnd_some, ctl_true, ctl_false, ctl_and, ctl_or', ctl_or2, x_toPV, x_toCs, x_toCs2, x_toEs, x_bEs, x_bCs, x_aPV, x_aCs, x_int, x_bool, x_str, x_es, x_esn, nth_0, nth_1, nth_2, nth_3, nth_4, nth_5, nth_6, nth_7, nth_8, nth_9, y_nil, y_int, y_bool, y_str, y_sl, y_nils, y_agg, y_ownp, y_own, z_nil, z_int, z_bool, z_str, z_sl, z_nils, b_nil, b_arr, b_box1, b_box2, b_box3, b_box4, List.map_cons, List.map_nil, Bool.and_self, Bool.and_true, Bool.true_and, Bool.not_true, Bool.not_false, Bool.or_false, Bool.false_or, cond_true, cond_false, okPack, okPut, okPutBlks, okPutCells, q_isP, q_isAg, q_isBox, q_isArr, q_int, q_bool, q_str, q_sl, q_nils, e_exit, e_ret, e_nrm, e_ret_exit, e_exit_ret, e_nrm_exit, e_nrm_ret, e_exit_nrm, e_ret_nrm, Nat.zero_add, Nat.reduceAdd, noslR, noslP, noslB, noslA, List.all_cons, List.all_nil]
  rw [hlp]
  simp only [bnd_some, ctl_true, ctl_false, ctl_and, ctl_or', ctl_or2, x_toPV, x_toCs, x_toCs2, x_toEs, x_bEs, x_bCs, x_aPV, x_aCs, x_int, x_bool, x_str, x_es, x_esn, nth_0, nth_1, nth_2, nth_3, nth_4, nth_5, nth_6, nth_7, nth_8, nth_9, y_nil, y_int, y_bool, y_str, y_sl, y_nils, y_agg, y_ownp, y_own, z_nil, z_int, z_bool, z_str, z_sl, z_nils, b_nil, b_arr, b_box1, b_box2, b_box3, b_box4, List.map_cons, List.map_nil, Bool.and_self, Bool.and_true, Bool.true_and, Bool.not_true, Bool.not_false, Bool.or_false, Bool.false_or, cond_true, cond_false, okPack, okPut, okPutBlks, okPutCells, q_isP, q_isAg, q_isBox, q_isArr, q_int, q_bool, q_str, q_sl, q_nils, e_exit, e_ret, e_nrm, e_ret_exit, e_exit_ret, e_nrm_exit, e_nrm_ret, e_exit_nrm, e_ret_nrm, Nat.zero_add, Nat.reduceAdd, noslR, noslP, noslB, noslA, List.all_cons, List.all_nil]
  have hjj := c_JoinB ([Lib.itoa t, Lib.itoa k] ++ ws.map Lib.itoa) [32] ⟨by simp; omega, by simpa using Nat.le_succ_of_le hj⟩
  rw [hjj]
  simp only [bnd_some, ctl_true, ctl_false, ctl_and, ctl_or', ctl_or2, x_toPV, x_toCs, x_toCs2, x_toEs, x_bEs, x_bCs, x_aPV, x_aCs, x_int, x_bool, x_str, x_es, x_esn, nth_0, nth_1, nth_2, nth_3, nth_4, nth_5, nth_6, nth_7, nth_8, nth_9, y_nil, y_int, y_bool, y_str, y_sl, y_nils, y_agg, y_ownp, y_own, z_nil, z_int, z_bool, z_str, z_sl, z_nils, b_nil, b_arr, b_box1, b_box2, b_box3, b_box4, List.map_cons, List.map_nil, Bool.and_self, Bool.and_true, Bool.true_and, Bool.not_true, Bool.not_false, Bool.or_false, Bool.false_or, cond_true, cond_false, okPack, okPut, okPutBlks, okPutCells, q_isP, q_isAg, q_isBox, q_isArr, q_int, q_bool, q_str, q_sl, q_nils, e_exit, e_ret, e_nrm, e_ret_exit, e_exit_ret, e_nrm_exit, e_nrm_ret, e_exit_nrm, e_ret_nrm, Nat.zero_add, Nat.reduceAdd, noslR, noslP, noslB, noslA, List.all_cons, List.all_nil]
  have e2 : leN ((Lib.join ([Lib.itoa t, Lib.itoa k] ++ ws.map Lib.itoa) [32]).length + 1) 9223372036854775807 = true := by
    simp only [List.cons_append, List.nil_append]
    simp [leN]; omega
  rw [e2]
  rfl

theorem lp_lineD (pre l : List Int) (s : List UInt8) (hb : ∀ x ∈ l, wordOk x) (h : (pre ++ l).length ≤ 1000000) (hs : (s ++ Lib.joinTail [32] (l.map Lib.itoa)).length ≤ 9223372036854775807) :
    lp E (denC E) 25 0 [] 0 { vals := [AV.str s, AV.sl 1 (intsK .i64 (pre ++ l)), AV.int .i64 (pre ++ l).length, AV.int .i64 pre.length], blks := [] } =
      some (.exit 0, { vals := [AV.str (s ++ Lib.joinTail [32] (l.map Lib.itoa))], blks := [] }) := by
  induction l generalizing pre s with
  | nil =>
    rw [r25_0]
    have h1 : ltB (pre.length : Int) (((pre ++ []).length : Nat) : Int) = false := by simp [ltB]
    rw [h1, ctl_false]
    simp [Lib.joinTail]
  | cons b l ih =>
    rw [r25_0]
    have hl := mid_lt pre b l
    have h1 : ltB (pre.length : Int) (((pre ++ b :: l).length : Nat) : Int) = true := by simp [ltB]; omega
    rw [h1, ctl_true, getE_ints hl]
    have e1 : (pre ++ b :: l).getD (pre.length : Int).toNat 0 = b := by rw [Int.toNat_natCast, getD_mid]
    rw [e1]
    have e2 : okCs [Sh.int IntKind.i64] [PV.int .i64 b] = true := rfl
    rw [e2, ctl_true]
    have e3 : (nth PV.nilp [PV.int .i64 b] 0).toInt = b := rfl
    rw [e3, c_Itoa b (hb b (.head _))]
    have e6 : s ++ Lib.joinTail [32] ((b :: l).map Lib.itoa) = (s ++ ([32] ++ Lib.itoa b)) ++ Lib.joinTail [32] (l.map Lib.itoa) := by
      simp [Lib.joinTail]
    rw [e6] at hs ⊢
    have e4 : leN (1 + (Lib.itoa b).length) 9223372036854775807 = true := by simp at hs; simp [leN]; omega
    have e5 : leN (s.length + ([32] ++ Lib.itoa b).length) 9223372036854775807 = true := by simp at hs; simp [leN]; omega
    show ctl (leN (1 + (Lib.itoa b).length) 9223372036854775807) (ctl (leN (s.length + ([32] ++ Lib.itoa b).length) 9223372036854775807) (lp E (denC E) 25 0 [] 0 { vals := [AV.str (s ++ ([32] ++ Lib.itoa b)), AV.sl 1 (intsK .i64 (pre ++ b :: l)), AV.int .i64 (pre ++ b :: l).length, AV.int .i64 (IntKind.i64.wrap ((pre.length : Int) + 1))], blks := [] }) none) none = _
    rw [e4, e5, ctl_true, ctl_true, w64 (n := (pre.length : Int) + 1) (by omega), len_snoc pre b, app_cons pre b l]
    exact ih (pre ++ [b]) (s ++ ([32] ++ Lib.itoa b)) (fun x hx => hb x (.tail _ hx)) (by simpa using h) hs

theorem c_lineD (t k : Int) (ws : List Int) (ht : wordOk t) (hk : wordOk k) (hw : ∀ x ∈ ws, wordOk x) (hl : ws.length ≤ 1000000) (hj : (Lib.join (Lib.itoa t :: Lib.itoa k :: ws.map Lib.itoa) [32]).length ≤ 140737488355327) :
    denC E 25 [AV.agg [PV.int .i64 t, PV.int .i64 k, PV.sl 1 (intsK .i64 ws)]] [] = some ([RV.p (PV.str (lineP t k ws))], []) := by
  have ej : Lib.join (Lib.itoa t :: Lib.itoa k :: ws.map Lib.itoa) [32] = (Lib.itoa t ++ [32] ++ Lib.itoa k) ++ Lib.joinTail [32] (ws.map Lib.itoa) := by
    rw [Lib.join_cons]
    simp [Lib.joinTail]
  unfold lineP
  rw [ej] at hj ⊢
  rw [denC_eq, r25, c_Itoa t ht, c_Itoa k hk, intsK_len]
  have hlp := lp_lineD [] ws (Lib.itoa t ++ [32] ++ Lib.itoa k) hw hl (by omega)
  simp only [List.nil_append, List.length_nil, Int.ofNat_zero] at hlp
  simp only [bnd_some, ctl_true, ctl_false, ctl_and, ctl_or', ctl_or2, x_toPV, x_toCs, x_toCs2, x_toEs, x_bEs, x_bCs, x_aPV, x_aCs, x_int, x_bool, x_str, x_es, x_esn, nth_0, nth_1, nth_2, nth_3, nth_4, nth_5, nth_6, nth_7, nth_8, nth_9, y_nil, y_int, y_bool, y_str, y_sl, y_nils, y_agg, y_ownp, y_own, z_nil, z_int, z_bool, z_str, z_sl, z_nils, b_nil, b_arr, b_box1, b_box2, b_box3, b_box4, List.map_cons, List.map_nil, Bool.and_self, Bool.and_true, Bool.true_and, Bool.not_true, Bool.not_false, Bool.or_false, Bool.false_or, cond_true, cond_false, okPack, okPut, okPutBlks, okPutCells, q_isP, q_isAg, q_isBox, q_isArr, q_int, q_bool, q_str, q_sl, q_nils, e_exit, e_ret, e_nrm, e_ret_exit, e_exit_ret, e_nrm_exit, e_nrm_ret, e_exit_nrm, e_ret_nrm, Nat.zero_add, Nat.reduceAdd, noslR, noslP, noslB, noslA, List.all_cons, List.all_nil]
  rw [hlp]
  simp only [bnd_some, ctl_true, ctl_false, ctl_and, ctl_or', ctl_or2, x_toPV, x_toCs, x_toCs2, x_toEs, x_bEs, x_bCs, x_aPV, x_aCs, x_int, x_bool, x_str, x_es, x_esn, nth_0, nth_1, nth_2, nth_3, nth_4, nth_5, nth_6, nth_7, nth_8, nth_9, y_nil, y_int, y_bool, y_str, y_sl, y_nils, y_agg, y_ownp, y_own, z_nil, z_int, z_bool, z_str, z_sl, z_nils, b_nil, b_arr, b_box1, b_box2, b_box3, b_box4, List.map_cons, List.map_nil, Bool.and_self, Bool.and_true, Bool.true_and, Bool.not_true, Bool.not_false, Bool.or_false, Bool.false_or, cond_true, cond_false, okPack, okPut, okPutBlks, okPutCells, q_isP, q_isAg, q_isBox, q_isArr, q_int, q_bool, q_str, q_sl, q_nils, e_exit, e_ret, e_nrm, e_ret_exit, e_exit_ret, e_nrm_exit, e_nrm_ret, e_exit_nrm, e_ret_nrm, Nat.zero_add, Nat.reduceAdd, noslR, noslP, noslB, noslA, List.all_cons, List.all_nil]
  have e1 : leN ((Lib.itoa t).length + 1) 9223372036854775807 = true := by simp at hj; simp [leN]; omega
  have e2 : leN ((Lib.itoa t ++ [32]).length + (Lib.itoa k).length) 9223372036854775807 = true := by simp at hj; simp [leN]; omega
  have e3 : leN ((Lib.itoa t ++ [32] ++ Lib.itoa k ++ Lib.joinTail [32] (ws.map Lib.itoa)).length + 1) 9223372036854775807 = true := by simp at hj; simp [leN]; omega
  rw [e1, e2, e3]
  rfl

/-- An entry: its time, its kind, its words. -/
structure En where
  t : Int
  k : Int
  ws : List Int
  deriving Inhabited

def enK (e : En) : List PV := [PV.int .i64 e.t, PV.int .i64 e.k, PV.sl 1 (intsK .i64 e.ws)]

def ensK (l : List En) : List (List PV) := l.map enK

theorem ensK_len (l : List En) : (ensK l).length = l.length := by simp [ensK]

theorem getE_ens {α : Type} {l : List En} {i : Int} (hi : 0 ≤ i ∧ i < l.length) (K : List PV → Option α) : getE (ensK l) i K = K (enK (l.getD i.toNat default)) := by
  unfold getE
  rw [ensK_len]
  have h1 : leB 0 i = true := by simpa using hi.1
  have h2 : ltB i l.length = true := by simpa using hi.2
  rw [h1, h2]
  have hlt : i.toNat < l.length := by omega
  simp only [Bool.and_self, ctl_true]
  rw [nth_eq]
  simp [ensK, List.getD, hlt]

theorem c_state (k : Int) : denC E 43 [AV.int .i64 k] [] = some ([RV.p (PV.bool (wordsP k == 1))], []) := by
  rw [denC_eq, r43, c_words]
  rfl

def begin36 : Int := 14695981039346656037

theorem c_Begin : denC E 55 [] [] = some ([RV.p (PV.int .u64 begin36)], []) := by
  rw [denC_eq, r55]
  rfl

theorem dec_small36 {u : Nat} (h : u < 10) : (Lib.decDigits u).length = 1 := by rw [Lib.decDigits_length, Lib.nDigits_small h]

theorem dec_len36 (k : Nat) : ∀ u : Nat, u < 10 ^ (k + 1) → (Lib.decDigits u).length ≤ k + 1 := by
  induction k with
  | zero => intro u h; rw [dec_small36 (by simpa using h)]; omega
  | succ k ih =>
    intro u h
    by_cases hu : u < 10
    · rw [dec_small36 hu]; omega
    · have := ih (u / 10) (by rw [Nat.pow_succ] at h; omega)
      rw [Lib.decDigits_length] at this ⊢
      rw [Lib.nDigits_big hu]; omega

theorem itoa_len36 {n : Int} (h : wordOk n) : (Lib.itoa n).length ≤ 20 := by
  unfold wordOk at h
  have h2 := dec_len36 18 n.natAbs (by omega)
  have h3 := dec_len36 18 n.toNat (by omega)
  unfold Lib.itoa
  split
  · simp; omega
  · omega

theorem tail_len (l : List Int) (h : ∀ x ∈ l, wordOk x) : (Lib.joinTail [32] (l.map Lib.itoa)).length ≤ 21 * l.length := by
  induction l with
  | nil => simp [Lib.joinTail]
  | cons x l ih =>
    have h1 := itoa_len36 (h x (.head _))
    have h2 := ih fun y hy => h y (.tail _ hy)
    simp only [Lib.joinTail, List.map_cons, List.flatten_cons, List.length_append, List.length_cons, List.length_nil] at h2 ⊢
    omega

theorem wordsP_le (k : Int) : wordsP k ≤ 4 := by
  unfold wordsP
  split
  · omega
  · split
    · omega
    · split
      · omega
      · split <;> omega

theorem wordsP_kind {k : Int} (h : 0 ≤ wordsP k) : 1 ≤ k ∧ k ≤ 8 := by
  unfold wordsP at h
  split at h
  · omega
  · split at h
    · omega
    · split at h
      · omega
      · split at h <;> omega

/-- What a valid entry has. -/
theorem validP_all {t k : Int} {ws : List Int} (h : validP t k ws = true) : 0 ≤ t ∧ wordOk t ∧ wordOk k ∧ (∀ x ∈ ws, wordOk x) ∧ ws.length ≤ 4 ∧ (Lib.join (Lib.itoa t :: Lib.itoa k :: ws.map Lib.itoa) [32]).length ≤ 200 ∧ (ws.length : Int) = wordsP k := by
  unfold validP at h
  simp only [Bool.and_eq_true, decide_eq_true_eq] at h
  obtain ⟨⟨⟨h1, h2⟩, h3⟩, h4⟩ := h
  have hk := wordsP_kind (k := k) (by omega)
  have h5 := wordsP_le k
  have hw : ∀ x ∈ ws, wordOk x := fun x hx => by
    have := List.all_eq_true.1 h4 x hx
    simp only [Bool.and_eq_true, decide_eq_true_eq] at this
    unfold wordOk
    omega
  have ht : wordOk t := by unfold wordOk; omega
  have hk' : wordOk k := by unfold wordOk; omega
  refine ⟨h1, ht, hk', hw, by omega, ?_, h3⟩
  have e : Lib.itoa t :: Lib.itoa k :: ws.map Lib.itoa = Lib.itoa t :: (k :: ws).map Lib.itoa := rfl
  rw [e, Lib.join_cons, List.length_append]
  have a1 := itoa_len36 ht
  have a2 := tail_len (k :: ws) (fun x hx => by
    rcases List.mem_cons.1 hx with rfl | hx
    · exact hk'
    · exact hw x hx)
  simp only [List.length_cons] at a2
  omega

/-- The sum of entries one behind the other; none where one may not stand there. -/
def runB : Int → Int → List En → Option Int
  | s, _, [] => some s
  | s, p, e :: l => if validP e.t e.k e.ws = true ∧ p ≤ e.t then runB (sumB s (lineP e.t e.k e.ws)) e.t l else none

/-- What Check says of a book. -/
def checkP (l : List En) (s : Int) : Int := if 200 < l.length then 72 else if runB begin36 0 l = some s then 0 else 72

theorem lp_CheckE (b : List En) (bs : Int) (hlen : b.length ≤ 200) (hws : ∀ e ∈ b, e.ws.length ≤ 1000000) : ∀ (l pre : List En) (p s : Int), pre ++ l = b → ((pre = [] ∧ p = 0) ∨ ∃ q a, pre = q ++ [a] ∧ a.t = p) →
    lp E (denC E) 42 0 [] 0 { vals := [AV.int .u64 s, AV.sl 3 (ensK b), AV.int .i64 b.length, AV.int .i64 pre.length], blks := [Blk.box [AV.sl 3 (ensK b), AV.int .u64 bs]] } =
      some (match runB s p l with
        | some x => (.exit 0, { vals := [AV.int .u64 x], blks := [Blk.box [AV.sl 3 (ensK b), AV.int .u64 bs]] })
        | none => (.ret, { vals := [AV.int .i64 72], blks := [] })) := by
  intro l
  induction l with
  | nil =>
    intro pre p s hb hp
    rw [r42_0]
    have h1 : ltB (pre.length : Int) (b.length : Int) = false := by rw [← hb]; simp [ltB]
    rw [h1, ctl_false]
    rfl
  | cons e l ih =>
    intro pre p s hb hp
    rw [r42_0]
    have hl : 0 ≤ (pre.length : Int) ∧ (pre.length : Int) < (b.length : Int) := by rw [← hb]; exact mid_lt pre e l
    have h1 : ltB (pre.length : Int) (b.length : Int) = true := by simp [ltB]; omega
    rw [h1, ctl_true, getE_ens hl]
    have e1 : b.getD (pre.length : Int).toNat default = e := by rw [Int.toNat_natCast, ← hb, getD_mid]
    rw [e1]
    have e2 : okCs [Sh.int IntKind.i64, Sh.int IntKind.i64, Sh.sl 1] (enK e) = true := rfl
    rw [e2, ctl_true]
    have hw := hws e (by rw [← hb]; simp)
    have c1 : (nth PV.nilp (enK e) 0).toInt = e.t := rfl
    have c2 : (nth PV.nilp (enK e) 1).toInt = e.k := rfl
    have c3 : (nth PV.nilp (enK e) 2).toEs = intsK .i64 e.ws := rfl
    rw [c1, c2, c3, c_ValidE e.t e.k e.ws (by omega)]
    cases hv : validP e.t e.k e.ws with
    | false =>
      have hr : runB s p (e :: l) = none := by simp only [runB, hv]; rfl
      rw [hr]
      rfl
    | true =>
      obtain ⟨v1, v2, v3, v4, v5, v6, v7⟩ := validP_all hv
      have hq : ctl (ltB 0 (pre.length : Int)) (getE (ensK b) (IntKind.i64.wrap ((pre.length : Int) - 1)) fun c_1 => ctl (okCs [Sh.int IntKind.i64, Sh.int IntKind.i64, Sh.sl 1] c_1) (some (ltB e.t (nth PV.nilp c_1 0).toInt)) none) (some false) = some (!decide (p ≤ e.t)) := by
        rcases hp with ⟨rfl, rfl⟩ | ⟨q, a, rfl, rfl⟩
        · have : decide ((0 : Int) ≤ e.t) = true := decide_eq_true v1
          rw [this]; rfl
        · have g1 : ltB 0 (((q ++ [a]).length : Nat) : Int) = true := by simp [ltB] <;> omega
          have g2 : IntKind.i64.wrap ((((q ++ [a]).length : Nat) : Int) - 1) = (q.length : Int) := by
            rw [w64 (by simp at hl ⊢; omega)]; simp
          rw [g1, ctl_true, g2, getE_ens (by simp at hl; omega)]
          have g3 : b.getD (q.length : Int).toNat default = a := by rw [Int.toNat_natCast, ← hb, List.append_assoc]; exact getD_mid q a (e :: l) default
          rw [g3]
          have g4 : okCs [Sh.int IntKind.i64, Sh.int IntKind.i64, Sh.sl 1] (enK a) = true := rfl
          rw [g4, ctl_true]
          have g5 : (nth PV.nilp (enK a) 0).toInt = a.t := rfl
          rw [g5]
          by_cases hlt : e.t < a.t
          · have : ¬ a.t ≤ e.t := by omega
            simp [ltB, hlt, this]
          · have : a.t ≤ e.t := by omega
            simp [ltB, hlt, this]
      simp only [bnd_some, ctl_true, ctl_false, ctl_and, ctl_or', ctl_or2, x_toPV, x_toCs, x_toCs2, x_toEs, x_bEs, x_bCs, x_aPV, x_aCs, x_int, x_bool, x_str, x_es, x_esn, nth_0, nth_1, nth_2, nth_3, nth_4, nth_5, nth_6, nth_7, nth_8, nth_9, y_nil, y_int, y_bool, y_str, y_sl, y_nils, y_agg, y_ownp, y_own, z_nil, z_int, z_bool, z_str, z_sl, z_nils, b_nil, b_arr, b_box1, b_box2, b_box3, b_box4, List.map_cons, List.map_nil, Bool.and_self, Bool.and_true, Bool.true_and, Bool.not_true, Bool.not_false, Bool.or_false, Bool.false_or, cond_true, cond_false, okPack, okPut, okPutBlks, okPutCells, q_isP, q_isAg, q_isBox, q_isArr, q_int, q_bool, q_str, q_sl, q_nils, e_exit, e_ret, e_nrm, e_ret_exit, e_exit_ret, e_nrm_exit, e_nrm_ret, e_exit_nrm, e_ret_nrm, Nat.zero_add, Nat.reduceAdd, noslR, noslP, noslB, noslA, List.all_cons, List.all_nil]
      rw [hq]
      by_cases hpe : p ≤ e.t
      · have hr : runB s p (e :: l) = runB (sumB s (lineP e.t e.k e.ws)) e.t l := by simp only [runB, hv, hpe, and_self, if_true]
        rw [hr, decide_eq_true hpe]
        simp only [Bool.not_true, bnd_some, ctl_true, ctl_false, ctl_and, ctl_or', ctl_or2, x_toPV, x_toCs, x_toCs2, x_toEs, x_bEs, x_bCs, x_aPV, x_aCs, x_int, x_bool, x_str, x_es, x_esn, nth_0, nth_1, nth_2, nth_3, nth_4, nth_5, nth_6, nth_7, nth_8, nth_9, y_nil, y_int, y_bool, y_str, y_sl, y_nils, y_agg, y_ownp, y_own, z_nil, z_int, z_bool, z_str, z_sl, z_nils, b_nil, b_arr, b_box1, b_box2, b_box3, b_box4, List.map_cons, List.map_nil, Bool.and_self, Bool.and_true, Bool.true_and, Bool.not_true, Bool.not_false, Bool.or_false, Bool.false_or, cond_true, cond_false, okPack, okPut, okPutBlks, okPutCells, q_isP, q_isAg, q_isBox, q_isArr, q_int, q_bool, q_str, q_sl, q_nils, e_exit, e_ret, e_nrm, e_ret_exit, e_exit_ret, e_nrm_exit, e_nrm_ret, e_exit_nrm, e_ret_nrm, Nat.zero_add, Nat.reduceAdd, noslR, noslP, noslB, noslA, List.all_cons, List.all_nil]
        rw [c_lineE e.t e.k e.ws v2 v3 v4 (by omega) (by omega)]
        simp only [bnd_some, ctl_true, ctl_false, ctl_and, ctl_or', ctl_or2, x_toPV, x_toCs, x_toCs2, x_toEs, x_bEs, x_bCs, x_aPV, x_aCs, x_int, x_bool, x_str, x_es, x_esn, nth_0, nth_1, nth_2, nth_3, nth_4, nth_5, nth_6, nth_7, nth_8, nth_9, y_nil, y_int, y_bool, y_str, y_sl, y_nils, y_agg, y_ownp, y_own, z_nil, z_int, z_bool, z_str, z_sl, z_nils, b_nil, b_arr, b_box1, b_box2, b_box3, b_box4, List.map_cons, List.map_nil, Bool.and_self, Bool.and_true, Bool.true_and, Bool.not_true, Bool.not_false, Bool.or_false, Bool.false_or, cond_true, cond_false, okPack, okPut, okPutBlks, okPutCells, q_isP, q_isAg, q_isBox, q_isArr, q_int, q_bool, q_str, q_sl, q_nils, e_exit, e_ret, e_nrm, e_ret_exit, e_exit_ret, e_nrm_exit, e_nrm_ret, e_exit_nrm, e_ret_nrm, Nat.zero_add, Nat.reduceAdd, noslR, noslP, noslB, noslA, List.all_cons, List.all_nil]
        have hll : (lineP e.t e.k e.ws).length ≤ 9223372036854775807 := by unfold lineP; simp only [List.length_append, List.length_cons, List.length_nil]; omega
        rw [c_SumL s (lineP e.t e.k e.ws) hll]
        simp only [bnd_some, ctl_true, ctl_false, ctl_and, ctl_or', ctl_or2, x_toPV, x_toCs, x_toCs2, x_toEs, x_bEs, x_bCs, x_aPV, x_aCs, x_int, x_bool, x_str, x_es, x_esn, nth_0, nth_1, nth_2, nth_3, nth_4, nth_5, nth_6, nth_7, nth_8, nth_9, y_nil, y_int, y_bool, y_str, y_sl, y_nils, y_agg, y_ownp, y_own, z_nil, z_int, z_bool, z_str, z_sl, z_nils, b_nil, b_arr, b_box1, b_box2, b_box3, b_box4, List.map_cons, List.map_nil, Bool.and_self, Bool.and_true, Bool.true_and, Bool.not_true, Bool.not_false, Bool.or_false, Bool.false_or, cond_true, cond_false, okPack, okPut, okPutBlks, okPutCells, q_isP, q_isAg, q_isBox, q_isArr, q_int, q_bool, q_str, q_sl, q_nils, e_exit, e_ret, e_nrm, e_ret_exit, e_exit_ret, e_nrm_exit, e_nrm_ret, e_exit_nrm, e_ret_nrm, Nat.zero_add, Nat.reduceAdd, noslR, noslP, noslB, noslA, List.all_cons, List.all_nil]
        rw [w64 (n := (pre.length : Int) + 1) (by omega), len_snoc pre e]
        exact ih (pre ++ [e]) e.t _ (by rw [← hb]; simp) (.inr ⟨pre, e, rfl, rfl⟩)
      · have hr : runB s p (e :: l) = none := by simp only [runB, hpe, and_false, if_false]
        rw [hr, decide_eq_false hpe]
        rfl

theorem lp_CheckD (b : List En) (bs : Int) (hlen : b.length ≤ 200) (hws : ∀ e ∈ b, e.ws.length ≤ 1000000) : ∀ (l pre : List En) (p s : Int), pre ++ l = b → ((pre = [] ∧ p = 0) ∨ ∃ q a, pre = q ++ [a] ∧ a.t = p) →
    lp E (denC E) 22 0 [] 0 { vals := [AV.int .u64 s, AV.sl 3 (ensK b), AV.int .i64 b.length, AV.int .i64 pre.length], blks := [Blk.box [AV.sl 3 (ensK b), AV.int .u64 bs]] } =
      some (match runB s p l with
        | some x => (.exit 0, { vals := [AV.int .u64 x], blks := [Blk.box [AV.sl 3 (ensK b), AV.int .u64 bs]] })
        | none => (.ret, { vals := [AV.int .i64 72], blks := [] })) := by
  intro l
  induction l with
  | nil =>
    intro pre p s hb hp
    rw [r22_0]
    have h1 : ltB (pre.length : Int) (b.length : Int) = false := by rw [← hb]; simp [ltB]
    rw [h1, ctl_false]
    rfl
  | cons e l ih =>
    intro pre p s hb hp
    rw [r22_0]
    have hl : 0 ≤ (pre.length : Int) ∧ (pre.length : Int) < (b.length : Int) := by rw [← hb]; exact mid_lt pre e l
    have h1 : ltB (pre.length : Int) (b.length : Int) = true := by simp [ltB]; omega
    rw [h1, ctl_true, getE_ens hl]
    have e1 : b.getD (pre.length : Int).toNat default = e := by rw [Int.toNat_natCast, ← hb, getD_mid]
    rw [e1]
    have e2 : okCs [Sh.int IntKind.i64, Sh.int IntKind.i64, Sh.sl 1] (enK e) = true := rfl
    rw [e2, ctl_true]
    have hw := hws e (by rw [← hb]; simp)
    have c1 : (nth PV.nilp (enK e) 0).toInt = e.t := rfl
    have c2 : (nth PV.nilp (enK e) 1).toInt = e.k := rfl
    have c3 : (nth PV.nilp (enK e) 2).toEs = intsK .i64 e.ws := rfl
    rw [c1, c2, c3, c_ValidD e.t e.k e.ws (by omega)]
    cases hv : validP e.t e.k e.ws with
    | false =>
      have hr : runB s p (e :: l) = none := by simp only [runB, hv]; rfl
      rw [hr]
      rfl
    | true =>
      obtain ⟨v1, v2, v3, v4, v5, v6, v7⟩ := validP_all hv
      have hq : ctl (ltB 0 (pre.length : Int)) (getE (ensK b) (IntKind.i64.wrap ((pre.length : Int) - 1)) fun c_1 => ctl (okCs [Sh.int IntKind.i64, Sh.int IntKind.i64, Sh.sl 1] c_1) (some (ltB e.t (nth PV.nilp c_1 0).toInt)) none) (some false) = some (!decide (p ≤ e.t)) := by
        rcases hp with ⟨rfl, rfl⟩ | ⟨q, a, rfl, rfl⟩
        · have : decide ((0 : Int) ≤ e.t) = true := decide_eq_true v1
          rw [this]; rfl
        · have g1 : ltB 0 (((q ++ [a]).length : Nat) : Int) = true := by simp [ltB] <;> omega
          have g2 : IntKind.i64.wrap ((((q ++ [a]).length : Nat) : Int) - 1) = (q.length : Int) := by
            rw [w64 (by simp at hl ⊢; omega)]; simp
          rw [g1, ctl_true, g2, getE_ens (by simp at hl; omega)]
          have g3 : b.getD (q.length : Int).toNat default = a := by rw [Int.toNat_natCast, ← hb, List.append_assoc]; exact getD_mid q a (e :: l) default
          rw [g3]
          have g4 : okCs [Sh.int IntKind.i64, Sh.int IntKind.i64, Sh.sl 1] (enK a) = true := rfl
          rw [g4, ctl_true]
          have g5 : (nth PV.nilp (enK a) 0).toInt = a.t := rfl
          rw [g5]
          by_cases hlt : e.t < a.t
          · have : ¬ a.t ≤ e.t := by omega
            simp [ltB, hlt, this]
          · have : a.t ≤ e.t := by omega
            simp [ltB, hlt, this]
      simp only [bnd_some, ctl_true, ctl_false, ctl_and, ctl_or', ctl_or2, x_toPV, x_toCs, x_toCs2, x_toEs, x_bEs, x_bCs, x_aPV, x_aCs, x_int, x_bool, x_str, x_es, x_esn, nth_0, nth_1, nth_2, nth_3, nth_4, nth_5, nth_6, nth_7, nth_8, nth_9, y_nil, y_int, y_bool, y_str, y_sl, y_nils, y_agg, y_ownp, y_own, z_nil, z_int, z_bool, z_str, z_sl, z_nils, b_nil, b_arr, b_box1, b_box2, b_box3, b_box4, List.map_cons, List.map_nil, Bool.and_self, Bool.and_true, Bool.true_and, Bool.not_true, Bool.not_false, Bool.or_false, Bool.false_or, cond_true, cond_false, okPack, okPut, okPutBlks, okPutCells, q_isP, q_isAg, q_isBox, q_isArr, q_int, q_bool, q_str, q_sl, q_nils, e_exit, e_ret, e_nrm, e_ret_exit, e_exit_ret, e_nrm_exit, e_nrm_ret, e_exit_nrm, e_ret_nrm, Nat.zero_add, Nat.reduceAdd, noslR, noslP, noslB, noslA, List.all_cons, List.all_nil]
      rw [hq]
      by_cases hpe : p ≤ e.t
      · have hr : runB s p (e :: l) = runB (sumB s (lineP e.t e.k e.ws)) e.t l := by simp only [runB, hv, hpe, and_self, if_true]
        rw [hr, decide_eq_true hpe]
        simp only [Bool.not_true, bnd_some, ctl_true, ctl_false, ctl_and, ctl_or', ctl_or2, x_toPV, x_toCs, x_toCs2, x_toEs, x_bEs, x_bCs, x_aPV, x_aCs, x_int, x_bool, x_str, x_es, x_esn, nth_0, nth_1, nth_2, nth_3, nth_4, nth_5, nth_6, nth_7, nth_8, nth_9, y_nil, y_int, y_bool, y_str, y_sl, y_nils, y_agg, y_ownp, y_own, z_nil, z_int, z_bool, z_str, z_sl, z_nils, b_nil, b_arr, b_box1, b_box2, b_box3, b_box4, List.map_cons, List.map_nil, Bool.and_self, Bool.and_true, Bool.true_and, Bool.not_true, Bool.not_false, Bool.or_false, Bool.false_or, cond_true, cond_false, okPack, okPut, okPutBlks, okPutCells, q_isP, q_isAg, q_isBox, q_isArr, q_int, q_bool, q_str, q_sl, q_nils, e_exit, e_ret, e_nrm, e_ret_exit, e_exit_ret, e_nrm_exit, e_nrm_ret, e_exit_nrm, e_ret_nrm, Nat.zero_add, Nat.reduceAdd, noslR, noslP, noslB, noslA, List.all_cons, List.all_nil]
        rw [c_lineD e.t e.k e.ws v2 v3 v4 (by omega) (by omega)]
        simp only [bnd_some, ctl_true, ctl_false, ctl_and, ctl_or', ctl_or2, x_toPV, x_toCs, x_toCs2, x_toEs, x_bEs, x_bCs, x_aPV, x_aCs, x_int, x_bool, x_str, x_es, x_esn, nth_0, nth_1, nth_2, nth_3, nth_4, nth_5, nth_6, nth_7, nth_8, nth_9, y_nil, y_int, y_bool, y_str, y_sl, y_nils, y_agg, y_ownp, y_own, z_nil, z_int, z_bool, z_str, z_sl, z_nils, b_nil, b_arr, b_box1, b_box2, b_box3, b_box4, List.map_cons, List.map_nil, Bool.and_self, Bool.and_true, Bool.true_and, Bool.not_true, Bool.not_false, Bool.or_false, Bool.false_or, cond_true, cond_false, okPack, okPut, okPutBlks, okPutCells, q_isP, q_isAg, q_isBox, q_isArr, q_int, q_bool, q_str, q_sl, q_nils, e_exit, e_ret, e_nrm, e_ret_exit, e_exit_ret, e_nrm_exit, e_nrm_ret, e_exit_nrm, e_ret_nrm, Nat.zero_add, Nat.reduceAdd, noslR, noslP, noslB, noslA, List.all_cons, List.all_nil]
        have hll : (lineP e.t e.k e.ws).length ≤ 9223372036854775807 := by unfold lineP; simp only [List.length_append, List.length_cons, List.length_nil]; omega
        rw [c_SumD s (lineP e.t e.k e.ws) hll]
        simp only [bnd_some, ctl_true, ctl_false, ctl_and, ctl_or', ctl_or2, x_toPV, x_toCs, x_toCs2, x_toEs, x_bEs, x_bCs, x_aPV, x_aCs, x_int, x_bool, x_str, x_es, x_esn, nth_0, nth_1, nth_2, nth_3, nth_4, nth_5, nth_6, nth_7, nth_8, nth_9, y_nil, y_int, y_bool, y_str, y_sl, y_nils, y_agg, y_ownp, y_own, z_nil, z_int, z_bool, z_str, z_sl, z_nils, b_nil, b_arr, b_box1, b_box2, b_box3, b_box4, List.map_cons, List.map_nil, Bool.and_self, Bool.and_true, Bool.true_and, Bool.not_true, Bool.not_false, Bool.or_false, Bool.false_or, cond_true, cond_false, okPack, okPut, okPutBlks, okPutCells, q_isP, q_isAg, q_isBox, q_isArr, q_int, q_bool, q_str, q_sl, q_nils, e_exit, e_ret, e_nrm, e_ret_exit, e_exit_ret, e_nrm_exit, e_nrm_ret, e_exit_nrm, e_ret_nrm, Nat.zero_add, Nat.reduceAdd, noslR, noslP, noslB, noslA, List.all_cons, List.all_nil]
        rw [w64 (n := (pre.length : Int) + 1) (by omega), len_snoc pre e]
        exact ih (pre ++ [e]) e.t _ (by rw [← hb]; simp) (.inr ⟨pre, e, rfl, rfl⟩)
      · have hr : runB s p (e :: l) = none := by simp only [runB, hpe, and_false, if_false]
        rw [hr, decide_eq_false hpe]
        rfl

theorem c_CheckE (b : List En) (bs : Int) (hws : ∀ e ∈ b, e.ws.length ≤ 1000000) : denC E 42 [AV.agg [PV.sl 3 (ensK b), PV.int .u64 bs]] [] = some ([RV.p (PV.int .i64 (checkP b bs))], []) := by
  rw [denC_eq, r42, ensK_len]
  unfold checkP
  by_cases hl : 200 < b.length
  · have h1 : ltB 200 (b.length : Int) = true := by simp [ltB]; omega
    rw [h1, ctl_true, if_pos hl]
  · have h1 : ltB 200 (b.length : Int) = false := by simp [ltB]; omega
    rw [h1, ctl_false, if_neg hl]
    have hlp := lp_CheckE b bs (by omega) hws b [] 0 begin36 rfl (.inl ⟨rfl, rfl⟩)
    simp only [List.length_nil, Int.ofNat_zero] at hlp
    rw [c_Begin]
    simp only [bnd_some, ctl_true, ctl_false, ctl_and, ctl_or', ctl_or2, x_toPV, x_toCs, x_toCs2, x_toEs, x_bEs, x_bCs, x_aPV, x_aCs, x_int, x_bool, x_str, x_es, x_esn, nth_0, nth_1, nth_2, nth_3, nth_4, nth_5, nth_6, nth_7, nth_8, nth_9, y_nil, y_int, y_bool, y_str, y_sl, y_nils, y_agg, y_ownp, y_own, z_nil, z_int, z_bool, z_str, z_sl, z_nils, b_nil, b_arr, b_box1, b_box2, b_box3, b_box4, List.map_cons, List.map_nil, Bool.and_self, Bool.and_true, Bool.true_and, Bool.not_true, Bool.not_false, Bool.or_false, Bool.false_or, cond_true, cond_false, okPack, okPut, okPutBlks, okPutCells, q_isP, q_isAg, q_isBox, q_isArr, q_int, q_bool, q_str, q_sl, q_nils, e_exit, e_ret, e_nrm, e_ret_exit, e_exit_ret, e_nrm_exit, e_nrm_ret, e_exit_nrm, e_ret_nrm, Nat.zero_add, Nat.reduceAdd, noslR, noslP, noslB, noslA, List.all_cons, List.all_nil]
    rw [hlp]
    cases hr : runB begin36 0 b with
    | none => rfl
    | some x =>
      simp only [bnd_some, ctl_true, ctl_false, ctl_and, ctl_or', ctl_or2, x_toPV, x_toCs, x_toCs2, x_toEs, x_bEs, x_bCs, x_aPV, x_aCs, x_int, x_bool, x_str, x_es, x_esn, nth_0, nth_1, nth_2, nth_3, nth_4, nth_5, nth_6, nth_7, nth_8, nth_9, y_nil, y_int, y_bool, y_str, y_sl, y_nils, y_agg, y_ownp, y_own, z_nil, z_int, z_bool, z_str, z_sl, z_nils, b_nil, b_arr, b_box1, b_box2, b_box3, b_box4, List.map_cons, List.map_nil, Bool.and_self, Bool.and_true, Bool.true_and, Bool.not_true, Bool.not_false, Bool.or_false, Bool.false_or, cond_true, cond_false, okPack, okPut, okPutBlks, okPutCells, q_isP, q_isAg, q_isBox, q_isArr, q_int, q_bool, q_str, q_sl, q_nils, e_exit, e_ret, e_nrm, e_ret_exit, e_exit_ret, e_nrm_exit, e_nrm_ret, e_exit_nrm, e_ret_nrm, Nat.zero_add, Nat.reduceAdd, noslR, noslP, noslB, noslA, List.all_cons, List.all_nil]
      by_cases hx : x = bs
      · subst hx
        rw [if_pos rfl]
        have : (x != x) = false := by simp
        rw [this]
        rfl
      · have h2 : (x != bs) = true := by simpa using hx
        rw [if_neg (by simpa using hx), h2]
        rfl

theorem c_CheckD (b : List En) (bs : Int) (hws : ∀ e ∈ b, e.ws.length ≤ 1000000) : denC E 22 [AV.agg [PV.sl 3 (ensK b), PV.int .u64 bs]] [] = some ([RV.p (PV.int .i64 (checkP b bs))], []) := by
  rw [denC_eq, r22, ensK_len]
  unfold checkP
  by_cases hl : 200 < b.length
  · have h1 : ltB 200 (b.length : Int) = true := by simp [ltB]; omega
    rw [h1, ctl_true, if_pos hl]
  · have h1 : ltB 200 (b.length : Int) = false := by simp [ltB]; omega
    rw [h1, ctl_false, if_neg hl]
    have hlp := lp_CheckD b bs (by omega) hws b [] 0 begin36 rfl (.inl ⟨rfl, rfl⟩)
    simp only [List.length_nil, Int.ofNat_zero] at hlp
    rw [show (14695981039346656037 : Int) = begin36 from rfl]
    rw [hlp]
    cases hr : runB begin36 0 b with
    | none => rfl
    | some x =>
      simp only [bnd_some, ctl_true, ctl_false, ctl_and, ctl_or', ctl_or2, x_toPV, x_toCs, x_toCs2, x_toEs, x_bEs, x_bCs, x_aPV, x_aCs, x_int, x_bool, x_str, x_es, x_esn, nth_0, nth_1, nth_2, nth_3, nth_4, nth_5, nth_6, nth_7, nth_8, nth_9, y_nil, y_int, y_bool, y_str, y_sl, y_nils, y_agg, y_ownp, y_own, z_nil, z_int, z_bool, z_str, z_sl, z_nils, b_nil, b_arr, b_box1, b_box2, b_box3, b_box4, List.map_cons, List.map_nil, Bool.and_self, Bool.and_true, Bool.true_and, Bool.not_true, Bool.not_false, Bool.or_false, Bool.false_or, cond_true, cond_false, okPack, okPut, okPutBlks, okPutCells, q_isP, q_isAg, q_isBox, q_isArr, q_int, q_bool, q_str, q_sl, q_nils, e_exit, e_ret, e_nrm, e_ret_exit, e_exit_ret, e_nrm_exit, e_nrm_ret, e_exit_nrm, e_ret_nrm, Nat.zero_add, Nat.reduceAdd, noslR, noslP, noslB, noslA, List.all_cons, List.all_nil]
      by_cases hx : x = bs
      · subst hx
        rw [if_pos rfl]
        have : (x != x) = false := by simp
        rw [this]
        rfl
      · have h2 : (x != bs) = true := by simpa using hx
        rw [if_neg (by simpa using hx), h2]
        rfl

/-- No entry of a book is later than this one's time. -/
def lateP (b : List En) (t : Int) : Bool := match b.getLast? with | some a => decide (a.t ≤ t) | none => true

/-- What Append hands back. -/
def appE (b : List En) (bs : Int) (e : En) : Int := if checkP b bs ≠ 0 ∨ validP e.t e.k e.ws = false then 72 else if lateP b e.t = false then 16 else if b.length = 200 then 2 else 0

def appR (b : List En) (bs : Int) (e : En) : List RV :=
  if appE b bs e = 0 then [RV.agg [PV.sl 3 (ensK (b ++ [e])), PV.int .u64 (sumB bs (lineP e.t e.k e.ws))], RV.p (PV.int .i64 0)]
  else [RV.agg [PV.nils, PV.int .u64 0], RV.p (PV.int .i64 (appE b bs e))]

theorem checkP_len {b : List En} {bs : Int} (h : checkP b bs = 0) : b.length ≤ 200 := by
  unfold checkP at h
  split at h
  · omega
  · omega

theorem c_AppendD (b : List En) (bs : Int) (e : En) (hws : ∀ e ∈ b, e.ws.length ≤ 1000000) (he : e.ws.length ≤ 1000000) : denC E 12 [AV.agg [PV.sl 3 (ensK b), PV.int .u64 bs], AV.agg (enK e)] [] = some (appR b bs e, []) := by
  have hv := c_ValidD e.t e.k e.ws (by omega)
  unfold enK
  rw [denC_eq, r12, c_CheckD b bs hws, hv, ensK_len]
  simp only [bnd_some, ctl_true, ctl_false, ctl_and, ctl_or', ctl_or2, x_toPV, x_toCs, x_toCs2, x_toEs, x_bEs, x_bCs, x_aPV, x_aCs, x_int, x_bool, x_str, x_es, x_esn, nth_0, nth_1, nth_2, nth_3, nth_4, nth_5, nth_6, nth_7, nth_8, nth_9, y_nil, y_int, y_bool, y_str, y_sl, y_nils, y_agg, y_ownp, y_own, z_nil, z_int, z_bool, z_str, z_sl, z_nils, b_nil, b_arr, b_box1, b_box2, b_box3, b_box4, List.map_cons, List.map_nil, Bool.and_self, Bool.and_true, Bool.true_and, Bool.not_true, Bool.not_false, Bool.or_false, Bool.false_or, cond_true, cond_false, okPack, okPut, okPutBlks, okPutCells, q_isP, q_isAg, q_isBox, q_isArr, q_int, q_bool, q_str, q_sl, q_nils, e_exit, e_ret, e_nrm, e_ret_exit, e_exit_ret, e_nrm_exit, e_nrm_ret, e_exit_nrm, e_ret_nrm, Nat.zero_add, Nat.reduceAdd, noslR, noslP, noslB, noslA, List.all_cons, List.all_nil]
  by_cases hc : checkP b bs = 0
  · have h1 : (checkP b bs != 0) = false := by simp [hc]
    rw [h1]
    have hl := checkP_len hc
    cases hve : validP e.t e.k e.ws with
    | false =>
      have : appE b bs e = 72 := by unfold appE; rw [if_pos (.inr hve)]
      unfold appR
      rw [this]
      rfl
    | true =>
      obtain ⟨v1, v2, v3, v4, v5, v6, v7⟩ := validP_all hve
      have hq : ctl (ltB 0 (b.length : Int)) (getE (ensK b) (IntKind.i64.wrap ((b.length : Int) - 1)) fun c => ctl (okCs [Sh.int IntKind.i64, Sh.int IntKind.i64, Sh.sl 1] c) (some (ltB e.t (nth PV.nilp c 0).toInt)) none) (some false) = some (!lateP b e.t) := by
        rcases List.eq_nil_or_concat b with rfl | ⟨q, a, rfl⟩
        · rfl
        · have g1 : ltB 0 (((q.concat a).length : Nat) : Int) = true := by simp [ltB] <;> omega
          have g2 : IntKind.i64.wrap ((((q.concat a).length : Nat) : Int) - 1) = (q.length : Int) := by
            rw [w64 (by simp at hl ⊢; omega)]; simp
          rw [g1, ctl_true, g2, getE_ens (by simp; omega)]
          have g3 : (q.concat a).getD (q.length : Int).toNat default = a := by rw [Int.toNat_natCast, List.concat_eq_append]; exact getD_mid q a [] default
          rw [g3]
          have g4 : lateP (q.concat a) e.t = decide (a.t ≤ e.t) := by simp [lateP, List.concat_eq_append]
          have g5 : okCs [Sh.int IntKind.i64, Sh.int IntKind.i64, Sh.sl 1] (enK a) = true := rfl
          have g6 : (nth PV.nilp (enK a) 0).toInt = a.t := rfl
          rw [g4, g5, ctl_true, g6]
          by_cases hlt : e.t < a.t
          · have : ¬ a.t ≤ e.t := by omega
            simp [ltB, hlt, this]
          · have : a.t ≤ e.t := by omega
            simp [ltB, hlt, this]
      simp only [Bool.not_false, Bool.not_true, bnd_some, ctl_true, ctl_false, ctl_and, ctl_or', ctl_or2, x_toPV, x_toCs, x_toCs2, x_toEs, x_bEs, x_bCs, x_aPV, x_aCs, x_int, x_bool, x_str, x_es, x_esn, nth_0, nth_1, nth_2, nth_3, nth_4, nth_5, nth_6, nth_7, nth_8, nth_9, y_nil, y_int, y_bool, y_str, y_sl, y_nils, y_agg, y_ownp, y_own, z_nil, z_int, z_bool, z_str, z_sl, z_nils, b_nil, b_arr, b_box1, b_box2, b_box3, b_box4, List.map_cons, List.map_nil, Bool.and_self, Bool.and_true, Bool.true_and, Bool.not_true, Bool.not_false, Bool.or_false, Bool.false_or, cond_true, cond_false, okPack, okPut, okPutBlks, okPutCells, q_isP, q_isAg, q_isBox, q_isArr, q_int, q_bool, q_str, q_sl, q_nils, e_exit, e_ret, e_nrm, e_ret_exit, e_exit_ret, e_nrm_exit, e_nrm_ret, e_exit_nrm, e_ret_nrm, Nat.zero_add, Nat.reduceAdd, noslR, noslP, noslB, noslA, List.all_cons, List.all_nil]
      rw [hq]
      cases hla : lateP b e.t with
      | false =>
        have : appE b bs e = 16 := by unfold appE; rw [if_neg (by simp [hc, hve]), if_pos hla]
        unfold appR
        rw [this]
        rfl
      | true =>
        simp only [Bool.not_true, bnd_some, ctl_true, ctl_false, ctl_and, ctl_or', ctl_or2, x_toPV, x_toCs, x_toCs2, x_toEs, x_bEs, x_bCs, x_aPV, x_aCs, x_int, x_bool, x_str, x_es, x_esn, nth_0, nth_1, nth_2, nth_3, nth_4, nth_5, nth_6, nth_7, nth_8, nth_9, y_nil, y_int, y_bool, y_str, y_sl, y_nils, y_agg, y_ownp, y_own, z_nil, z_int, z_bool, z_str, z_sl, z_nils, b_nil, b_arr, b_box1, b_box2, b_box3, b_box4, List.map_cons, List.map_nil, Bool.and_self, Bool.and_true, Bool.true_and, Bool.not_true, Bool.not_false, Bool.or_false, Bool.false_or, cond_true, cond_false, okPack, okPut, okPutBlks, okPutCells, q_isP, q_isAg, q_isBox, q_isArr, q_int, q_bool, q_str, q_sl, q_nils, e_exit, e_ret, e_nrm, e_ret_exit, e_exit_ret, e_nrm_exit, e_nrm_ret, e_exit_nrm, e_ret_nrm, Nat.zero_add, Nat.reduceAdd, noslR, noslP, noslB, noslA, List.all_cons, List.all_nil]
        by_cases h200 : b.length = 200
        · have : appE b bs e = 2 := by unfold appE; rw [if_neg (by simp [hc, hve]), if_neg (by simp [hla]), if_pos h200]
          unfold appR
          rw [this]
          have h2 : (((b.length : Nat) : Int) == 200) = true := by rw [h200]; rfl
          rw [h2]
          rfl
        · have : appE b bs e = 0 := by unfold appE; rw [if_neg (by simp [hc, hve]), if_neg (by simp [hla]), if_neg h200]
          unfold appR
          rw [this, if_pos rfl]
          have h2 : (((b.length : Nat) : Int) == 200) = false := by rw [beq_eq_false_iff_ne]; omega
          have h3 : leN (b.length * 40) 140737488355328 = true := by simp [leN]; omega
          have h4 : leN ((b.length + 1) * 40) 140737488355328 = true := by simp [leN]; omega
          have hll : (lineP e.t e.k e.ws).length ≤ 9223372036854775807 := by unfold lineP; simp only [List.length_append, List.length_cons, List.length_nil]; omega
          rw [h2, h3, h4, c_lineD e.t e.k e.ws v2 v3 v4 (by omega) (by omega)]
          simp only [bnd_some, ctl_true, ctl_false, ctl_and, ctl_or', ctl_or2, x_toPV, x_toCs, x_toCs2, x_toEs, x_bEs, x_bCs, x_aPV, x_aCs, x_int, x_bool, x_str, x_es, x_esn, nth_0, nth_1, nth_2, nth_3, nth_4, nth_5, nth_6, nth_7, nth_8, nth_9, y_nil, y_int, y_bool, y_str, y_sl, y_nils, y_agg, y_ownp, y_own, z_nil, z_int, z_bool, z_str, z_sl, z_nils, b_nil, b_arr, b_box1, b_box2, b_box3, b_box4, List.map_cons, List.map_nil, Bool.and_self, Bool.and_true, Bool.true_and, Bool.not_true, Bool.not_false, Bool.or_false, Bool.false_or, cond_true, cond_false, okPack, okPut, okPutBlks, okPutCells, q_isP, q_isAg, q_isBox, q_isArr, q_int, q_bool, q_str, q_sl, q_nils, e_exit, e_ret, e_nrm, e_ret_exit, e_exit_ret, e_nrm_exit, e_nrm_ret, e_exit_nrm, e_ret_nrm, Nat.zero_add, Nat.reduceAdd, noslR, noslP, noslB, noslA, List.all_cons, List.all_nil]
          rw [c_SumD bs _ hll]
          simp only [ensK, List.map_append, List.map_cons, List.map_nil]
          rfl
  · have h1 : (checkP b bs != 0) = true := by simpa using hc
    rw [h1]
    have : appE b bs e = 72 := by unfold appE; rw [if_pos (.inl hc)]
    unfold appR
    rw [this]
    rfl

/-- An entry as 'at' sees it. -/
def trip (e : En) : Int × Int × Int := (e.t, e.k, e.ws.headD 0)

theorem entsE_ens : ∀ {b : List En}, (∀ e ∈ b, e.ws ≠ []) → entsE (ensK b) = some (b.map trip)
  | [], _ => rfl
  | e :: b, h => by
    have h1 := entsE_ens (b := b) fun x hx => h x (.tail _ hx)
    have h2 : entE (enK e) = some (trip e) := by
      have := h e (.head _)
      unfold enK trip
      cases hw : e.ws with
      | nil => exact absurd hw this
      | cons x l => rfl
    have e1 : ensK (e :: b) = enK e :: ensK b := rfl
    rw [e1]
    simp only [entsE, h2, h1, List.map_cons]

theorem c_atE (b : List En) (bs kind time : Int) (hw : ∀ e ∈ b, e.ws ≠ []) (hl : b.length ≤ 100000) : denC E 44 [AV.agg [PV.sl 3 (ensK b), PV.int .u64 bs], AV.int .i64 kind, AV.int .i64 time] [] =
    some ([RV.p (PV.int .i64 (atL kind time (b.map trip)).1), RV.p (PV.bool (atL kind time (b.map trip)).2)], []) := by
  rw [denC_eq]
  have : funK E (denC E) 44 [AV.agg [PV.sl 3 (ensK b), PV.int .u64 bs], AV.int .i64 kind, AV.int .i64 time] [] = match pAt [AV.agg [PV.sl 3 (ensK b), PV.int .u64 bs], AV.int .i64 kind, AV.int .i64 time] with | some rs => some (rs, []) | none => none := by kernel_rfl
  rw [this]
  unfold pAt
  simp only [entsE_ens hw, List.length_map, hl, if_true]

def atStep (kind time : Int) (acc : Int × Bool) (e : En) : Int × Bool := if e.k = kind ∧ e.t ≤ time then (e.ws.headD 0, true) else acc

theorem atStep_fold (kind time : Int) : ∀ (l : List En) (acc : Int × Bool), l.foldl (atStep kind time) acc = cond (atL kind time (l.map trip)).2 (atL kind time (l.map trip)) acc
  | [], acc => rfl
  | e :: l, acc => by
    rw [List.foldl_cons, atStep_fold kind time l]
    simp only [List.map_cons, atL]
    cases h : (atL kind time (l.map trip)).2 with
    | true => simp [h]
    | false =>
      simp only [cond_false, atStep]
      by_cases hq : e.k = kind ∧ e.t ≤ time
      · rw [if_pos hq]
        have : (decide ((trip e).2.1 = kind) && decide ((trip e).1 ≤ time)) = true := by simpa [trip] using hq
        rw [this]; rfl
      · rw [if_neg hq]
        have : (decide ((trip e).2.1 = kind) && decide ((trip e).1 ≤ time)) = false := by simpa [trip] using hq
        rw [this]; rfl

theorem runB_ok : ∀ {l : List En} {s p x : Int}, runB s p l = some x → ∀ e ∈ l, validP e.t e.k e.ws = true
  | [], _, _, _, _, e, he => by cases he
  | a :: l, s, p, x, h, e, he => by
    simp only [runB] at h
    split at h
    · rename_i hq
      rcases List.mem_cons.1 he with rfl | he
      · exact hq.1
      · exact runB_ok h e he
    · cases h

theorem checkP_run {b : List En} {bs : Int} (h : checkP b bs = 0) : runB begin36 0 b = some bs := by
  unfold checkP at h
  split at h
  · cases h
  · split at h
    · assumption
    · cases h

theorem checkP_ok {b : List En} {bs : Int} (h : checkP b bs = 0) : ∀ e ∈ b, e.ws ≠ [] := fun e he hn => by
  have hv := runB_ok (checkP_run h) e he
  obtain ⟨_, _, _, _, _, _, h7⟩ := validP_all hv
  rw [hn] at h7
  have := wordsP_kind (k := e.k) (by rw [← h7]; simp)
  have h8 : wordsP e.k = 0 := by rw [← h7]; rfl
  unfold wordsP at h8
  split at h8
  · cases h8
  · split at h8
    · cases h8
    · split at h8
      · cases h8
      · split at h8 <;> cases h8

/-- What At says. -/
def atP (b : List En) (bs kind time : Int) : Int × Bool := cond (wordsP kind == 1 && checkP b bs == 0) (atL kind time (b.map trip)) (0, false)

/-- The last line of a book's text. -/
def lastP (bs : Int) : List UInt8 := [61, 32] ++ Lib.itoa bs ++ [10]

theorem itoaU_len {n : Int} (h : 0 ≤ n ∧ n ≤ 18446744073709551615) : (Lib.itoa n).length ≤ 21 := by
  have h3 := dec_len36 20 n.toNat (by omega)
  unfold Lib.itoa
  rw [if_neg (by omega)]
  exact h3

end Go.Proofs.YtgdeaamklodkkaaDoor.Vm

/- Contracts of chapter 36: appending, texts, equality. -/
namespace Go.Proofs.YtgdeaamklodkkaaDoor.Vm
set_option linter.unusedVariables false
set_option linter.unusedSimpArgs false

theorem c_NewD : denC E 10 [] [] = some ([RV.agg [PV.nils, PV.int .u64 begin36]], []) := by
  rw [denC_eq, r10]
  rfl

/-! ### Equal lists -/

theorem spanK_len (b : List (Int × Int × Int)) : (spanK b).length = b.length := by simp [spanK]

/-! ### Append -/

theorem a_int {F : Fun} {f : Nat} {a : List AV} {n : Int} (h : F f a [] = some ([.p (.int .i64 n)], [])) (K : Int → Ask) : (Ask.int f a K).run F = (K n).run F := by
  simp only [Ask.int, Ask.run, h]

theorem a_u64 {F : Fun} {f : Nat} {a : List AV} {n : Int} (h : F f a [] = some ([.p (.int .u64 n)], [])) (K : Int → Ask) : (Ask.u64 f a K).run F = (K n).run F := by
  simp only [Ask.u64, Ask.run, h]

theorem a_bool {F : Fun} {f : Nat} {a : List AV} {n : Bool} (h : F f a [] = some ([.p (.bool n)], [])) (K : Bool → Ask) : (Ask.bool f a K).run F = (K n).run F := by
  simp only [Ask.bool, Ask.run, h]

theorem a_str {F : Fun} {f : Nat} {a : List AV} {n : List UInt8} (h : F f a [] = some ([.p (.str n)], [])) (K : List UInt8 → Ask) : (Ask.str f a K).run F = (K n).run F := by
  simp only [Ask.str, Ask.run, h]

/-! ### Text -/

def linesP (b : List En) : List UInt8 := (b.map fun e => lineP e.t e.k e.ws).flatten

theorem linesP_len : ∀ {b : List En}, (∀ e ∈ b, validP e.t e.k e.ws = true) → (linesP b).length ≤ 201 * b.length
  | [], _ => by simp [linesP]
  | e :: b, h => by
    have h1 := linesP_len (b := b) fun x hx => h x (.tail _ hx)
    obtain ⟨_, _, _, _, _, v6, _⟩ := validP_all (h e (.head _))
    have h2 : (lineP e.t e.k e.ws).length ≤ 201 := by unfold lineP; simp only [List.length_append, List.length_cons, List.length_nil]; omega
    have e1 : linesP (e :: b) = lineP e.t e.k e.ws ++ linesP b := rfl
    rw [e1]
    simp only [List.length_append, List.length_cons]
    omega

theorem linesF_E : ∀ {b : List En}, (∀ e ∈ b, validP e.t e.k e.ws = true) → linesF (denC E) 58 (ensK b) = some (linesP b)
  | [], _ => rfl
  | e :: b, h => by
    have h1 := linesF_E (b := b) fun x hx => h x (.tail _ hx)
    obtain ⟨v1, v2, v3, v4, v5, v6, v7⟩ := validP_all (h e (.head _))
    have hl := c_lineE e.t e.k e.ws v2 v3 v4 (by omega) (by omega)
    have e1 : ensK (e :: b) = [PV.int .i64 e.t, PV.int .i64 e.k, PV.sl 1 (intsK .i64 e.ws)] :: ensK b := rfl
    rw [e1]
    simp only [linesF, h1]
    have : denC E 58 [AV.t (.agg [.int .i64 e.t, .int .i64 e.k, .sl 1 (intsK .i64 e.ws)])] [] = _ := hl
    rw [this]
    rfl

/-- What Text hands back. -/
def textR (b : List En) (bs : Int) : List RV := if checkP b bs = 0 then [RV.p (PV.str (linesP b ++ lastP bs)), RV.p (PV.int .i64 0)] else [RV.p (PV.str []), RV.p (PV.int .i64 (checkP b bs))]

theorem lastP_len {n : Int} (h : 0 ≤ n ∧ n ≤ 18446744073709551615) : (lastP n).length ≤ 24 := by
  have := itoaU_len h
  unfold lastP
  simp only [List.length_append, List.length_cons, List.length_nil]
  omega

end Go.Proofs.YtgdeaamklodkkaaDoor.Vm

/- Plain laws of spans: a list of spans covers a time without gaps, each with the value that holds in it, and there is one such list only. -/
namespace Go.Proofs.YtgdeaamklodkkaaDoor.Vm
set_option linter.unusedVariables false
set_option linter.unusedSimpArgs false

abbrev Sp := Int × Int × Int

/-- The list covers the time from s to e: each span is the longest one with its value. -/
def gl (A : Int → Int) : Int → Int → List Sp → Prop
  | s, e, [] => s = e
  | s, e, x :: r => x.1 = s ∧ s < x.2.1 ∧ (∀ k, s ≤ k → k < x.2.1 → A k = x.2.2) ∧ (∀ y, r.head? = some y → y.2.2 ≠ x.2.2) ∧ gl A x.2.1 e r

theorem gl_le {A : Int → Int} : ∀ {l : List Sp} {s e : Int}, gl A s e l → s ≤ e
  | [], s, e, h => by unfold gl at h; omega
  | x :: r, s, e, h => by have := gl_le h.2.2.2.2; have := h.2.1; omega

theorem gl_one {A : Int → Int} {s e v : Int} (h : s < e) (hc : ∀ k, s ≤ k → k < e → A k = v) : gl A s e [(s, e, v)] := ⟨rfl, h, hc, fun y hy => by simp at hy, rfl⟩

theorem gl_lastv {A : Int → Int} : ∀ {q : List Sp} {s e a v : Int}, gl A s e (q ++ [(a, e, v)]) → a < e ∧ s ≤ a ∧ ∀ k, a ≤ k → k < e → A k = v
  | [], s, e, a, v, h => by
    obtain ⟨h1, h2, h3, _, _⟩ := h
    simp only at h1 h2 h3
    subst h1
    exact ⟨h2, Int.le_refl _, h3⟩
  | x :: q, s, e, a, v, h => by
    obtain ⟨h1, h2, h3, h4, h5⟩ := h
    obtain ⟨i1, i2, i3⟩ := gl_lastv h5
    exact ⟨i1, by omega, i3⟩

theorem gl_ext {A : Int → Int} : ∀ {q : List Sp} {s e a v e' : Int}, gl A s e (q ++ [(a, e, v)]) → e ≤ e' → (∀ k, e ≤ k → k < e' → A k = v) → gl A s e' (q ++ [(a, e', v)])
  | [], s, e, a, v, e', h, he, hc => by
    obtain ⟨h1, h2, h3, _, _⟩ := h
    refine ⟨h1, by simp only at h2 ⊢; omega, fun k h4 h5 => ?_, fun y hy => by simp at hy, rfl⟩
    simp only at h5 h3 ⊢
    by_cases hk : k < e
    · exact h3 k h4 hk
    · exact hc k (by omega) h5
  | x :: q, s, e, a, v, e', h, he, hc => by
    obtain ⟨h1, h2, h3, h4, h5⟩ := h
    refine ⟨h1, h2, h3, fun y hy => ?_, gl_ext h5 he hc⟩
    cases q with
    | nil => simp at hy; subst hy; exact h4 (a, e, v) rfl
    | cons z q => exact h4 y hy

theorem gl_app {A : Int → Int} : ∀ {q : List Sp} {s e a v w e' : Int}, gl A s e (q ++ [(a, e, v)]) → w ≠ v → e < e' → (∀ k, e ≤ k → k < e' → A k = w) → gl A s e' (q ++ [(a, e, v)] ++ [(e, e', w)])
  | [], s, e, a, v, w, e', h, hw, he, hc => by
    obtain ⟨h1, h2, h3, _, _⟩ := h
    exact ⟨h1, h2, h3, fun y hy => by simp at hy; subst hy; exact hw, gl_one he hc⟩
  | x :: q, s, e, a, v, w, e', h, hw, he, hc => by
    obtain ⟨h1, h2, h3, h4, h5⟩ := h
    refine ⟨h1, h2, h3, fun y hy => ?_, gl_app h5 hw he hc⟩
    cases q with
    | nil => simp at hy; subst hy; exact h4 (a, e, v) rfl
    | cons z q => exact h4 y hy

/-- There is one such list only. -/
theorem gl_uniq {A : Int → Int} : ∀ {l l' : List Sp} {s e : Int}, gl A s e l → gl A s e l' → l = l'
  | [], [], _, _, _, _ => rfl
  | [], x :: r, s, e, h, h' => by
    have h1 := gl_le h'.2.2.2.2
    have h2 := h'.2.1
    unfold gl at h
    omega
  | x :: r, [], s, e, h, h' => by
    have h1 := gl_le h.2.2.2.2
    have h2 := h.2.1
    unfold gl at h'
    omega
  | x :: r, y :: r', s, e, h, h' => by
    obtain ⟨x0, x1, x2⟩ := x
    obtain ⟨y0, y1, y2⟩ := y
    obtain ⟨a1, a2, a3, a4, a5⟩ := h
    obtain ⟨b1, b2, b3, b4, b5⟩ := h'
    simp only at a1 a2 a3 a4 a5 b1 b2 b3 b4 b5
    have hv : x2 = y2 := by rw [← a3 s (Int.le_refl _) a2, ← b3 s (Int.le_refl _) b2]
    have key : ∀ {c d v : Int} {t t' : List Sp}, c < d → s < c → (∀ k, s ≤ k → k < d → A k = v) → (∀ y, t.head? = some y → y.2.2 ≠ v) → gl A c e t → gl A d e t' → False := by
      intro c d v t t' hcd hsc hc ht h h'
      have h1 := gl_le h'
      cases t with
      | nil => unfold gl at h; omega
      | cons z t =>
        obtain ⟨z1, z2, z3, _, _⟩ := h
        exact ht z rfl ((z3 c (Int.le_refl _) z2).symm.trans (hc c (by omega) hcd))
    rcases Int.lt_trichotomy x1 y1 with h | h | h
    · exact (key h a2 (v := x2) (by rw [hv]; exact b3) a4 a5 b5).elim
    · subst h
      subst hv
      subst a1
      subst b1
      rw [gl_uniq a5 b5]
    · exact (key h b2 (v := y2) (by rw [← hv]; exact a3) b4 b5 a5).elim

open Classical in
/-- The list of spans. -/
noncomputable def spP (A : Int → Int) (s e : Int) : List Sp := if h : ∃ l, gl A s e l then Classical.choose h else []

theorem spP_eq {A : Int → Int} {s e : Int} {l : List Sp} (h : gl A s e l) : spP A s e = l := by
  unfold spP
  rw [dif_pos ⟨l, h⟩]
  exact gl_uniq (Classical.choose_spec _) h

/-! ### What holds at a time -/

theorem atL_same {kind p k : Int} : ∀ {l : List (Int × Int × Int)}, (∀ x ∈ l, x.2.1 = kind → (x.1 ≤ p ↔ x.1 ≤ k)) → atL kind k l = atL kind p l
  | [], _ => rfl
  | x :: l, h => by
    have h1 := atL_same (l := l) fun y hy => h y (.tail _ hy)
    simp only [atL, h1]
    by_cases hk : x.2.1 = kind
    · have := h x (.head _) hk
      have e : decide (x.1 ≤ k) = decide (x.1 ≤ p) := by simp only [this]
      rw [e]
    · have : decide (x.2.1 = kind) = false := by simpa using hk
      rw [this]
      simp

end Go.Proofs.YtgdeaamklodkkaaDoor.Vm

/- Contracts of chapter 36: spans. -/
namespace Go.Proofs.YtgdeaamklodkkaaDoor.Vm
set_option linter.unusedVariables false
set_option linter.unusedSimpArgs false

/-- What a book says of a kind at a time. -/
def aF (b : List En) (kind k : Int) : Int := (atL kind k (b.map trip)).1

theorem aF_same {b : List En} {kind p k : Int} (h : ∀ x ∈ b, x.k = kind → (x.t ≤ p ↔ x.t ≤ k)) : aF b kind k = aF b kind p := by
  unfold aF
  rw [atL_same (p := p)]
  intro x hx hk
  obtain ⟨e, he, rfl⟩ := List.mem_map.1 hx
  exact h e he hk

theorem runB_sorted : ∀ {l : List En} {s p x : Int}, runB s p l = some x → (∀ e ∈ l, p ≤ e.t) ∧ l.Pairwise (fun a c => a.t ≤ c.t)
  | [], _, _, _, _ => ⟨fun e he => (List.not_mem_nil he).elim, List.Pairwise.nil⟩
  | a :: l, s, p, x, h => by
    simp only [runB] at h
    split at h
    · rename_i hq
      obtain ⟨h1, h2⟩ := runB_sorted h
      refine ⟨fun e he => ?_, .cons h1 h2⟩
      rcases List.mem_cons.1 he with rfl | he
      · exact hq.2
      · have := h1 e he
        omega
    · cases h

theorem nth_last {q : List Sp} {a b v : Int} : nth [] (spanK (q ++ [(a, b, v)])) q.length = [PV.int .i64 a, PV.int .i64 b, PV.int .i64 v] := by
  rw [nth_eq]
  simp [spanK, List.getD]

theorem setEs_last {q : List Sp} {a b v c : Int} : setEs (spanK (q ++ [(a, b, v)])) q.length 1 [PV.int .i64 c] = spanK (q ++ [(a, c, v)]) := by
  unfold setEs
  rw [nth_last, upd_eq]
  have : lay [PV.int .i64 a, PV.int .i64 b, PV.int .i64 v] 1 [PV.int .i64 c] = [PV.int .i64 a, PV.int .i64 c, PV.int .i64 v] := rfl
  rw [this]
  simp [spanK]

theorem last_ix {q : List Sp} {x : Sp} (h : q.length ≤ 1000000) : IntKind.i64.wrap (((spanK (q ++ [x])).length : Int) - 1) = (q.length : Int) := by
  rw [spanK_len, w64 (by simp; omega)]
  simp

theorem last_in {q : List Sp} {x : Sp} : (leB 0 (q.length : Int) && ltB (q.length : Int) ((spanK (q ++ [x])).length : Int)) = true := by
  rw [spanK_len]
  simp [leB, ltB] <;> omega

theorem spanK_snoc (q : List Sp) (x : Sp) : spanK q ++ [[PV.int .i64 x.1, PV.int .i64 x.2.1, PV.int .i64 x.2.2]] = spanK (q ++ [x]) := by simp [spanK]

set_option maxHeartbeats 1000000 in
theorem l_SpE (b : List En) (bs kind frm to : Int) (hw : ∀ e ∈ b, e.ws ≠ []) (hb : b.length ≤ 100000) (hs : b.Pairwise (fun a c => a.t ≤ c.t)) : ∀ (l pre : List En) (q : List Sp) (a v p : Int), pre ++ l = b → frm ≤ p → p < to →
    (∀ x ∈ pre, x.k = kind → x.t ≤ p ∨ to ≤ x.t) → (∀ x ∈ l, frm < x.t → p ≤ x.t) → gl (aF b kind) frm (p + 1) (q ++ [(a, p + 1, v)]) → q.length ≤ pre.length →
    lp E (denC E) 26 0 [] 0 { vals := [AV.int .i64 kind, AV.int .i64 frm, AV.int .i64 to, AV.sl 3 (ensK b), AV.int .i64 b.length, AV.int .i64 pre.length], blks := [Blk.box [AV.sl 3 (ensK b), AV.int .u64 bs], Blk.arr 3 (spanK (q ++ [(a, to, v)]))] } =
      some (.exit 0, { vals := [], blks := [Blk.arr 3 (spanK (spP (aF b kind) frm to))] }) := by
  intro l
  induction l with
  | nil =>
    intro pre q a v p hbb h1 h2 h3 h4 h5 h6
    rw [r26_0]
    have h7 : ltB (pre.length : Int) (b.length : Int) = false := by rw [← hbb]; simp [ltB]
    rw [h7, ctl_false]
    have hpre : pre = b := by rw [← hbb]; simp
    obtain ⟨g1, g2, g3⟩ := gl_lastv h5
    have hg : gl (aF b kind) frm to (q ++ [(a, to, v)]) := gl_ext h5 (by omega) fun k hk1 hk2 => by
      rw [aF_same (p := p) fun x hx hxk => ?_]
      · exact g3 p (by omega) (by omega)
      · rcases h3 x (by rw [hpre]; exact hx) hxk with h | h <;> omega
    rw [spP_eq hg]
  | cons e l ih =>
    intro pre q a v p hbb h1 h2 h3 h4 h5 h6
    rw [r26_0]
    have hl : 0 ≤ (pre.length : Int) ∧ (pre.length : Int) < (b.length : Int) := by rw [← hbb]; exact mid_lt pre e l
    have h7 : ltB (pre.length : Int) (b.length : Int) = true := by simp [ltB]; omega
    rw [h7, ctl_true, getE_ens hl]
    have e1 : b.getD (pre.length : Int).toNat default = e := by rw [Int.toNat_natCast, ← hbb, getD_mid]
    have e2 : okCs [Sh.int IntKind.i64, Sh.int IntKind.i64, Sh.sl 1] (enK e) = true := rfl
    have c1 : (nth PV.nilp (enK e) 0).toInt = e.t := rfl
    have c2 : (nth PV.nilp (enK e) 1).toInt = e.k := rfl
    have hi : IntKind.i64.wrap ((pre.length : Int) + 1) = ((pre ++ [e]).length : Int) := by
      rw [w64 (by omega)]; simp
    have hpl : pre.length ≤ 100000 := by rw [← hbb] at hb; simp at hb; omega
    have hlate : ∀ x ∈ l, e.t ≤ x.t := by
      have : (pre ++ e :: l).Pairwise (fun a c => a.t ≤ c.t) := by rw [hbb]; exact hs
      exact (List.pairwise_cons.1 (List.pairwise_append.1 this).2.1).1
    have hbb' : (pre ++ [e]) ++ l = b := by rw [← hbb]; simp
    have hskip : ∀ q' a' v' p', frm ≤ p' → p' < to → p ≤ p' → (e.k = kind → e.t ≤ p' ∨ to ≤ e.t) → (∀ x ∈ l, frm < x.t → p' ≤ x.t) → gl (aF b kind) frm (p' + 1) (q' ++ [(a', p' + 1, v')]) → q'.length ≤ pre.length + 1 →
        lp E (denC E) 26 0 [] 0 { vals := [AV.int .i64 kind, AV.int .i64 frm, AV.int .i64 to, AV.sl 3 (ensK b), AV.int .i64 b.length, AV.int .i64 (IntKind.i64.wrap ((pre.length : Int) + 1))], blks := [Blk.box [AV.sl 3 (ensK b), AV.int .u64 bs], Blk.arr 3 (spanK (q' ++ [(a', to, v')]))] } =
          some (.exit 0, { vals := [], blks := [Blk.arr 3 (spanK (spP (aF b kind) frm to))] }) := by
      intro q' a' v' p' k1 k2 k3 k4 k5 k6 k7
      rw [hi]
      refine ih (pre ++ [e]) q' a' v' p' hbb' k1 k2 (fun x hx hxk => ?_) k5 k6 (by simpa using k7)
      rcases List.mem_append.1 hx with hx | hx
      · rcases h3 x hx hxk with h | h
        · exact .inl (by omega)
        · exact .inr h
      · simp at hx
        subst hx
        exact k4 hxk
    rw [e1, e2, ctl_true, c1, c2]
    have ht : (bnd (ctl (!e.k != kind) (some (leB e.t frm)) (some true)) fun v : Bool => bnd (ctl (!v) (some (leB to e.t)) (some true)) fun v : Bool => some v) = some (!(decide (e.k = kind) && (decide (frm < e.t) && decide (e.t < to)))) := by
      by_cases hk : e.k = kind
      · have : (!e.k != kind) = true := by simp [hk]
        rw [this]
        by_cases h8 : frm < e.t
        · have : ¬ e.t ≤ frm := by omega
          by_cases h9 : e.t < to
          · have h9' : ¬ to ≤ e.t := by omega
            simp [hk, h8, h9, this, h9', leB, ctl, bnd]
          · have h9' : to ≤ e.t := by omega
            simp [hk, h8, h9, this, h9', leB, ctl, bnd]
        · have : e.t ≤ frm := by omega
          simp [hk, h8, this, leB, ctl, bnd]
      · have : (!e.k != kind) = false := by simpa using hk
        rw [this]
        simp [hk, ctl, bnd]
    have hbnd : ∀ (K : Bool → Option (Ex × Pack)), (bnd (ctl (!e.k != kind) (some (leB e.t frm)) (some true)) fun v : Bool => bnd (ctl (!v) (some (leB to e.t)) (some true)) K) = K (!(decide (e.k = kind) && (decide (frm < e.t) && decide (e.t < to)))) := by
      intro K
      by_cases hk : e.k = kind
      · have : (!e.k != kind) = true := by simp [hk]
        rw [this]
        by_cases h8 : frm < e.t
        · have : ¬ e.t ≤ frm := by omega
          by_cases h9 : e.t < to
          · have h9' : ¬ to ≤ e.t := by omega
            simp [hk, h8, h9, this, h9', leB, ctl, bnd]
          · have h9' : to ≤ e.t := by omega
            simp [hk, h8, h9, this, h9', leB, ctl, bnd]
        · have : e.t ≤ frm := by omega
          simp [hk, h8, this, leB, ctl, bnd]
      · have : (!e.k != kind) = false := by simpa using hk
        rw [this]
        simp [hk, ctl, bnd]
    rw [hbnd]
    by_cases hq : e.k = kind ∧ frm < e.t ∧ e.t < to
    · obtain ⟨q1, q2, q3⟩ := hq
      have hd : (decide (e.k = kind) && (decide (frm < e.t) && decide (e.t < to))) = true := by simp [q1, q2, q3]
      rw [hd, Bool.not_true, ctl_false, last_ix (by omega), last_in, ctl_true, c_atE b bs kind e.t hw hb]
      simp only [bnd_some, ctl_true, ctl_false, ctl_and, ctl_or', ctl_or2, x_toPV, x_toCs, x_toCs2, x_toEs, x_bEs, x_bCs, x_aPV, x_aCs, x_int, x_bool, x_str, x_es, x_esn, nth_0, nth_1, nth_2, nth_3, nth_4, nth_5, nth_6, nth_7, nth_8, nth_9, y_nil, y_int, y_bool, y_str, y_sl, y_nils, y_agg, y_ownp, y_own, z_nil, z_int, z_bool, z_str, z_sl, z_nils, b_nil, b_arr, b_box1, b_box2, b_box3, b_box4, List.map_cons, List.map_nil, Bool.and_self, Bool.and_true, Bool.true_and, Bool.not_true, Bool.not_false, Bool.or_false, Bool.false_or, cond_true, cond_false, okPack, okPut, okPutBlks, okPutCells, q_isP, q_isAg, q_isBox, q_isArr, q_int, q_bool, q_str, q_sl, q_nils, e_exit, e_ret, e_nrm, e_ret_exit, e_exit_ret, e_nrm_exit, e_nrm_ret, e_exit_nrm, e_ret_nrm, Nat.zero_add, Nat.reduceAdd, noslR, noslP, noslB, noslA, List.all_cons, List.all_nil]
      have hpe := h4 e (.head _) q2
      obtain ⟨g1, g2, g3⟩ := gl_lastv h5
      have hconst : ∀ k, p + 1 ≤ k → k < e.t → aF b kind k = v := fun k hk1 hk2 => by
        rw [aF_same (p := p) fun x hx hxk => ?_]
        · exact g3 p (by omega) (by omega)
        · rw [← hbb] at hx
          rcases List.mem_append.1 hx with hx | hx
          · rcases h3 x hx hxk with h | h <;> omega
          · rcases List.mem_cons.1 hx with rfl | hx
            · omega
            · have := hlate x hx; omega
      have et : ∀ n : Nat, ((n : Nat) : Int).toNat = n := fun n => Int.toNat_natCast n
      rw [et, nth_last]
      have e3 : okCs [Sh.int IntKind.i64] (List.take 1 (List.drop 2 [PV.int .i64 a, PV.int .i64 to, PV.int .i64 v])) = true := rfl
      have e4 : (nth PV.nilp [PV.int .i64 a, PV.int .i64 to, PV.int .i64 v] 2).toInt = v := rfl
      rw [e3, e4, ctl_true, setEs_last]
      show ctl (aF b kind e.t != v) _ _ = _
      by_cases hv : aF b kind e.t = v
      · have : (aF b kind e.t != v) = false := by simp [hv]
        rw [this, ctl_false]
        have hg : gl (aF b kind) frm (e.t + 1) (q ++ [(a, e.t + 1, v)]) := gl_ext h5 (by omega) fun k hk1 hk2 => by
          by_cases hke : k < e.t
          · exact hconst k hk1 hke
          · have : k = e.t := by omega
            rw [this]; exact hv
        exact hskip q a v e.t (by omega) q3 hpe (fun _ => .inl (Int.le_refl _)) (fun x hx _ => hlate x hx) hg (by omega)
      · have : (aF b kind e.t != v) = true := by simpa using hv
        have hlt : p < e.t := by
          rcases Int.lt_or_eq_of_le hpe with h | h
          · exact h
          · exact absurd (by rw [← h]; exact g3 p (by omega) (by omega)) hv
        have h8 : leN (((spanK (q ++ [(a, e.t, v)])).length + 1) * 24) 140737488355328 = true := by rw [spanK_len]; simp [leN]; omega
        rw [this, ctl_true, h8, ctl_true]
        have hg : gl (aF b kind) frm (e.t + 1) (q ++ [(a, e.t, v)] ++ [(e.t, e.t + 1, aF b kind e.t)]) := gl_app (gl_ext h5 (by omega) hconst) hv (by omega) fun k hk1 hk2 => by
          have : k = e.t := by omega
          rw [this]
        have e5 := spanK_snoc (q ++ [(a, e.t, v)]) (e.t, to, aF b kind e.t)
        simp only at e5
        have e6 : (atL kind e.t (b.map trip)).1 = aF b kind e.t := rfl
        rw [e6, e5]
        exact hskip (q ++ [(a, e.t, v)]) e.t (aF b kind e.t) e.t (by omega) q3 hpe (fun _ => .inl (Int.le_refl _)) (fun x hx _ => hlate x hx) hg (by simp; omega)
    · have hd : (decide (e.k = kind) && (decide (frm < e.t) && decide (e.t < to))) = false := by
        rw [Bool.and_eq_false_iff, Bool.and_eq_false_iff]
        simp only [decide_eq_false_iff_not]
        by_cases hk : e.k = kind
        · by_cases h8 : frm < e.t
          · exact .inr (.inr fun h => hq ⟨hk, h8, h⟩)
          · exact .inr (.inl h8)
        · exact .inl hk
      rw [hd, Bool.not_false, ctl_true]
      refine hskip q a v p h1 h2 (Int.le_refl _) (fun hk => ?_) (fun x hx hf => h4 x (.tail _ hx) hf) h5 (by omega)
      by_cases h8 : frm < e.t
      · exact .inr (by
          by_cases h9 : e.t < to
          · exact absurd ⟨hk, h8, h9⟩ hq
          · omega)
      · exact .inl (by omega)

theorem range_b (kind frm to : Int) : (!(wordsP kind == 1) || ltB frm 0 || ltB to frm || ltB 2147483648 to) = !decide (wordsP kind = 1 ∧ 0 ≤ frm ∧ frm ≤ to ∧ to ≤ 2147483648) := by
  by_cases h1 : wordsP kind = 1
  · by_cases h2 : 0 ≤ frm
    · by_cases h3 : frm ≤ to
      · by_cases h4 : to ≤ 2147483648
        · have h2' : ¬ frm < 0 := by omega
          have h3' : ¬ to < frm := by omega
          have h4' : ¬ 2147483648 < to := by omega
          simp [h1, h2, h3, h4, h2', h3', h4', ltB]
        · have h2' : ¬ frm < 0 := by omega
          have h3' : ¬ to < frm := by omega
          have h4' : 2147483648 < to := by omega
          simp [h1, h2, h3, h4, h2', h3', h4', ltB]
      · have h2' : ¬ frm < 0 := by omega
        have h3' : to < frm := by omega
        simp [h1, h2, h3, h2', h3', ltB]
    · have h2' : frm < 0 := by omega
      simp [h1, h2, h2', ltB]
  · have : (wordsP kind == 1) = false := by simpa using h1
    rw [this]
    simp [h1]

/-- What Spans hands back. -/
def spanE' (b : List En) (bs kind frm to : Int) : Int := if checkP b bs ≠ 0 then checkP b bs else if wordsP kind = 1 ∧ 0 ≤ frm ∧ frm ≤ to ∧ to ≤ 2147483648 then 0 else 1

noncomputable def spanL (b : List En) (bs kind frm to : Int) : List Sp := if spanE' b bs kind frm to = 0 then spP (aF b kind) frm to else []

theorem c_SpansE (b : List En) (bs kind frm to : Int) (hws : ∀ e ∈ b, e.ws.length ≤ 1000000) : denC E 26 [AV.agg [PV.sl 3 (ensK b), PV.int .u64 bs], AV.int .i64 kind, AV.int .i64 frm, AV.int .i64 to] [] =
    some ([RV.p (PV.sl 3 (spanK (spanL b bs kind frm to))), RV.p (PV.int .i64 (spanE' b bs kind frm to))], []) := by
  rw [denC_eq, r26, c_CheckE b bs hws, ensK_len]
  simp only [bnd_some, ctl_true, ctl_false, ctl_and, ctl_or', ctl_or2, x_toPV, x_toCs, x_toCs2, x_toEs, x_bEs, x_bCs, x_aPV, x_aCs, x_int, x_bool, x_str, x_es, x_esn, nth_0, nth_1, nth_2, nth_3, nth_4, nth_5, nth_6, nth_7, nth_8, nth_9, y_nil, y_int, y_bool, y_str, y_sl, y_nils, y_agg, y_ownp, y_own, z_nil, z_int, z_bool, z_str, z_sl, z_nils, b_nil, b_arr, b_box1, b_box2, b_box3, b_box4, List.map_cons, List.map_nil, Bool.and_self, Bool.and_true, Bool.true_and, Bool.not_true, Bool.not_false, Bool.or_false, Bool.false_or, cond_true, cond_false, okPack, okPut, okPutBlks, okPutCells, q_isP, q_isAg, q_isBox, q_isArr, q_int, q_bool, q_str, q_sl, q_nils, e_exit, e_ret, e_nrm, e_ret_exit, e_exit_ret, e_nrm_exit, e_nrm_ret, e_exit_nrm, e_ret_nrm, Nat.zero_add, Nat.reduceAdd, noslR, noslP, noslB, noslA, List.all_cons, List.all_nil]
  by_cases hc : checkP b bs = 0
  · have hne : (checkP b bs != 0) = false := by simp [hc]
    rw [hne, ctl_false, c_state]
    simp only [bnd_some, ctl_true, ctl_false, ctl_and, ctl_or', ctl_or2, x_toPV, x_toCs, x_toCs2, x_toEs, x_bEs, x_bCs, x_aPV, x_aCs, x_int, x_bool, x_str, x_es, x_esn, nth_0, nth_1, nth_2, nth_3, nth_4, nth_5, nth_6, nth_7, nth_8, nth_9, y_nil, y_int, y_bool, y_str, y_sl, y_nils, y_agg, y_ownp, y_own, z_nil, z_int, z_bool, z_str, z_sl, z_nils, b_nil, b_arr, b_box1, b_box2, b_box3, b_box4, List.map_cons, List.map_nil, Bool.and_self, Bool.and_true, Bool.true_and, Bool.not_true, Bool.not_false, Bool.or_false, Bool.false_or, cond_true, cond_false, okPack, okPut, okPutBlks, okPutCells, q_isP, q_isAg, q_isBox, q_isArr, q_int, q_bool, q_str, q_sl, q_nils, e_exit, e_ret, e_nrm, e_ret_exit, e_exit_ret, e_nrm_exit, e_nrm_ret, e_exit_nrm, e_ret_nrm, Nat.zero_add, Nat.reduceAdd, noslR, noslP, noslB, noslA, List.all_cons, List.all_nil]
    have hok := checkP_ok hc
    have hlen := checkP_len hc
    obtain ⟨hs1, hs2⟩ := runB_sorted (checkP_run hc)
    have hbnd : (!(wordsP kind == 1) || ltB frm 0 || ltB to frm || ltB 2147483648 to) = !decide (wordsP kind = 1 ∧ 0 ≤ frm ∧ frm ≤ to ∧ to ≤ 2147483648) := range_b _ _ _
    rw [hbnd]
    by_cases hq : wordsP kind = 1 ∧ 0 ≤ frm ∧ frm ≤ to ∧ to ≤ 2147483648
    · have he : spanE' b bs kind frm to = 0 := by unfold spanE'; rw [if_neg (by simp [hc]), if_pos hq]
      have hsl : spanL b bs kind frm to = spP (aF b kind) frm to := by unfold spanL; rw [if_pos he]
      rw [he, hsl, decide_eq_true hq, Bool.not_true, ctl_false]
      by_cases hft : frm = to
      · have : (frm == to) = true := by simp [hft]
        rw [this, ctl_true, spP_eq (l := []) (by unfold gl; exact hft)]
        rfl
      · have : (frm == to) = false := by simpa using hft
        rw [this, ctl_false, c_atE b bs kind frm hok (by omega)]
        simp only [bnd_some, ctl_true, ctl_false, ctl_and, ctl_or', ctl_or2, x_toPV, x_toCs, x_toCs2, x_toEs, x_bEs, x_bCs, x_aPV, x_aCs, x_int, x_bool, x_str, x_es, x_esn, nth_0, nth_1, nth_2, nth_3, nth_4, nth_5, nth_6, nth_7, nth_8, nth_9, y_nil, y_int, y_bool, y_str, y_sl, y_nils, y_agg, y_ownp, y_own, z_nil, z_int, z_bool, z_str, z_sl, z_nils, b_nil, b_arr, b_box1, b_box2, b_box3, b_box4, List.map_cons, List.map_nil, Bool.and_self, Bool.and_true, Bool.true_and, Bool.not_true, Bool.not_false, Bool.or_false, Bool.false_or, cond_true, cond_false, okPack, okPut, okPutBlks, okPutCells, q_isP, q_isAg, q_isBox, q_isArr, q_int, q_bool, q_str, q_sl, q_nils, e_exit, e_ret, e_nrm, e_ret_exit, e_exit_ret, e_nrm_exit, e_nrm_ret, e_exit_nrm, e_ret_nrm, Nat.zero_add, Nat.reduceAdd, noslR, noslP, noslB, noslA, List.all_cons, List.all_nil]
        have hlp := l_SpE b bs kind frm to hok (by omega) hs2 b [] [] frm (aF b kind frm) frm rfl (Int.le_refl _) (by omega) (fun x hx => by cases hx) (fun x hx h => by omega) (gl_one (by omega) fun k h1 h2 => by
          have : k = frm := by omega
          rw [this]) (by simp)
        simp only [List.length_nil, Int.ofNat_zero, List.nil_append] at hlp
        have e1 : spanK [(frm, to, aF b kind frm)] = [[PV.int .i64 frm, PV.int .i64 to, PV.int .i64 (atL kind frm (b.map trip)).1]] := rfl
        rw [← e1, hlp]
        simp only [bnd_some, ctl_true, ctl_false, ctl_and, ctl_or', ctl_or2, x_toPV, x_toCs, x_toCs2, x_toEs, x_bEs, x_bCs, x_aPV, x_aCs, x_int, x_bool, x_str, x_es, x_esn, nth_0, nth_1, nth_2, nth_3, nth_4, nth_5, nth_6, nth_7, nth_8, nth_9, y_nil, y_int, y_bool, y_str, y_sl, y_nils, y_agg, y_ownp, y_own, z_nil, z_int, z_bool, z_str, z_sl, z_nils, b_nil, b_arr, b_box1, b_box2, b_box3, b_box4, List.map_cons, List.map_nil, Bool.and_self, Bool.and_true, Bool.true_and, Bool.not_true, Bool.not_false, Bool.or_false, Bool.false_or, cond_true, cond_false, okPack, okPut, okPutBlks, okPutCells, q_isP, q_isAg, q_isBox, q_isArr, q_int, q_bool, q_str, q_sl, q_nils, e_exit, e_ret, e_nrm, e_ret_exit, e_exit_ret, e_nrm_exit, e_nrm_ret, e_exit_nrm, e_ret_nrm, Nat.zero_add, Nat.reduceAdd, noslR, noslP, noslB, noslA, List.all_cons, List.all_nil]
    · have he : spanE' b bs kind frm to = 1 := by unfold spanE'; rw [if_neg (by simp [hc]), if_neg hq]
      have hsl : spanL b bs kind frm to = [] := by unfold spanL; rw [if_neg (by rw [he]; decide)]
      rw [he, hsl, decide_eq_false hq, Bool.not_false, ctl_true]
      rfl
  · have hne : (checkP b bs != 0) = true := by simpa using hc
    have he : spanE' b bs kind frm to = checkP b bs := by unfold spanE'; rw [if_pos hc]
    have hsl : spanL b bs kind frm to = [] := by unfold spanL; rw [if_neg (by rw [he]; exact hc)]
    rw [hne, ctl_true, he, hsl]
    rfl

end Go.Proofs.YtgdeaamklodkkaaDoor.Vm

/- Contracts of chapter 36: the document's spans. -/
namespace Go.Proofs.YtgdeaamklodkkaaDoor.Vm
set_option linter.unusedVariables false
set_option linter.unusedSimpArgs false

/-- The times at which something may change. -/
def mkS (frm to : Int) (m : List Int) (e : En) : List Int := if frm < e.t ∧ e.t < to ∧ e.t ∉ m then m ++ [e.t] else m

theorem mkS_len (frm to : Int) (m : List Int) (e : En) : (mkS frm to m e).length ≤ m.length + 1 := by unfold mkS; split <;> simp

theorem intsK_snoc (m : List Int) (x : Int) : intsK .i64 m ++ [[PV.int .i64 x]] = intsK .i64 (m ++ [x]) := by simp [intsK]

theorem mk_all {frm to : Int} : ∀ {l : List En} {m : List Int}, l.Pairwise (fun a c => a.t ≤ c.t) → (∀ x ∈ m, ∀ e ∈ l, frm < e.t → x ≤ e.t) → m.Pairwise (· < ·) → (∀ x ∈ m, frm ≤ x ∧ (x < to ∨ x = frm)) →
    (l.foldl (mkS frm to) m).Pairwise (· < ·) ∧ (∀ x ∈ l.foldl (mkS frm to) m, frm ≤ x ∧ (x < to ∨ x = frm)) ∧ (∀ x ∈ m, x ∈ l.foldl (mkS frm to) m) ∧ (∀ e ∈ l, frm < e.t → e.t < to → e.t ∈ l.foldl (mkS frm to) m) ∧ (∃ r, l.foldl (mkS frm to) m = m ++ r) ∧ (l.foldl (mkS frm to) m).length ≤ m.length + l.length
  | [], m, _, _, h3, h4 => ⟨h3, h4, fun x hx => hx, fun e he => (List.not_mem_nil he).elim, ⟨[], by simp⟩, by simp⟩
  | e :: l, m, h1, h2, h3, h4 => by
    rw [List.foldl_cons]
    have hp := List.pairwise_cons.1 h1
    by_cases hq : frm < e.t ∧ e.t < to ∧ e.t ∉ m
    · have hs : mkS frm to m e = m ++ [e.t] := by unfold mkS; rw [if_pos hq]
      rw [hs]
      obtain ⟨i1, i2, i3, i4, ⟨r, i5⟩, i6⟩ := mk_all (l := l) (m := m ++ [e.t]) hp.2 (fun x hx y hy hf => by
          rcases List.mem_append.1 hx with hx | hx
          · exact h2 x hx y (.tail _ hy) hf
          · simp at hx; subst hx; exact hp.1 y hy) (by
          rw [List.pairwise_append]
          refine ⟨h3, List.pairwise_singleton _ _, fun x hx y hy => ?_⟩
          simp at hy
          subst hy
          have := h2 x hx e (.head _) hq.1
          rcases Int.lt_or_eq_of_le this with h | h
          · exact h
          · exact absurd (h ▸ hx) hq.2.2) (fun x hx => by
          rcases List.mem_append.1 hx with hx | hx
          · exact h4 x hx
          · simp at hx; subst hx; exact ⟨by omega, .inl hq.2.1⟩)
      refine ⟨i1, i2, fun x hx => i3 x (by simp [hx]), fun y hy hf ht => ?_, ⟨[e.t] ++ r, by rw [i5]; simp⟩, by simp at i6 ⊢; omega⟩
      rcases List.mem_cons.1 hy with rfl | hy
      · exact i3 _ (by simp)
      · exact i4 y hy hf ht
    · have hs : mkS frm to m e = m := by unfold mkS; rw [if_neg hq]
      rw [hs]
      obtain ⟨i1, i2, i3, i4, i5, i6⟩ := mk_all (l := l) (m := m) hp.2 (fun x hx y hy hf => h2 x hx y (.tail _ hy) hf) h3 h4
      refine ⟨i1, i2, i3, fun y hy hf ht => ?_, i5, by simp; omega⟩
      rcases List.mem_cons.1 hy with rfl | hy
      · by_cases hm : y.t ∈ m
        · exact i3 _ hm
        · exact absurd ⟨hf, ht, hm⟩ hq
      · exact i4 y hy hf ht

/-! ### Degraded -/

def low (l : List Sp) : List Sp := l.filter fun x => decide (x.2.2 < 3)

theorem spansE_K : ∀ l : List Sp, spansE (spanK l) = some l
  | [] => rfl
  | x :: l => by
    have e : spanK (x :: l) = [PV.int .i64 x.1, PV.int .i64 x.2.1, PV.int .i64 x.2.2] :: spanK l := rfl
    rw [e]
    simp only [spansE, spanE, spansE_K l]

theorem gl_len {A : Int → Int} : ∀ {l : List Sp} {s e : Int}, gl A s e l → (l.length : Int) ≤ e - s
  | [], s, e, h => by unfold gl at h; simp; omega
  | x :: r, s, e, h => by have := gl_len h.2.2.2.2; have := h.2.1; simp; omega

end Go.Proofs.YtgdeaamklodkkaaDoor.Vm

/- Contracts of chapter 36: degraded spans, entries and books out of numbers, the example. -/
namespace Go.Proofs.YtgdeaamklodkkaaDoor.Vm
set_option linter.unusedVariables false
set_option linter.unusedSimpArgs false

theorem spanL_len (b : List En) (bs kind frm to : Int) : ((spanL b bs kind frm to).length : Int) ≤ 2147483648 := by
  unfold spanL
  by_cases h : spanE' b bs kind frm to = 0
  · rw [if_pos h]
    unfold spP
    by_cases hx : ∃ l, gl (aF b kind) frm to l
    · rw [dif_pos hx]
      have h1 := gl_len (Classical.choose_spec hx)
      unfold spanE' at h
      split at h
      · omega
      · split at h
        · omega
        · omega
    · rw [dif_neg hx]
      simp
  · rw [if_neg h]
    simp

/-- What Degraded hands back. -/
noncomputable def degrL (b : List En) (bs frm to : Int) : List Sp := low (spanL b bs 1 frm to)

theorem spanL_bad {b : List En} {bs kind frm to : Int} (h : spanE' b bs kind frm to ≠ 0) : spanL b bs kind frm to = [] := by unfold spanL; rw [if_neg h]

/-- Spans of a book: there are not many. -/
theorem gl_cnt {b : List En} {kind : Int} : ∀ {l : List Sp} {s e : Int}, gl (aF b kind) s e l → ∀ T : List Int, T.Pairwise (· < ·) → (∀ x ∈ b, x.k = kind → s < x.t → x.t < e → x.t ∈ T) → l.length ≤ T.length + 1
  | [], _, _, _, _, _, _ => by simp
  | [x], _, _, _, _, _, _ => by simp
  | x :: y :: r, s, e, h, T, hT, hm => by
    obtain ⟨h1, h2, h3, h4, h5⟩ := h
    have h5' := h5
    obtain ⟨k1, k2, k3, k4, k5⟩ := h5
    have hne : y.2.2 ≠ x.2.2 := h4 y rfl
    -- the value changes at x's end: an entry stands there
    have hex : ∃ z ∈ b, z.k = kind ∧ z.t = x.2.1 := by
      by_cases hz : ∃ z ∈ b, z.k = kind ∧ z.t = x.2.1
      · exact hz
      · exfalso
        apply hne
        have a1 := k3 x.2.1 (Int.le_refl _) k2
        have a2 := h3 (x.2.1 - 1) (by omega) (by omega)
        rw [← a1, ← a2]
        refine aF_same fun z hzb hzk => ?_
        constructor
        · intro h; omega
        · intro h
          have : z.t ≠ x.2.1 := fun e => hz ⟨z, hzb, hzk, e⟩
          omega
    obtain ⟨z, hz1, hz2, hz3⟩ := hex
    have hle := gl_le h5'
    have hlt : x.2.1 < e := by
      have := gl_le k5; omega
    have hzT : x.2.1 ∈ T := hz3 ▸ hm z hz1 hz2 (by omega) (by omega)
    have := gl_cnt (l := y :: r) h5' (T.filter fun t => decide (x.2.1 < t)) (hT.filter _) (fun w hw hwk w1 w2 => by
      rw [List.mem_filter]
      exact ⟨hm w hw hwk (by omega) w2, by simpa using w1⟩)
    have hlen : (T.filter fun t => decide (x.2.1 < t)).length + 1 ≤ T.length := by
      have hs : ∀ (U : List Int), x.2.1 ∈ U → (U.filter fun t => decide (x.2.1 < t)).length + 1 ≤ U.length := fun U => by
        induction U with
        | nil => intro h; cases h
        | cons u U ih =>
          intro h
          have hle := List.length_filter_le (fun t => decide (x.2.1 < t)) U
          rcases List.mem_cons.1 h with rfl | h
          · rw [List.filter_cons_of_neg (by simp)]
            simp; omega
          · have := ih h
            by_cases hu : x.2.1 < u
            · rw [List.filter_cons_of_pos (by simpa using hu)]
              simp; omega
            · rw [List.filter_cons_of_neg (by simpa using hu)]
              simp; omega
      exact hs T hzT
    simp at this ⊢
    omega

/-- The times of a list, each once, ascending. -/
theorem times_of : ∀ l : List En, l.Pairwise (fun a c => a.t ≤ c.t) → ∃ T : List Int, T.Pairwise (· < ·) ∧ (∀ x ∈ l, x.t ∈ T) ∧ (∀ t ∈ T, ∃ x ∈ l, x.t = t) ∧ T.length ≤ l.length
  | [], _ => ⟨[], List.Pairwise.nil, fun x hx => (List.not_mem_nil hx).elim, fun t ht => (List.not_mem_nil ht).elim, by simp⟩
  | e :: l, h => by
    obtain ⟨h1, h2⟩ := List.pairwise_cons.1 h
    obtain ⟨T, t1, t2, t3, t4⟩ := times_of l h2
    by_cases he : e.t ∈ T
    · exact ⟨T, t1, fun x hx => (List.mem_cons.1 hx).elim (fun h => h ▸ he) (t2 x), fun t ht => by obtain ⟨x, hx, hx2⟩ := t3 t ht; exact ⟨x, by simp [hx], hx2⟩, by simp; omega⟩
    · refine ⟨e.t :: T, List.pairwise_cons.2 ⟨fun t ht => ?_, t1⟩, fun x hx => (List.mem_cons.1 hx).elim (fun h => by simp [h]) (fun h => by simp [t2 x h]), fun t ht => ?_, by simp; omega⟩
      · obtain ⟨x, hx, rfl⟩ := t3 t ht
        have := h1 x hx
        rcases Int.lt_or_eq_of_le this with h | h
        · exact h
        · exact absurd (h ▸ ht) he
      · rcases List.mem_cons.1 ht with rfl | ht
        · exact ⟨e, by simp, rfl⟩
        · obtain ⟨x, hx, hx2⟩ := t3 t ht
          exact ⟨x, by simp [hx], hx2⟩

theorem spanL_cnt {b : List En} {bs kind frm to : Int} : (spanL b bs kind frm to).length ≤ 201 := by
  by_cases h : spanE' b bs kind frm to = 0
  · have hsl : spanL b bs kind frm to = spP (aF b kind) frm to := by unfold spanL; rw [if_pos h]
    have hc : checkP b bs = 0 := by
      unfold spanE' at h
      split at h
      · omega
      · rename_i hq; simpa using hq
    rw [hsl]
    unfold spP
    by_cases hx : ∃ l, gl (aF b kind) frm to l
    · rw [dif_pos hx]
      obtain ⟨_, hs⟩ := runB_sorted (checkP_run hc)
      obtain ⟨T, t1, t2, t3, t4⟩ := times_of b hs
      have := gl_cnt (Classical.choose_spec hx) T t1 (fun x hx _ _ _ => t2 x hx)
      have := checkP_len hc
      omega
    · rw [dif_neg hx]
      simp
  · rw [spanL_bad h]
    simp

/-- There is a list of spans: the program's own. -/
theorem gl_ex (b : List En) (bs kind frm to : Int) (hc : checkP b bs = 0) (h : frm ≤ to) : ∃ l, gl (aF b kind) frm to l := by
  obtain ⟨_, hs⟩ := runB_sorted (checkP_run hc)
  by_cases hft : frm = to
  · exact ⟨[], hft⟩
  obtain ⟨T, t1, t2, t3, t4⟩ := times_of b hs
  -- by the times between, one after the other
  have key : ∀ (U : List Int) (p : Int) (q : List Sp) (a v : Int), U.Pairwise (· < ·) → (∀ t ∈ U, p ≤ t ∧ t < to) → (∀ x ∈ b, p < x.t → x.t < to → x.t ∈ U) → p < to → gl (aF b kind) frm (p + 1) (q ++ [(a, p + 1, v)]) → ∃ l, gl (aF b kind) frm to l := by
    intro U
    induction U with
    | nil =>
      intro p q a v _ _ hm hpt hg
      obtain ⟨g1, g2, g3⟩ := gl_lastv hg
      exact ⟨_, gl_ext hg (by omega) fun k k1 k2 => by
        rw [aF_same (p := p) fun x hx hxk => ?_]
        · exact g3 p (by omega) (by omega)
        · constructor
          · intro h; omega
          · intro h
            by_cases hx2 : x.t ≤ p
            · exact hx2
            · exact (List.not_mem_nil (hm x hx (by omega) (by omega))).elim⟩
    | cons t U ih =>
      intro p q a v hp hU hm hpt hg
      obtain ⟨g1, g2, g3⟩ := gl_lastv hg
      obtain ⟨u1, u2⟩ := hU t (.head _)
      obtain ⟨p1, p2⟩ := List.pairwise_cons.1 hp
      have hconst : ∀ k, p + 1 ≤ k → k < t → aF b kind k = v := fun k k1 k2 => by
        rw [aF_same (p := p) fun x hx hxk => ?_]
        · exact g3 p (by omega) (by omega)
        · constructor
          · intro h; omega
          · intro h
            by_cases hx2 : x.t ≤ p
            · exact hx2
            · have := hm x hx (by omega) (by omega)
              rcases List.mem_cons.1 this with h2 | h2
              · omega
              · have := p1 _ h2; omega
      have hU' : ∀ y ∈ U, t ≤ y ∧ y < to := fun y hy => ⟨by have := p1 y hy; omega, (hU y (.tail _ hy)).2⟩
      have hm' : ∀ x ∈ b, t < x.t → x.t < to → x.t ∈ U := fun x hx h1 h2 => by
        have := hm x hx (by omega) h2
        rcases List.mem_cons.1 this with h3 | h3
        · omega
        · exact h3
      by_cases hv : aF b kind t = v
      · refine ih t q a v p2 hU' hm' u2 (gl_ext hg (by omega) fun k k1 k2 => ?_)
        by_cases hkt : k < t
        · exact hconst k k1 hkt
        · have : k = t := by omega
          rw [this]; exact hv
      · have hlt : p < t := by
          rcases Int.lt_or_eq_of_le u1 with h | h
          · exact h
          · exact absurd (by rw [← h]; exact g3 p (by omega) (by omega)) hv
        refine ih t (q ++ [(a, t, v)]) t (aF b kind t) p2 hU' hm' u2 (gl_app (gl_ext hg (by omega) hconst) hv (by omega) fun k k1 k2 => ?_)
        have : k = t := by omega
        rw [this]
  refine key (T.filter fun t => decide (frm < t ∧ t < to)) frm [] frm (aF b kind frm) (t1.filter _) (fun t ht => ?_) (fun x hx h1 h2 => ?_) (by omega) (gl_one (by omega) fun k k1 k2 => ?_)
  · have := (List.mem_filter.1 ht).2
    simp only [decide_eq_true_eq] at this
    omega
  · rw [List.mem_filter]
    exact ⟨t2 x hx, by simp; omega⟩
  · have : k = frm := by omega
    rw [this]

end Go.Proofs.YtgdeaamklodkkaaDoor.Vm

/- Contracts of chapter 36: entries and books out of numbers. -/
namespace Go.Proofs.YtgdeaamklodkkaaDoor.Vm
set_option linter.unusedVariables false
set_option linter.unusedSimpArgs false

/-- An entry that is valid but for its time. -/
def okE (e : En) : Prop := (1 ≤ e.k ∧ e.k ≤ 8) ∧ (e.ws.length : Int) = wordsP e.k ∧ inside e.ws = true

theorem okE_valid {e : En} (h : okE e) (ht : 0 ≤ e.t ∧ e.t ≤ 2147483648) : validP e.t e.k e.ws = true := by
  unfold validP
  rw [decide_eq_true ht.1, decide_eq_true ht.2, decide_eq_true h.2.1, h.2.2]
  rfl

theorem okE_len {e : En} (h : okE e) : e.ws.length ≤ 4 := by
  have := h.2.1
  have := wordsP_le e.k
  omega

theorem inside_snoc (c : List Int) (x : Int) : inside (c ++ [x]) = (inside c && (decide (-1000000000 ≤ x) && decide (x ≤ 1000000000))) := by
  unfold inside
  rw [List.all_append]
  simp

theorem l_Entry {L : List Int} (hL : L.length ≤ 600) (t kd : Int) : ∀ (n k : Nat) (c : List Int), k ≤ 600 → n + c.length ≤ 100 → inside c = true → ∃ c' k', k' ≤ 600 ∧ c'.length = n + c.length ∧ inside c' = true ∧
    lp E (denC E) 32 1 [] 0 { vals := [AV.int .i64 (n : Int)], blks := [src L k, Blk.box [AV.int .i64 0, AV.int .i64 0, AV.sl 1 []], Blk.box [AV.int .i64 t, AV.int .i64 kd, AV.t (.hsl 3)], Blk.arr 1 (intsK .i64 c)] } =
      some (.exit 0, { vals := [], blks := [src L k', Blk.box [AV.int .i64 0, AV.int .i64 0, AV.sl 1 []], Blk.box [AV.int .i64 t, AV.int .i64 kd, AV.t (.hsl 3)], Blk.arr 1 (intsK .i64 c')] }) := by
  intro n
  induction n with
  | zero =>
    intro k c hk hc hi
    refine ⟨c, k, hk, by simp, hi, ?_⟩
    rw [r32_0]
    rfl
  | succ n ih =>
    intro k c hk hc hi
    have hp := c_Pick hL hk (l := [0, 1, 2, 3, -5, 1000000000, -1000000000]) (by simp)
    have hm := vPick_mem L k (l := [0, 1, 2, 3, -5, 1000000000, -1000000000]) (by simp)
    obtain ⟨c', k', h1, h2, h3, h4⟩ := ih (at' L k) (c ++ [vPick L k [0, 1, 2, 3, -5, 1000000000, -1000000000]]) (at'_le hL hk) (by simp; omega) (by
      rw [inside_snoc, hi]
      simp only [List.mem_cons, List.not_mem_nil, or_false] at hm
      have : -1000000000 ≤ vPick L k [0, 1, 2, 3, -5, 1000000000, -1000000000] ∧ vPick L k [0, 1, 2, 3, -5, 1000000000, -1000000000] ≤ 1000000000 := by omega
      simp [this.1, this.2])
    refine ⟨c', k', h1, by rw [h2]; simp; omega, h3, ?_⟩
    rw [r32_0]
    have hlt : ltB 0 ((n + 1 : Nat) : Int) = true := by simp [ltB] <;> omega
    have hw : IntKind.i64.wrap (((n + 1 : Nat) : Int) - 1) = (n : Int) := by rw [w64 (by omega)]; omega
    have e1 : intsK .i64 [0, 1, 2, 3, -5, 1000000000, -1000000000] = [[PV.int IntKind.i64 0], [PV.int IntKind.i64 1], [PV.int IntKind.i64 2], [PV.int IntKind.i64 3], [PV.int IntKind.i64 (-5)], [PV.int IntKind.i64 1000000000], [PV.int IntKind.i64 (-1000000000)]] := rfl
    rw [hlt, ctl_true, ← e1, hp]
    have h9 : leN (((intsK .i64 c).length + 1) * 8) 140737488355328 = true := by rw [intsK_len]; simp [leN]; omega
    simp only [bnd_some, ctl_true, ctl_false, ctl_and, ctl_or', ctl_or2, x_toPV, x_toCs, x_toCs2, x_toEs, x_bEs, x_bCs, x_aPV, x_aCs, x_int, x_bool, x_str, x_es, x_esn, nth_0, nth_1, nth_2, nth_3, nth_4, nth_5, nth_6, nth_7, nth_8, nth_9, y_nil, y_int, y_bool, y_str, y_sl, y_nils, y_agg, y_ownp, y_own, z_nil, z_int, z_bool, z_str, z_sl, z_nils, b_nil, b_arr, b_box1, b_box2, b_box3, b_box4, List.map_cons, List.map_nil, Bool.and_self, Bool.and_true, Bool.true_and, Bool.not_true, Bool.not_false, Bool.or_false, Bool.false_or, cond_true, cond_false, okPack, okPut, okPutBlks, okPutCells, q_isP, q_isAg, q_isBox, q_isArr, q_int, q_bool, q_str, q_sl, q_nils, e_exit, e_ret, e_nrm, e_ret_exit, e_exit_ret, e_nrm_exit, e_nrm_ret, e_exit_nrm, e_ret_nrm, Nat.zero_add, Nat.reduceAdd, noslR, noslP, noslB, noslA, List.all_cons, List.all_nil]
    rw [h9, ctl_true, hw, intsK_snoc]
    exact h4

theorem c_Entry {L : List Int} {k : Nat} (hL : L.length ≤ 600) (hk : k ≤ 600) (time : Int) : ∃ e k', k' ≤ 600 ∧ e.t = time ∧ okE e ∧
    denC E 32 [AV.t (.ptr 0 0), AV.int .i64 time] [src L k] = some ([RV.agg (enK e)], [src L k']) := by
  have hp := c_Pick hL hk (l := [1, 1, 2, 3, 4, 5, 6, 7, 8]) (by simp)
  have hm := vPick_mem L k (l := [1, 1, 2, 3, 4, 5, 6, 7, 8]) (by simp)
  generalize hx : vPick L k [1, 1, 2, 3, 4, 5, 6, 7, 8] = kd at *
  have h18 : 1 ≤ kd ∧ kd ≤ 8 := by
    simp only [List.mem_cons, List.not_mem_nil, or_false] at hm
    omega
  have e1 : intsK .i64 [1, 1, 2, 3, 4, 5, 6, 7, 8] = [[PV.int IntKind.i64 1], [PV.int IntKind.i64 1], [PV.int IntKind.i64 2], [PV.int IntKind.i64 3], [PV.int IntKind.i64 4], [PV.int IntKind.i64 5], [PV.int IntKind.i64 6], [PV.int IntKind.i64 7], [PV.int IntKind.i64 8]] := rfl
  obtain ⟨n, hn⟩ : ∃ n : Nat, wordsP kd = n := ⟨(wordsP kd).toNat, by
    have : kd = 1 ∨ kd = 2 ∨ kd = 3 ∨ kd = 4 ∨ kd = 5 ∨ kd = 6 ∨ kd = 7 ∨ kd = 8 := by omega
    rcases this with rfl | rfl | rfl | rfl | rfl | rfl | rfl | rfl <;> rfl⟩
  have hn4 : n ≤ 4 := by have := wordsP_le kd; omega
  obtain ⟨c', k', h1, h2, h3, h4⟩ := l_Entry hL time kd n (at' L k) [] (at'_le hL hk) (by simp; omega) rfl
  refine ⟨⟨time, kd, c'⟩, k', h1, rfl, ⟨h18, by rw [hn, h2]; simp, h3⟩, ?_⟩
  rw [denC_eq, r32, ← e1, hp]
  simp only [bnd_some, ctl_true, ctl_false, ctl_and, ctl_or', ctl_or2, x_toPV, x_toCs, x_toCs2, x_toEs, x_bEs, x_bCs, x_aPV, x_aCs, x_int, x_bool, x_str, x_es, x_esn, nth_0, nth_1, nth_2, nth_3, nth_4, nth_5, nth_6, nth_7, nth_8, nth_9, y_nil, y_int, y_bool, y_str, y_sl, y_nils, y_agg, y_ownp, y_own, z_nil, z_int, z_bool, z_str, z_sl, z_nils, b_nil, b_arr, b_box1, b_box2, b_box3, b_box4, List.map_cons, List.map_nil, Bool.and_self, Bool.and_true, Bool.true_and, Bool.not_true, Bool.not_false, Bool.or_false, Bool.false_or, cond_true, cond_false, okPack, okPut, okPutBlks, okPutCells, q_isP, q_isAg, q_isBox, q_isArr, q_int, q_bool, q_str, q_sl, q_nils, e_exit, e_ret, e_nrm, e_ret_exit, e_exit_ret, e_nrm_exit, e_nrm_ret, e_exit_nrm, e_ret_nrm, Nat.zero_add, Nat.reduceAdd, noslR, noslP, noslB, noslA, List.all_cons, List.all_nil]
  have e2 : (leB 0 kd && ltB kd 9) = true := by simp [leB, ltB]; omega
  have e3 : nth [] [[PV.int IntKind.i64 0], [PV.int IntKind.i64 1], [PV.int IntKind.i64 1], [PV.int IntKind.i64 1], [PV.int IntKind.i64 2], [PV.int IntKind.i64 2], [PV.int IntKind.i64 4], [PV.int IntKind.i64 2], [PV.int IntKind.i64 3]] kd.toNat = [PV.int .i64 (n : Int)] := by
    rw [← hn]
    have : kd = 1 ∨ kd = 2 ∨ kd = 3 ∨ kd = 4 ∨ kd = 5 ∨ kd = 6 ∨ kd = 7 ∨ kd = 8 := by omega
    rcases this with rfl | rfl | rfl | rfl | rfl | rfl | rfl | rfl <;> rfl
  have e4 : okCs [Sh.int IntKind.i64] (List.take 1 (List.drop 0 [PV.int .i64 (n : Int)])) = true := rfl
  have e5 : (nth PV.nilp [PV.int .i64 (n : Int)] 0).toInt = (n : Int) := rfl
  rw [e2, e3, e4, e5]
  have e6 : intsK .i64 [] = [] := rfl
  rw [e6] at h4
  simp only [bnd_some, ctl_true, ctl_false, ctl_and, ctl_or', ctl_or2, x_toPV, x_toCs, x_toCs2, x_toEs, x_bEs, x_bCs, x_aPV, x_aCs, x_int, x_bool, x_str, x_es, x_esn, nth_0, nth_1, nth_2, nth_3, nth_4, nth_5, nth_6, nth_7, nth_8, nth_9, y_nil, y_int, y_bool, y_str, y_sl, y_nils, y_agg, y_ownp, y_own, z_nil, z_int, z_bool, z_str, z_sl, z_nils, b_nil, b_arr, b_box1, b_box2, b_box3, b_box4, List.map_cons, List.map_nil, Bool.and_self, Bool.and_true, Bool.true_and, Bool.not_true, Bool.not_false, Bool.or_false, Bool.false_or, cond_true, cond_false, okPack, okPut, okPutBlks, okPutCells, q_isP, q_isAg, q_isBox, q_isArr, q_int, q_bool, q_str, q_sl, q_nils, e_exit, e_ret, e_nrm, e_ret_exit, e_exit_ret, e_nrm_exit, e_nrm_ret, e_exit_nrm, e_ret_nrm, Nat.zero_add, Nat.reduceAdd, noslR, noslP, noslB, noslA, List.all_cons, List.all_nil]
  rw [h4]
  simp only [bnd_some, ctl_true, ctl_false, ctl_and, ctl_or', ctl_or2, x_toPV, x_toCs, x_toCs2, x_toEs, x_bEs, x_bCs, x_aPV, x_aCs, x_int, x_bool, x_str, x_es, x_esn, nth_0, nth_1, nth_2, nth_3, nth_4, nth_5, nth_6, nth_7, nth_8, nth_9, y_nil, y_int, y_bool, y_str, y_sl, y_nils, y_agg, y_ownp, y_own, z_nil, z_int, z_bool, z_str, z_sl, z_nils, b_nil, b_arr, b_box1, b_box2, b_box3, b_box4, List.map_cons, List.map_nil, Bool.and_self, Bool.and_true, Bool.true_and, Bool.not_true, Bool.not_false, Bool.or_false, Bool.false_or, cond_true, cond_false, okPack, okPut, okPutBlks, okPutCells, q_isP, q_isAg, q_isBox, q_isArr, q_int, q_bool, q_str, q_sl, q_nils, e_exit, e_ret, e_nrm, e_ret_exit, e_exit_ret, e_nrm_exit, e_nrm_ret, e_exit_nrm, e_ret_nrm, Nat.zero_add, Nat.reduceAdd, noslR, noslP, noslB, noslA, List.all_cons, List.all_nil]
  rfl

/-! ### Books -/

theorem u64_rng (x : Int) : 0 ≤ IntKind.u64.wrap x ∧ IntKind.u64.wrap x ≤ 18446744073709551615 := by
  have h1 : IntKind.u64.wrap x = x % 18446744073709551616 := rfl
  rw [h1]
  omega

theorem sumB_rng : ∀ (s : List UInt8) (x : Int), 0 ≤ x ∧ x ≤ 18446744073709551615 → 0 ≤ sumB x s ∧ sumB x s ≤ 18446744073709551615
  | [], x, h => h
  | b :: s, x, h => by
    rw [sumB_cons]
    exact sumB_rng s _ (u64_rng _)

theorem runB_rng : ∀ {l : List En} {s p x : Int}, runB s p l = some x → 0 ≤ s ∧ s ≤ 18446744073709551615 → 0 ≤ x ∧ x ≤ 18446744073709551615
  | [], s, p, x, h, hs => by simp only [runB, Option.some.injEq] at h; omega
  | a :: l, s, p, x, h, hs => by
    simp only [runB] at h
    split at h
    · exact runB_rng h (sumB_rng _ _ hs)
    · cases h

theorem checkP_rng {b : List En} {s : Int} (h : checkP b s = 0) : 0 ≤ s ∧ s ≤ 18446744073709551615 := runB_rng (checkP_run h) (by decide)

theorem runB_snoc {e : En} (hv : validP e.t e.k e.ws = true) : ∀ {l : List En} {s p x : Int}, runB s p l = some x → p ≤ e.t → (∀ a ∈ l, a.t ≤ e.t) → runB s p (l ++ [e]) = some (sumB x (lineP e.t e.k e.ws))
  | [], s, p, x, h, hp, _ => by
    simp only [runB, Option.some.injEq] at h
    subst h
    simp [runB, hv, hp]
  | a :: l, s, p, x, h, hp, hl => by
    simp only [runB, List.cons_append] at h ⊢
    split at h
    · rename_i hq
      rw [if_pos hq]
      exact runB_snoc hv h (hl a (.head _)) (fun c hc => hl c (.tail _ hc))
    · cases h

theorem lateP_all {b : List En} {t : Int} (hs : b.Pairwise (fun a c => a.t ≤ c.t)) (h : lateP b t = true) : ∀ a ∈ b, a.t ≤ t := by
  rcases List.eq_nil_or_concat b with rfl | ⟨q, z, rfl⟩
  · intro a ha; cases ha
  · intro a ha
    have h1 : z.t ≤ t := by simpa [lateP, List.concat_eq_append] using h
    rw [List.concat_eq_append] at ha hs
    rcases List.mem_append.1 ha with ha | ha
    · have := (List.pairwise_append.1 hs).2.2 a ha z (by simp); omega
    · simp at ha; subst ha; exact h1

theorem checkP_snoc {b : List En} {s : Int} {e : En} (hc : checkP b s = 0) (hv : validP e.t e.k e.ws = true) (hl : lateP b e.t = true) (hn : b.length < 200) : checkP (b ++ [e]) (sumB s (lineP e.t e.k e.ws)) = 0 := by
  have hr := checkP_run hc
  obtain ⟨_, hs⟩ := runB_sorted hr
  have h0 : 0 ≤ e.t := (validP_all hv).1
  have := runB_snoc hv hr h0 (lateP_all hs hl)
  unfold checkP
  rw [if_neg (by simp; omega), if_pos this]

theorem checkP_nil : checkP [] begin36 = 0 := by decide

/-- An entry behind a book that may take it. -/
theorem appR_ok {b : List En} {s : Int} {e : En} (hc : checkP b s = 0) (hv : validP e.t e.k e.ws = true) (hl : lateP b e.t = true) (hn : b.length < 200) : appR b s e = [RV.agg [PV.sl 3 (ensK (b ++ [e])), PV.int .u64 (sumB s (lineP e.t e.k e.ws))], RV.p (PV.int .i64 0)] := by
  have : appE b s e = 0 := by unfold appE; rw [if_neg (by simp [hc, hv]), if_neg (by simp [hl]), if_neg (by omega)]
  unfold appR
  rw [if_pos this]

theorem lateP_of {b : List En} {t : Int} (h : ∀ a ∈ b, a.t ≤ t) : lateP b t = true := by
  unfold lateP
  split
  · rename_i a ha
    have := List.mem_of_getLast? ha
    simpa using h a this
  · rfl

theorem checkP_ws {b : List En} {s : Int} (h : checkP b s = 0) : ∀ e ∈ b, e.ws.length ≤ 1000000 := fun e he => by
  have := (validP_all (runB_ok (checkP_run h) e he)).2.2.2.2.1
  omega

theorem l_Book {L : List Int} (hL : L.length ≤ 600) (z0 : List (List PV)) (z1 : Int) : ∀ (n k : Nat) (b : List En) (s time : Int), k ≤ 600 → n + b.length ≤ 100 → checkP b s = 0 → 0 ≤ time → time + 3 * n ≤ 1000 → (∀ a ∈ b, a.t ≤ time) →
    ∃ b' s' k', k' ≤ 600 ∧ checkP b' s' = 0 ∧ b'.length = n + b.length ∧ (∀ a ∈ b', a.t ≤ time + 3 * n) ∧
    lp E (denC E) 17 1 [] 0 { vals := [AV.int .i64 time, AV.int .i64 (n : Int)], blks := [src L k, Blk.box [AV.sl 3 z0, AV.int .u64 z1], Blk.box [AV.sl 3 (ensK b), AV.int .u64 s]] } =
      some (.exit 0, { vals := [], blks := [src L k', Blk.box [AV.sl 3 z0, AV.int .u64 z1], Blk.box [AV.sl 3 (ensK b'), AV.int .u64 s']] }) := by
  intro n
  induction n with
  | zero =>
    intro k b s time hk hn hc ht0 ht1 hb
    refine ⟨b, s, k, hk, hc, by simp, by simpa using hb, ?_⟩
    rw [r17_0]
    rfl
  | succ n ih =>
    intro k b s time hk hn hc ht0 ht1 hb
    have hN := c_N hL hk 4 (by omega)
    have hbd := vN_bounds (L := L) (k := k) (n := 4) (by omega)
    obtain ⟨e, k1, hk1, het, hoe, hE⟩ := c_Entry hL (at'_le hL hk) (time + vN L k 4)
    have hv : validP e.t e.k e.ws = true := okE_valid hoe (by omega)
    have hla : lateP b e.t = true := lateP_of fun a ha => by have := hb a ha; omega
    have hA := c_AppendD b s e (checkP_ws hc) (by have := okE_len hoe; omega)
    rw [appR_ok hc hv hla (by omega)] at hA
    obtain ⟨b', s', k', h1, h2, h3, h4, h5⟩ := ih k1 (b ++ [e]) (sumB s (lineP e.t e.k e.ws)) (time + vN L k 4) hk1 (by simp; omega) (checkP_snoc hc hv hla (by omega)) (by omega) (by omega) (fun a ha => by
      rcases List.mem_append.1 ha with ha | ha
      · have := hb a ha; omega
      · simp at ha; subst ha; omega)
    refine ⟨b', s', k', h1, h2, by rw [h3]; simp; omega, fun a ha => by have := h4 a ha; omega, ?_⟩
    rw [r17_0]
    have hlt : ltB 0 ((n + 1 : Nat) : Int) = true := by simp [ltB] <;> omega
    have hw : IntKind.i64.wrap (((n + 1 : Nat) : Int) - 1) = (n : Int) := by rw [w64 (by omega)]; omega
    have hw2 : IntKind.i64.wrap (time + vN L k 4) = time + vN L k 4 := w64 (by omega)
    rw [hlt, ctl_true, hN]
    simp only [bnd_some, ctl_true, ctl_false, ctl_and, ctl_or', ctl_or2, x_toPV, x_toCs, x_toCs2, x_toEs, x_bEs, x_bCs, x_aPV, x_aCs, x_int, x_bool, x_str, x_es, x_esn, nth_0, nth_1, nth_2, nth_3, nth_4, nth_5, nth_6, nth_7, nth_8, nth_9, y_nil, y_int, y_bool, y_str, y_sl, y_nils, y_agg, y_ownp, y_own, z_nil, z_int, z_bool, z_str, z_sl, z_nils, b_nil, b_arr, b_box1, b_box2, b_box3, b_box4, List.map_cons, List.map_nil, Bool.and_self, Bool.and_true, Bool.true_and, Bool.not_true, Bool.not_false, Bool.or_false, Bool.false_or, cond_true, cond_false, okPack, okPut, okPutBlks, okPutCells, q_isP, q_isAg, q_isBox, q_isArr, q_int, q_bool, q_str, q_sl, q_nils, e_exit, e_ret, e_nrm, e_ret_exit, e_exit_ret, e_nrm_exit, e_nrm_ret, e_exit_nrm, e_ret_nrm, Nat.zero_add, Nat.reduceAdd, noslR, noslP, noslB, noslA, List.all_cons, List.all_nil]
    rw [hw2, hE]
    unfold enK at hA ⊢
    simp only [bnd_some, ctl_true, ctl_false, ctl_and, ctl_or', ctl_or2, x_toPV, x_toCs, x_toCs2, x_toEs, x_bEs, x_bCs, x_aPV, x_aCs, x_int, x_bool, x_str, x_es, x_esn, nth_0, nth_1, nth_2, nth_3, nth_4, nth_5, nth_6, nth_7, nth_8, nth_9, y_nil, y_int, y_bool, y_str, y_sl, y_nils, y_agg, y_ownp, y_own, z_nil, z_int, z_bool, z_str, z_sl, z_nils, b_nil, b_arr, b_box1, b_box2, b_box3, b_box4, List.map_cons, List.map_nil, Bool.and_self, Bool.and_true, Bool.true_and, Bool.not_true, Bool.not_false, Bool.or_false, Bool.false_or, cond_true, cond_false, okPack, okPut, okPutBlks, okPutCells, q_isP, q_isAg, q_isBox, q_isArr, q_int, q_bool, q_str, q_sl, q_nils, e_exit, e_ret, e_nrm, e_ret_exit, e_exit_ret, e_nrm_exit, e_nrm_ret, e_exit_nrm, e_ret_nrm, Nat.zero_add, Nat.reduceAdd, noslR, noslP, noslB, noslA, List.all_cons, List.all_nil]
    rw [hA]
    simp only [bnd_some, ctl_true, ctl_false, ctl_and, ctl_or', ctl_or2, x_toPV, x_toCs, x_toCs2, x_toEs, x_bEs, x_bCs, x_aPV, x_aCs, x_int, x_bool, x_str, x_es, x_esn, nth_0, nth_1, nth_2, nth_3, nth_4, nth_5, nth_6, nth_7, nth_8, nth_9, y_nil, y_int, y_bool, y_str, y_sl, y_nils, y_agg, y_ownp, y_own, z_nil, z_int, z_bool, z_str, z_sl, z_nils, b_nil, b_arr, b_box1, b_box2, b_box3, b_box4, List.map_cons, List.map_nil, Bool.and_self, Bool.and_true, Bool.true_and, Bool.not_true, Bool.not_false, Bool.or_false, Bool.false_or, cond_true, cond_false, okPack, okPut, okPutBlks, okPutCells, q_isP, q_isAg, q_isBox, q_isArr, q_int, q_bool, q_str, q_sl, q_nils, e_exit, e_ret, e_nrm, e_ret_exit, e_exit_ret, e_nrm_exit, e_nrm_ret, e_exit_nrm, e_ret_nrm, Nat.zero_add, Nat.reduceAdd, noslR, noslP, noslB, noslA, List.all_cons, List.all_nil]
    rw [hw]
    exact h5

theorem c_Book {L : List Int} {k : Nat} (hL : L.length ≤ 600) (hk : k ≤ 600) (most : Int) (hm : 0 ≤ most ∧ most ≤ 20) : ∃ b s k', k' ≤ 600 ∧ checkP b s = 0 ∧ (b.length : Int) ≤ most ∧ (∀ a ∈ b, a.t ≤ 60) ∧
    denC E 17 [AV.t (.ptr 0 0), AV.int .i64 most] [src L k] = some ([RV.agg [PV.sl 3 (ensK b), PV.int .u64 s]], [src L k']) := by
  have hN := c_N hL hk (most + 1) (by omega)
  have hbd := vN_bounds (L := L) (k := k) (n := most + 1) (by omega)
  obtain ⟨n, hn⟩ : ∃ n : Nat, vN L k (most + 1) = n := ⟨(vN L k (most + 1)).toNat, by omega⟩
  obtain ⟨b, s, k', h1, h2, h3, h4, h5⟩ := l_Book hL [] 0 n (at' L k) [] begin36 0 (at'_le hL hk) (by simp; omega) checkP_nil (by omega) (by omega) (fun a ha => (List.not_mem_nil ha).elim)
  refine ⟨b, s, k', h1, h2, by rw [h3]; simp; omega, fun a ha => by have := h4 a ha; omega, ?_⟩
  have e0 : ensK [] = [] := rfl
  rw [e0] at h5
  rw [denC_eq, r17, c_NewD]
  simp only [bnd_some, ctl_true, ctl_false, ctl_and, ctl_or', ctl_or2, x_toPV, x_toCs, x_toCs2, x_toEs, x_bEs, x_bCs, x_aPV, x_aCs, x_int, x_bool, x_str, x_es, x_esn, nth_0, nth_1, nth_2, nth_3, nth_4, nth_5, nth_6, nth_7, nth_8, nth_9, y_nil, y_int, y_bool, y_str, y_sl, y_nils, y_agg, y_ownp, y_own, z_nil, z_int, z_bool, z_str, z_sl, z_nils, b_nil, b_arr, b_box1, b_box2, b_box3, b_box4, List.map_cons, List.map_nil, Bool.and_self, Bool.and_true, Bool.true_and, Bool.not_true, Bool.not_false, Bool.or_false, Bool.false_or, cond_true, cond_false, okPack, okPut, okPutBlks, okPutCells, q_isP, q_isAg, q_isBox, q_isArr, q_int, q_bool, q_str, q_sl, q_nils, e_exit, e_ret, e_nrm, e_ret_exit, e_exit_ret, e_nrm_exit, e_nrm_ret, e_exit_nrm, e_ret_nrm, Nat.zero_add, Nat.reduceAdd, noslR, noslP, noslB, noslA, List.all_cons, List.all_nil]
  rw [w64 (n := most + 1) (by omega), hN]
  simp only [bnd_some, ctl_true, ctl_false, ctl_and, ctl_or', ctl_or2, x_toPV, x_toCs, x_toCs2, x_toEs, x_bEs, x_bCs, x_aPV, x_aCs, x_int, x_bool, x_str, x_es, x_esn, nth_0, nth_1, nth_2, nth_3, nth_4, nth_5, nth_6, nth_7, nth_8, nth_9, y_nil, y_int, y_bool, y_str, y_sl, y_nils, y_agg, y_ownp, y_own, z_nil, z_int, z_bool, z_str, z_sl, z_nils, b_nil, b_arr, b_box1, b_box2, b_box3, b_box4, List.map_cons, List.map_nil, Bool.and_self, Bool.and_true, Bool.true_and, Bool.not_true, Bool.not_false, Bool.or_false, Bool.false_or, cond_true, cond_false, okPack, okPut, okPutBlks, okPutCells, q_isP, q_isAg, q_isBox, q_isArr, q_int, q_bool, q_str, q_sl, q_nils, e_exit, e_ret, e_nrm, e_ret_exit, e_exit_ret, e_nrm_exit, e_nrm_ret, e_exit_nrm, e_ret_nrm, Nat.zero_add, Nat.reduceAdd, noslR, noslP, noslB, noslA, List.all_cons, List.all_nil]
  rw [hn, h5]
  simp only [bnd_some, ctl_true, ctl_false, ctl_and, ctl_or', ctl_or2, x_toPV, x_toCs, x_toCs2, x_toEs, x_bEs, x_bCs, x_aPV, x_aCs, x_int, x_bool, x_str, x_es, x_esn, nth_0, nth_1, nth_2, nth_3, nth_4, nth_5, nth_6, nth_7, nth_8, nth_9, y_nil, y_int, y_bool, y_str, y_sl, y_nils, y_agg, y_ownp, y_own, z_nil, z_int, z_bool, z_str, z_sl, z_nils, b_nil, b_arr, b_box1, b_box2, b_box3, b_box4, List.map_cons, List.map_nil, Bool.and_self, Bool.and_true, Bool.true_and, Bool.not_true, Bool.not_false, Bool.or_false, Bool.false_or, cond_true, cond_false, okPack, okPut, okPutBlks, okPutCells, q_isP, q_isAg, q_isBox, q_isArr, q_int, q_bool, q_str, q_sl, q_nils, e_exit, e_ret, e_nrm, e_ret_exit, e_exit_ret, e_nrm_exit, e_nrm_ret, e_exit_nrm, e_ret_nrm, Nat.zero_add, Nat.reduceAdd, noslR, noslP, noslB, noslA, List.all_cons, List.all_nil]

theorem setEs_ens {b : List En} {i : Nat} (h : i < b.length) (e : En) : setEs (ensK b) i 0 (enK e) = ensK (b.set i e) := by
  unfold setEs
  rw [upd_eq]
  have h1 : lay (nth [] (ensK b) i) 0 (enK e) = enK e := by
    rw [nth_eq]
    simp [ensK, List.getD, h, lay, lay.go, enK]
  rw [h1]
  simp [ensK, List.map_set]

end Go.Proofs.YtgdeaamklodkkaaDoor.Vm

/- Contracts of the functions that compute with angles. -/
namespace Go.Proofs.YtgdeaamklodkkaaDoor.Vm
set_option linter.unusedVariables false
set_option linter.unusedSimpArgs false

def floorI (n d : Int) : Int := n / d
theorem c_floor {n d : Int} (hd : 0 < d) (hn : -9000000000000000000 ≤ n ∧ n ≤ 9000000000000000000) : denC E 63 [AV.int .i64 n, AV.int .i64 d] [] = some ([RV.p (PV.int .i64 (n / d))], []) := by
  rw [denC_eq, r63]
  have hb : -9000000000000000001 ≤ n / d ∧ n / d ≤ 9000000000000000000 := by
    have h1 := Int.mul_ediv_add_emod n d
    have h3 := Int.emod_nonneg n (Int.ne_of_gt hd)
    have h4 := Int.emod_lt_of_pos n hd
    constructor
    · rcases Int.lt_or_le (n / d) (-9000000000000000000) with h | h
      · have h5 : d * (n / d) ≤ d * (-9000000000000000001) := Int.mul_le_mul_of_nonneg_left (by omega) (by omega)
        omega
      · omega
    · rcases Int.lt_or_le 9000000000000000000 (n / d) with h | h
      · have h5 : d * 9000000000000000001 ≤ d * (n / d) := Int.mul_le_mul_of_nonneg_left (by omega) (by omega)
        omega
      · exact h
  have hf := floor_div (n := n) hd
  have hq : n.tdiv d = n / d ∨ n.tdiv d = n / d + 1 := by
    split at hf <;> omega
  have hne : neB d 0 = true := by simp; omega
  simp only [hne, Bool.and_self, ctl_true]
  rw [ctl_dec, w64 (n := n.tdiv d) (by omega), w64 (by omega), ← hf]
  split <;> rfl

theorem c_Half1 {n d : Int} (hd : 1 ≤ d ∧ d ≤ 1000000000) (hn : -1000000000000000000 ≤ n ∧ n ≤ 1000000000000000000) :
    denC E 62 [AV.int .i64 n, AV.int .i64 d] [] = some ([RV.p (PV.int .i64 ((2 * n + d) / (2 * d)))], []) := by
  rw [denC_eq, r62]
  rw [w64 (n := 2 * n) (by omega), w64 (n := 2 * n + d) (by omega), w64 (n := 2 * d) (by omega), c_floor (by omega) (by omega)]
  simp only [bnd_some, ctl_true, ctl_false, ctl_and, ctl_or', ctl_or2, x_toPV, x_toCs, x_toCs2, x_toEs, x_bEs, x_bCs, x_aPV, x_aCs, x_int, x_bool, x_str, x_es, x_esn, nth_0, nth_1, nth_2, nth_3, nth_4, nth_5, nth_6, nth_7, nth_8, nth_9, y_nil, y_int, y_bool, y_str, y_sl, y_nils, y_agg, y_ownp, y_own, z_nil, z_int, z_bool, z_str, z_sl, z_nils, b_nil, b_arr, b_box1, b_box2, b_box3, b_box4, List.map_cons, List.map_nil, Bool.and_self, Bool.and_true, Bool.true_and, Bool.not_true, Bool.not_false, Bool.or_false, Bool.false_or, cond_true, cond_false, okPack, okPut, okPutBlks, okPutCells, q_isP, q_isAg, q_isBox, q_isArr, q_int, q_bool, q_str, q_sl, q_nils, e_exit, e_ret, e_nrm, e_ret_exit, e_exit_ret, e_nrm_exit, e_nrm_ret, e_exit_nrm, e_ret_nrm, Nat.zero_add, Nat.reduceAdd, noslR, noslP, noslB, noslA, List.all_cons, List.all_nil]

def Half (n d : Int) : Int := (2 * n + d) / (2 * d)
theorem c_Half {n d : Int} (hd : 1 ≤ d ∧ d ≤ 1000000000) (hn : -1000000000000000000 ≤ n ∧ n ≤ 1000000000000000000) :
    denC E 45 [AV.int .i64 n, AV.int .i64 d] [] = some ([RV.p (PV.int .i64 (Half n d)), RV.p (PV.int .i64 0)], []) := by
  have hdiv : denC E 61 [AV.int .i64 n, AV.int .i64 d, AV.fn 62 []] [] = some ([RV.p (PV.int .i64 (Half n d)), RV.p (PV.int .i64 0)], []) := by
    rw [denC_eq, r61a, c_Half1 hd hn]
    have h1 : ltB n (-1000000000000000000) = false := by simp; omega
    have h2 : ltB 1000000000000000000 n = false := by simp; omega
    have h3 : ltB d 1 = false := by simp; omega
    have h4 : ltB 1000000000 d = false := by simp; omega
    simp only [h1, h2, h3, h4, bnd_some, ctl_true, ctl_false, ctl_and, ctl_or', ctl_or2, x_toPV, x_toCs, x_toCs2, x_toEs, x_bEs, x_bCs, x_aPV, x_aCs, x_int, x_bool, x_str, x_es, x_esn, nth_0, nth_1, nth_2, nth_3, nth_4, nth_5, nth_6, nth_7, nth_8, nth_9, y_nil, y_int, y_bool, y_str, y_sl, y_nils, y_agg, y_ownp, y_own, z_nil, z_int, z_bool, z_str, z_sl, z_nils, b_nil, b_arr, b_box1, b_box2, b_box3, b_box4, List.map_cons, List.map_nil, Bool.and_self, Bool.and_true, Bool.true_and, Bool.not_true, Bool.not_false, Bool.or_false, Bool.false_or, cond_true, cond_false, okPack, okPut, okPutBlks, okPutCells, q_isP, q_isAg, q_isBox, q_isArr, q_int, q_bool, q_str, q_sl, q_nils, e_exit, e_ret, e_nrm, e_ret_exit, e_exit_ret, e_nrm_exit, e_nrm_ret, e_exit_nrm, e_ret_nrm, Nat.zero_add, Nat.reduceAdd, noslR, noslP, noslB, noslA, List.all_cons, List.all_nil, Half]
  rw [denC_eq, r45, hdiv]
  simp only [bnd_some, ctl_true, ctl_false, ctl_and, ctl_or', ctl_or2, x_toPV, x_toCs, x_toCs2, x_toEs, x_bEs, x_bCs, x_aPV, x_aCs, x_int, x_bool, x_str, x_es, x_esn, nth_0, nth_1, nth_2, nth_3, nth_4, nth_5, nth_6, nth_7, nth_8, nth_9, y_nil, y_int, y_bool, y_str, y_sl, y_nils, y_agg, y_ownp, y_own, z_nil, z_int, z_bool, z_str, z_sl, z_nils, b_nil, b_arr, b_box1, b_box2, b_box3, b_box4, List.map_cons, List.map_nil, Bool.and_self, Bool.and_true, Bool.true_and, Bool.not_true, Bool.not_false, Bool.or_false, Bool.false_or, cond_true, cond_false, okPack, okPut, okPutBlks, okPutCells, q_isP, q_isAg, q_isBox, q_isArr, q_int, q_bool, q_str, q_sl, q_nils, e_exit, e_ret, e_nrm, e_ret_exit, e_exit_ret, e_nrm_exit, e_nrm_ret, e_exit_nrm, e_ret_nrm, Nat.zero_add, Nat.reduceAdd, noslR, noslP, noslB, noslA, List.all_cons, List.all_nil]

theorem Sin0_prod {p : Int} (hp : 0 ≤ p ∧ p ≤ 1800) : 0 ≤ p * (1800 - p) ∧ p * (1800 - p) ≤ 3240000 := by
  refine ⟨Int.mul_nonneg hp.1 (by omega), ?_⟩
  have h : p * (1800 - p) ≤ 1800 * (1800 - p) := Int.mul_le_mul_of_nonneg_right hp.2 (by omega)
  omega

end Go.Proofs.YtgdeaamklodkkaaDoor.Vm

/- Chapter 40: contracts of report's functions. -/
namespace Go.Proofs.YtgdeaamklodkkaaDoor.Vm
set_option linter.unusedVariables false
set_option linter.unusedSimpArgs false

theorem n00 : ((0 : Int) == 0) = true := rfl

theorem n01 : ((0 : Int) == 1) = false := rfl

theorem n02 : ((0 : Int) == 2) = false := rfl

theorem n03 : ((0 : Int) == 3) = false := rfl

theorem n10 : ((1 : Int) == 0) = false := rfl

theorem n11 : ((1 : Int) == 1) = true := rfl

theorem n12 : ((1 : Int) == 2) = false := rfl

theorem n13 : ((1 : Int) == 3) = false := rfl

theorem n20 : ((2 : Int) == 0) = false := rfl

theorem n21 : ((2 : Int) == 1) = false := rfl

theorem n22 : ((2 : Int) == 2) = true := rfl

theorem n23 : ((2 : Int) == 3) = false := rfl

theorem n30 : ((3 : Int) == 0) = false := rfl

theorem n31 : ((3 : Int) == 1) = false := rfl

theorem n32 : ((3 : Int) == 2) = false := rfl

theorem n33 : ((3 : Int) == 3) = true := rfl

theorem m0 : ltB 0 4 = true := rfl

theorem m1 : ltB 1 4 = true := rfl

theorem m2 : ltB 2 4 = true := rfl

theorem m3 : ltB 3 4 = true := rfl

theorem m4 : ltB 4 4 = false := rfl

theorem u0 : IntKind.i64.wrap (0 + 1) = 1 := rfl

theorem g0 {α : Type} (a b c d : List PV) (K : List PV → Option α) : getE [a, b, c, d] 0 K = K a := rfl

theorem u1 : IntKind.i64.wrap (1 + 1) = 2 := rfl

theorem g1 {α : Type} (a b c d : List PV) (K : List PV → Option α) : getE [a, b, c, d] 1 K = K b := rfl

theorem u2 : IntKind.i64.wrap (2 + 1) = 3 := rfl

theorem g2 {α : Type} (a b c d : List PV) (K : List PV → Option α) : getE [a, b, c, d] 2 K = K c := rfl

theorem u3 : IntKind.i64.wrap (3 + 1) = 4 := rfl

theorem g3 {α : Type} (a b c d : List PV) (K : List PV → Option α) : getE [a, b, c, d] 3 K = K d := rfl

theorem c_possible (n : Int) : denC E 30 [AV.int .i64 n] [] = some ([RV.p (PV.bool (decide (0 ≤ n) && decide (n ≤ 2147483648)))], []) := by
  rw [denC_eq, r30]
  have h1 : leB 0 n = decide (0 ≤ n) := by simp [leB]
  have h2 : leB n 2147483648 = decide (n ≤ 2147483648) := by simp [leB]
  rw [h1, h2]
  simp only [bnd_some, ctl_true, ctl_false, ctl_and, ctl_or', ctl_or2, x_toPV, x_toCs, x_toCs2, x_toEs, x_bEs, x_bCs, x_aPV, x_aCs, x_int, x_bool, x_str, x_es, x_esn, nth_0, nth_1, nth_2, nth_3, nth_4, nth_5, nth_6, nth_7, nth_8, nth_9, y_nil, y_int, y_bool, y_str, y_sl, y_nils, y_agg, y_ownp, y_own, z_nil, z_int, z_bool, z_str, z_sl, z_nils, b_nil, b_arr, b_box1, b_box2, b_box3, b_box4, List.map_cons, List.map_nil, Bool.and_self, Bool.and_true, Bool.true_and, Bool.not_true, Bool.not_false, Bool.or_false, Bool.false_or, cond_true, cond_false, okPack, okPut, okPutBlks, okPutCells, q_isP, q_isAg, q_isBox, q_isArr, q_int, q_bool, q_str, q_sl, q_nils, e_exit, e_ret, e_nrm, e_ret_exit, e_exit_ret, e_nrm_exit, e_nrm_ret, e_exit_nrm, e_ret_nrm, Nat.zero_add, Nat.reduceAdd, noslR, noslP, noslB, noslA, List.all_cons, List.all_nil]

/-- The worst level. -/
def wst (l1 l2 l3 : Int) : Int := if 0 < l1 then 1 else if 0 < l2 then 2 else if 0 < l3 then 3 else 0

theorem c_worst (l0 l1 l2 l3 : Int) : denC E 27 [AV.agg [PV.int .i64 l0, PV.int .i64 l1, PV.int .i64 l2, PV.int .i64 l3]] [] = some ([RV.p (PV.int .i64 (wst l1 l2 l3))], []) := by
  have q1 : leB 1 3 = true := rfl
  have q2 : leB 2 3 = true := rfl
  have q3 : leB 3 3 = true := rfl
  have q4 : leB 4 3 = false := rfl
  rw [denC_eq, r27, r27_0]
  simp only [q1, n10, n11, u1, bnd_some, ctl_true, ctl_false, ctl_and, ctl_or', ctl_or2, x_toPV, x_toCs, x_toCs2, x_toEs, x_bEs, x_bCs, x_aPV, x_aCs, x_int, x_bool, x_str, x_es, x_esn, nth_0, nth_1, nth_2, nth_3, nth_4, nth_5, nth_6, nth_7, nth_8, nth_9, y_nil, y_int, y_bool, y_str, y_sl, y_nils, y_agg, y_ownp, y_own, z_nil, z_int, z_bool, z_str, z_sl, z_nils, b_nil, b_arr, b_box1, b_box2, b_box3, b_box4, List.map_cons, List.map_nil, Bool.and_self, Bool.and_true, Bool.true_and, Bool.not_true, Bool.not_false, Bool.or_false, Bool.false_or, cond_true, cond_false, okPack, okPut, okPutBlks, okPutCells, q_isP, q_isAg, q_isBox, q_isArr, q_int, q_bool, q_str, q_sl, q_nils, e_exit, e_ret, e_nrm, e_ret_exit, e_exit_ret, e_nrm_exit, e_nrm_ret, e_exit_nrm, e_ret_nrm, Nat.zero_add, Nat.reduceAdd, noslR, noslP, noslB, noslA, List.all_cons, List.all_nil]
  unfold wst
  by_cases h1 : 0 < l1
  · have : ltB 0 l1 = true := by simpa [ltB] using h1
    simp only [this, if_pos h1, bnd_some, ctl_true, ctl_false, ctl_and, ctl_or', ctl_or2, x_toPV, x_toCs, x_toCs2, x_toEs, x_bEs, x_bCs, x_aPV, x_aCs, x_int, x_bool, x_str, x_es, x_esn, nth_0, nth_1, nth_2, nth_3, nth_4, nth_5, nth_6, nth_7, nth_8, nth_9, y_nil, y_int, y_bool, y_str, y_sl, y_nils, y_agg, y_ownp, y_own, z_nil, z_int, z_bool, z_str, z_sl, z_nils, b_nil, b_arr, b_box1, b_box2, b_box3, b_box4, List.map_cons, List.map_nil, Bool.and_self, Bool.and_true, Bool.true_and, Bool.not_true, Bool.not_false, Bool.or_false, Bool.false_or, cond_true, cond_false, okPack, okPut, okPutBlks, okPutCells, q_isP, q_isAg, q_isBox, q_isArr, q_int, q_bool, q_str, q_sl, q_nils, e_exit, e_ret, e_nrm, e_ret_exit, e_exit_ret, e_nrm_exit, e_nrm_ret, e_exit_nrm, e_ret_nrm, Nat.zero_add, Nat.reduceAdd, noslR, noslP, noslB, noslA, List.all_cons, List.all_nil]
  · have : ltB 0 l1 = false := by simpa [ltB] using h1
    simp only [this, if_neg h1, bnd_some, ctl_true, ctl_false, ctl_and, ctl_or', ctl_or2, x_toPV, x_toCs, x_toCs2, x_toEs, x_bEs, x_bCs, x_aPV, x_aCs, x_int, x_bool, x_str, x_es, x_esn, nth_0, nth_1, nth_2, nth_3, nth_4, nth_5, nth_6, nth_7, nth_8, nth_9, y_nil, y_int, y_bool, y_str, y_sl, y_nils, y_agg, y_ownp, y_own, z_nil, z_int, z_bool, z_str, z_sl, z_nils, b_nil, b_arr, b_box1, b_box2, b_box3, b_box4, List.map_cons, List.map_nil, Bool.and_self, Bool.and_true, Bool.true_and, Bool.not_true, Bool.not_false, Bool.or_false, Bool.false_or, cond_true, cond_false, okPack, okPut, okPutBlks, okPutCells, q_isP, q_isAg, q_isBox, q_isArr, q_int, q_bool, q_str, q_sl, q_nils, e_exit, e_ret, e_nrm, e_ret_exit, e_exit_ret, e_nrm_exit, e_nrm_ret, e_exit_nrm, e_ret_nrm, Nat.zero_add, Nat.reduceAdd, noslR, noslP, noslB, noslA, List.all_cons, List.all_nil]
    rw [r27_0]
    simp only [q2, n20, n21, n22, u2, bnd_some, ctl_true, ctl_false, ctl_and, ctl_or', ctl_or2, x_toPV, x_toCs, x_toCs2, x_toEs, x_bEs, x_bCs, x_aPV, x_aCs, x_int, x_bool, x_str, x_es, x_esn, nth_0, nth_1, nth_2, nth_3, nth_4, nth_5, nth_6, nth_7, nth_8, nth_9, y_nil, y_int, y_bool, y_str, y_sl, y_nils, y_agg, y_ownp, y_own, z_nil, z_int, z_bool, z_str, z_sl, z_nils, b_nil, b_arr, b_box1, b_box2, b_box3, b_box4, List.map_cons, List.map_nil, Bool.and_self, Bool.and_true, Bool.true_and, Bool.not_true, Bool.not_false, Bool.or_false, Bool.false_or, cond_true, cond_false, okPack, okPut, okPutBlks, okPutCells, q_isP, q_isAg, q_isBox, q_isArr, q_int, q_bool, q_str, q_sl, q_nils, e_exit, e_ret, e_nrm, e_ret_exit, e_exit_ret, e_nrm_exit, e_nrm_ret, e_exit_nrm, e_ret_nrm, Nat.zero_add, Nat.reduceAdd, noslR, noslP, noslB, noslA, List.all_cons, List.all_nil]
    by_cases h2 : 0 < l2
    · have : ltB 0 l2 = true := by simpa [ltB] using h2
      simp only [this, if_pos h2, bnd_some, ctl_true, ctl_false, ctl_and, ctl_or', ctl_or2, x_toPV, x_toCs, x_toCs2, x_toEs, x_bEs, x_bCs, x_aPV, x_aCs, x_int, x_bool, x_str, x_es, x_esn, nth_0, nth_1, nth_2, nth_3, nth_4, nth_5, nth_6, nth_7, nth_8, nth_9, y_nil, y_int, y_bool, y_str, y_sl, y_nils, y_agg, y_ownp, y_own, z_nil, z_int, z_bool, z_str, z_sl, z_nils, b_nil, b_arr, b_box1, b_box2, b_box3, b_box4, List.map_cons, List.map_nil, Bool.and_self, Bool.and_true, Bool.true_and, Bool.not_true, Bool.not_false, Bool.or_false, Bool.false_or, cond_true, cond_false, okPack, okPut, okPutBlks, okPutCells, q_isP, q_isAg, q_isBox, q_isArr, q_int, q_bool, q_str, q_sl, q_nils, e_exit, e_ret, e_nrm, e_ret_exit, e_exit_ret, e_nrm_exit, e_nrm_ret, e_exit_nrm, e_ret_nrm, Nat.zero_add, Nat.reduceAdd, noslR, noslP, noslB, noslA, List.all_cons, List.all_nil]
    · have : ltB 0 l2 = false := by simpa [ltB] using h2
      simp only [this, if_neg h2, bnd_some, ctl_true, ctl_false, ctl_and, ctl_or', ctl_or2, x_toPV, x_toCs, x_toCs2, x_toEs, x_bEs, x_bCs, x_aPV, x_aCs, x_int, x_bool, x_str, x_es, x_esn, nth_0, nth_1, nth_2, nth_3, nth_4, nth_5, nth_6, nth_7, nth_8, nth_9, y_nil, y_int, y_bool, y_str, y_sl, y_nils, y_agg, y_ownp, y_own, z_nil, z_int, z_bool, z_str, z_sl, z_nils, b_nil, b_arr, b_box1, b_box2, b_box3, b_box4, List.map_cons, List.map_nil, Bool.and_self, Bool.and_true, Bool.true_and, Bool.not_true, Bool.not_false, Bool.or_false, Bool.false_or, cond_true, cond_false, okPack, okPut, okPutBlks, okPutCells, q_isP, q_isAg, q_isBox, q_isArr, q_int, q_bool, q_str, q_sl, q_nils, e_exit, e_ret, e_nrm, e_ret_exit, e_exit_ret, e_nrm_exit, e_nrm_ret, e_exit_nrm, e_ret_nrm, Nat.zero_add, Nat.reduceAdd, noslR, noslP, noslB, noslA, List.all_cons, List.all_nil]
      rw [r27_0]
      simp only [q3, n30, n31, n32, n33, u3, bnd_some, ctl_true, ctl_false, ctl_and, ctl_or', ctl_or2, x_toPV, x_toCs, x_toCs2, x_toEs, x_bEs, x_bCs, x_aPV, x_aCs, x_int, x_bool, x_str, x_es, x_esn, nth_0, nth_1, nth_2, nth_3, nth_4, nth_5, nth_6, nth_7, nth_8, nth_9, y_nil, y_int, y_bool, y_str, y_sl, y_nils, y_agg, y_ownp, y_own, z_nil, z_int, z_bool, z_str, z_sl, z_nils, b_nil, b_arr, b_box1, b_box2, b_box3, b_box4, List.map_cons, List.map_nil, Bool.and_self, Bool.and_true, Bool.true_and, Bool.not_true, Bool.not_false, Bool.or_false, Bool.false_or, cond_true, cond_false, okPack, okPut, okPutBlks, okPutCells, q_isP, q_isAg, q_isBox, q_isArr, q_int, q_bool, q_str, q_sl, q_nils, e_exit, e_ret, e_nrm, e_ret_exit, e_exit_ret, e_nrm_exit, e_nrm_ret, e_exit_nrm, e_ret_nrm, Nat.zero_add, Nat.reduceAdd, noslR, noslP, noslB, noslA, List.all_cons, List.all_nil]
      by_cases h3 : 0 < l3
      · have : ltB 0 l3 = true := by simpa [ltB] using h3
        simp only [this, if_pos h3, bnd_some, ctl_true, ctl_false, ctl_and, ctl_or', ctl_or2, x_toPV, x_toCs, x_toCs2, x_toEs, x_bEs, x_bCs, x_aPV, x_aCs, x_int, x_bool, x_str, x_es, x_esn, nth_0, nth_1, nth_2, nth_3, nth_4, nth_5, nth_6, nth_7, nth_8, nth_9, y_nil, y_int, y_bool, y_str, y_sl, y_nils, y_agg, y_ownp, y_own, z_nil, z_int, z_bool, z_str, z_sl, z_nils, b_nil, b_arr, b_box1, b_box2, b_box3, b_box4, List.map_cons, List.map_nil, Bool.and_self, Bool.and_true, Bool.true_and, Bool.not_true, Bool.not_false, Bool.or_false, Bool.false_or, cond_true, cond_false, okPack, okPut, okPutBlks, okPutCells, q_isP, q_isAg, q_isBox, q_isArr, q_int, q_bool, q_str, q_sl, q_nils, e_exit, e_ret, e_nrm, e_ret_exit, e_exit_ret, e_nrm_exit, e_nrm_ret, e_exit_nrm, e_ret_nrm, Nat.zero_add, Nat.reduceAdd, noslR, noslP, noslB, noslA, List.all_cons, List.all_nil]
      · have : ltB 0 l3 = false := by simpa [ltB] using h3
        simp only [this, if_neg h3, bnd_some, ctl_true, ctl_false, ctl_and, ctl_or', ctl_or2, x_toPV, x_toCs, x_toCs2, x_toEs, x_bEs, x_bCs, x_aPV, x_aCs, x_int, x_bool, x_str, x_es, x_esn, nth_0, nth_1, nth_2, nth_3, nth_4, nth_5, nth_6, nth_7, nth_8, nth_9, y_nil, y_int, y_bool, y_str, y_sl, y_nils, y_agg, y_ownp, y_own, z_nil, z_int, z_bool, z_str, z_sl, z_nils, b_nil, b_arr, b_box1, b_box2, b_box3, b_box4, List.map_cons, List.map_nil, Bool.and_self, Bool.and_true, Bool.true_and, Bool.not_true, Bool.not_false, Bool.or_false, Bool.false_or, cond_true, cond_false, okPack, okPut, okPutBlks, okPutCells, q_isP, q_isAg, q_isBox, q_isArr, q_int, q_bool, q_str, q_sl, q_nils, e_exit, e_ret, e_nrm, e_ret_exit, e_exit_ret, e_nrm_exit, e_nrm_ret, e_exit_nrm, e_ret_nrm, Nat.zero_add, Nat.reduceAdd, noslR, noslP, noslB, noslA, List.all_cons, List.all_nil]
        rw [r27_0]
        simp only [q4, bnd_some, ctl_true, ctl_false, ctl_and, ctl_or', ctl_or2, x_toPV, x_toCs, x_toCs2, x_toEs, x_bEs, x_bCs, x_aPV, x_aCs, x_int, x_bool, x_str, x_es, x_esn, nth_0, nth_1, nth_2, nth_3, nth_4, nth_5, nth_6, nth_7, nth_8, nth_9, y_nil, y_int, y_bool, y_str, y_sl, y_nils, y_agg, y_ownp, y_own, z_nil, z_int, z_bool, z_str, z_sl, z_nils, b_nil, b_arr, b_box1, b_box2, b_box3, b_box4, List.map_cons, List.map_nil, Bool.and_self, Bool.and_true, Bool.true_and, Bool.not_true, Bool.not_false, Bool.or_false, Bool.false_or, cond_true, cond_false, okPack, okPut, okPutBlks, okPutCells, q_isP, q_isAg, q_isBox, q_isArr, q_int, q_bool, q_str, q_sl, q_nils, e_exit, e_ret, e_nrm, e_ret_exit, e_exit_ret, e_nrm_exit, e_nrm_ret, e_exit_nrm, e_ret_nrm, Nat.zero_add, Nat.reduceAdd, noslR, noslP, noslB, noslA, List.all_cons, List.all_nil]

theorem c_half40 {n d : Int} (hd : 1 ≤ d ∧ d ≤ 1000000000) (hn : -1000000000000000000 ≤ n ∧ n ≤ 1000000000000000000) : denC E 31 [AV.int .i64 n, AV.int .i64 d] [] = some ([RV.p (PV.int .i64 (Half n d))], []) := by
  rw [denC_eq, r31, c_Half hd hn]
  have : ((0 : Int) == 0) = true := rfl
  simp only [this, bnd_some, ctl_true, ctl_false, ctl_and, ctl_or', ctl_or2, x_toPV, x_toCs, x_toCs2, x_toEs, x_bEs, x_bCs, x_aPV, x_aCs, x_int, x_bool, x_str, x_es, x_esn, nth_0, nth_1, nth_2, nth_3, nth_4, nth_5, nth_6, nth_7, nth_8, nth_9, y_nil, y_int, y_bool, y_str, y_sl, y_nils, y_agg, y_ownp, y_own, z_nil, z_int, z_bool, z_str, z_sl, z_nils, b_nil, b_arr, b_box1, b_box2, b_box3, b_box4, List.map_cons, List.map_nil, Bool.and_self, Bool.and_true, Bool.true_and, Bool.not_true, Bool.not_false, Bool.or_false, Bool.false_or, cond_true, cond_false, okPack, okPut, okPutBlks, okPutCells, q_isP, q_isAg, q_isBox, q_isArr, q_int, q_bool, q_str, q_sl, q_nils, e_exit, e_ret, e_nrm, e_ret_exit, e_exit_ret, e_nrm_exit, e_nrm_ret, e_exit_nrm, e_ret_nrm, Nat.zero_add, Nat.reduceAdd, noslR, noslP, noslB, noslA, List.all_cons, List.all_nil]

/-- The percents of a level. -/
def pct (t s : Int) : Int := if s = 0 then 0 else Half (100 * t) s

theorem c_Percent (t0 t1 t2 t3 w b s : Int) (h0 : 0 ≤ t0 ∧ t0 ≤ 1000000) (h1 : 0 ≤ t1 ∧ t1 ≤ 1000000) (h2 : 0 ≤ t2 ∧ t2 ≤ 1000000) (h3 : 0 ≤ t3 ∧ t3 ≤ 1000000) (L : Int) (hL : 0 ≤ L ∧ L < 4) :
    denC E 16 [AV.agg [PV.int .i64 t0, PV.int .i64 t1, PV.int .i64 t2, PV.int .i64 t3, PV.int .i64 w, PV.int .i64 b, PV.int .i64 s], AV.int .i64 L] [] =
      some ([RV.p (PV.int .i64 (pct (if L = 0 then t0 else if L = 1 then t1 else if L = 2 then t2 else t3) (t0 + t1 + t2 + t3)))], []) := by
  have k1 : ltB L 0 = false := by simp [ltB]; omega
  have k2 : leB 4 L = false := by simp [leB]; omega
  rw [denC_eq, r16, k1, k2]
  simp only [bnd_some, ctl_true, ctl_false, ctl_and, ctl_or', ctl_or2, x_toPV, x_toCs, x_toCs2, x_toEs, x_bEs, x_bCs, x_aPV, x_aCs, x_int, x_bool, x_str, x_es, x_esn, nth_0, nth_1, nth_2, nth_3, nth_4, nth_5, nth_6, nth_7, nth_8, nth_9, y_nil, y_int, y_bool, y_str, y_sl, y_nils, y_agg, y_ownp, y_own, z_nil, z_int, z_bool, z_str, z_sl, z_nils, b_nil, b_arr, b_box1, b_box2, b_box3, b_box4, List.map_cons, List.map_nil, Bool.and_self, Bool.and_true, Bool.true_and, Bool.not_true, Bool.not_false, Bool.or_false, Bool.false_or, cond_true, cond_false, okPack, okPut, okPutBlks, okPutCells, q_isP, q_isAg, q_isBox, q_isArr, q_int, q_bool, q_str, q_sl, q_nils, e_exit, e_ret, e_nrm, e_ret_exit, e_exit_ret, e_nrm_exit, e_nrm_ret, e_exit_nrm, e_ret_nrm, Nat.zero_add, Nat.reduceAdd, noslR, noslP, noslB, noslA, List.all_cons, List.all_nil]
  by_cases hz : t0 + t1 + t2 + t3 = 0
  · have e0 : t0 = 0 := by omega
    have e1 : t1 = 0 := by omega
    have e2 : t2 = 0 := by omega
    have e3 : t3 = 0 := by omega
    subst e0 e1 e2 e3
    simp only [n00, bnd_some, ctl_true, ctl_false, ctl_and, ctl_or', ctl_or2, x_toPV, x_toCs, x_toCs2, x_toEs, x_bEs, x_bCs, x_aPV, x_aCs, x_int, x_bool, x_str, x_es, x_esn, nth_0, nth_1, nth_2, nth_3, nth_4, nth_5, nth_6, nth_7, nth_8, nth_9, y_nil, y_int, y_bool, y_str, y_sl, y_nils, y_agg, y_ownp, y_own, z_nil, z_int, z_bool, z_str, z_sl, z_nils, b_nil, b_arr, b_box1, b_box2, b_box3, b_box4, List.map_cons, List.map_nil, Bool.and_self, Bool.and_true, Bool.true_and, Bool.not_true, Bool.not_false, Bool.or_false, Bool.false_or, cond_true, cond_false, okPack, okPut, okPutBlks, okPutCells, q_isP, q_isAg, q_isBox, q_isArr, q_int, q_bool, q_str, q_sl, q_nils, e_exit, e_ret, e_nrm, e_ret_exit, e_exit_ret, e_nrm_exit, e_nrm_ret, e_exit_nrm, e_ret_nrm, Nat.zero_add, Nat.reduceAdd, noslR, noslP, noslB, noslA, List.all_cons, List.all_nil]
    rfl
  · have k3 : (t0 == 0 && (t1 == 0 && (t2 == 0 && t3 == 0))) = false := by
      cases hb : (t0 == 0 && (t1 == 0 && (t2 == 0 && t3 == 0))) with
      | false => rfl
      | true =>
        simp only [Bool.and_eq_true, beq_iff_eq] at hb
        omega
    have hp : ∀ n : Int, 0 ≤ n → n ≤ 1000000 → (decide (0 ≤ n) && decide (n ≤ 2147483648)) = true := fun n a c => by simp; omega
    have hl : lp E (denC E) 16 0 [] 0 { vals := [AV.int .i64 L, AV.int .i64 0, AV.agg [PV.int .i64 t0, PV.int .i64 t1, PV.int .i64 t2, PV.int .i64 t3], AV.int .i64 0], blks := [Blk.box [AV.int .i64 t0, AV.int .i64 t1, AV.int .i64 t2, AV.int .i64 t3, AV.int .i64 w, AV.int .i64 b, AV.int .i64 s]] } =
        some (.exit 0, { vals := [AV.int .i64 L, AV.int .i64 (t0 + t1 + t2 + t3)], blks := [Blk.box [AV.int .i64 t0, AV.int .i64 t1, AV.int .i64 t2, AV.int .i64 t3, AV.int .i64 w, AV.int .i64 b, AV.int .i64 s]] }) := by
      rw [r16_0]
      simp only [m0, g0, bnd_some, ctl_true, ctl_false, ctl_and, ctl_or', ctl_or2, x_toPV, x_toCs, x_toCs2, x_toEs, x_bEs, x_bCs, x_aPV, x_aCs, x_int, x_bool, x_str, x_es, x_esn, nth_0, nth_1, nth_2, nth_3, nth_4, nth_5, nth_6, nth_7, nth_8, nth_9, y_nil, y_int, y_bool, y_str, y_sl, y_nils, y_agg, y_ownp, y_own, z_nil, z_int, z_bool, z_str, z_sl, z_nils, b_nil, b_arr, b_box1, b_box2, b_box3, b_box4, List.map_cons, List.map_nil, Bool.and_self, Bool.and_true, Bool.true_and, Bool.not_true, Bool.not_false, Bool.or_false, Bool.false_or, cond_true, cond_false, okPack, okPut, okPutBlks, okPutCells, q_isP, q_isAg, q_isBox, q_isArr, q_int, q_bool, q_str, q_sl, q_nils, e_exit, e_ret, e_nrm, e_ret_exit, e_exit_ret, e_nrm_exit, e_nrm_ret, e_exit_nrm, e_ret_nrm, Nat.zero_add, Nat.reduceAdd, noslR, noslP, noslB, noslA, List.all_cons, List.all_nil]
      rw [c_possible, hp t0 h0.1 h0.2]
      simp only [u0, bnd_some, ctl_true, ctl_false, ctl_and, ctl_or', ctl_or2, x_toPV, x_toCs, x_toCs2, x_toEs, x_bEs, x_bCs, x_aPV, x_aCs, x_int, x_bool, x_str, x_es, x_esn, nth_0, nth_1, nth_2, nth_3, nth_4, nth_5, nth_6, nth_7, nth_8, nth_9, y_nil, y_int, y_bool, y_str, y_sl, y_nils, y_agg, y_ownp, y_own, z_nil, z_int, z_bool, z_str, z_sl, z_nils, b_nil, b_arr, b_box1, b_box2, b_box3, b_box4, List.map_cons, List.map_nil, Bool.and_self, Bool.and_true, Bool.true_and, Bool.not_true, Bool.not_false, Bool.or_false, Bool.false_or, cond_true, cond_false, okPack, okPut, okPutBlks, okPutCells, q_isP, q_isAg, q_isBox, q_isArr, q_int, q_bool, q_str, q_sl, q_nils, e_exit, e_ret, e_nrm, e_ret_exit, e_exit_ret, e_nrm_exit, e_nrm_ret, e_exit_nrm, e_ret_nrm, Nat.zero_add, Nat.reduceAdd, noslR, noslP, noslB, noslA, List.all_cons, List.all_nil]
      rw [w64 (n := 0 + t0) (by omega), r16_0]
      simp only [m1, g1, bnd_some, ctl_true, ctl_false, ctl_and, ctl_or', ctl_or2, x_toPV, x_toCs, x_toCs2, x_toEs, x_bEs, x_bCs, x_aPV, x_aCs, x_int, x_bool, x_str, x_es, x_esn, nth_0, nth_1, nth_2, nth_3, nth_4, nth_5, nth_6, nth_7, nth_8, nth_9, y_nil, y_int, y_bool, y_str, y_sl, y_nils, y_agg, y_ownp, y_own, z_nil, z_int, z_bool, z_str, z_sl, z_nils, b_nil, b_arr, b_box1, b_box2, b_box3, b_box4, List.map_cons, List.map_nil, Bool.and_self, Bool.and_true, Bool.true_and, Bool.not_true, Bool.not_false, Bool.or_false, Bool.false_or, cond_true, cond_false, okPack, okPut, okPutBlks, okPutCells, q_isP, q_isAg, q_isBox, q_isArr, q_int, q_bool, q_str, q_sl, q_nils, e_exit, e_ret, e_nrm, e_ret_exit, e_exit_ret, e_nrm_exit, e_nrm_ret, e_exit_nrm, e_ret_nrm, Nat.zero_add, Nat.reduceAdd, noslR, noslP, noslB, noslA, List.all_cons, List.all_nil]
      rw [c_possible, hp t1 h1.1 h1.2]
      simp only [u1, bnd_some, ctl_true, ctl_false, ctl_and, ctl_or', ctl_or2, x_toPV, x_toCs, x_toCs2, x_toEs, x_bEs, x_bCs, x_aPV, x_aCs, x_int, x_bool, x_str, x_es, x_esn, nth_0, nth_1, nth_2, nth_3, nth_4, nth_5, nth_6, nth_7, nth_8, nth_9, y_nil, y_int, y_bool, y_str, y_sl, y_nils, y_agg, y_ownp, y_own, z_nil, z_int, z_bool, z_str, z_sl, z_nils, b_nil, b_arr, b_box1, b_box2, b_box3, b_box4, List.map_cons, List.map_nil, Bool.and_self, Bool.and_true, Bool.true_and, Bool.not_true, Bool.not_false, Bool.or_false, Bool.false_or, cond_true, cond_false, okPack, okPut, okPutBlks, okPutCells, q_isP, q_isAg, q_isBox, q_isArr, q_int, q_bool, q_str, q_sl, q_nils, e_exit, e_ret, e_nrm, e_ret_exit, e_exit_ret, e_nrm_exit, e_nrm_ret, e_exit_nrm, e_ret_nrm, Nat.zero_add, Nat.reduceAdd, noslR, noslP, noslB, noslA, List.all_cons, List.all_nil]
      rw [w64 (n := 0 + t0 + t1) (by omega), r16_0]
      simp only [m2, g2, bnd_some, ctl_true, ctl_false, ctl_and, ctl_or', ctl_or2, x_toPV, x_toCs, x_toCs2, x_toEs, x_bEs, x_bCs, x_aPV, x_aCs, x_int, x_bool, x_str, x_es, x_esn, nth_0, nth_1, nth_2, nth_3, nth_4, nth_5, nth_6, nth_7, nth_8, nth_9, y_nil, y_int, y_bool, y_str, y_sl, y_nils, y_agg, y_ownp, y_own, z_nil, z_int, z_bool, z_str, z_sl, z_nils, b_nil, b_arr, b_box1, b_box2, b_box3, b_box4, List.map_cons, List.map_nil, Bool.and_self, Bool.and_true, Bool.true_and, Bool.not_true, Bool.not_false, Bool.or_false, Bool.false_or, cond_true, cond_false, okPack, okPut, okPutBlks, okPutCells, q_isP, q_isAg, q_isBox, q_isArr, q_int, q_bool, q_str, q_sl, q_nils, e_exit, e_ret, e_nrm, e_ret_exit, e_exit_ret, e_nrm_exit, e_nrm_ret, e_exit_nrm, e_ret_nrm, Nat.zero_add, Nat.reduceAdd, noslR, noslP, noslB, noslA, List.all_cons, List.all_nil]
      rw [c_possible, hp t2 h2.1 h2.2]
      simp only [u2, bnd_some, ctl_true, ctl_false, ctl_and, ctl_or', ctl_or2, x_toPV, x_toCs, x_toCs2, x_toEs, x_bEs, x_bCs, x_aPV, x_aCs, x_int, x_bool, x_str, x_es, x_esn, nth_0, nth_1, nth_2, nth_3, nth_4, nth_5, nth_6, nth_7, nth_8, nth_9, y_nil, y_int, y_bool, y_str, y_sl, y_nils, y_agg, y_ownp, y_own, z_nil, z_int, z_bool, z_str, z_sl, z_nils, b_nil, b_arr, b_box1, b_box2, b_box3, b_box4, List.map_cons, List.map_nil, Bool.and_self, Bool.and_true, Bool.true_and, Bool.not_true, Bool.not_false, Bool.or_false, Bool.false_or, cond_true, cond_false, okPack, okPut, okPutBlks, okPutCells, q_isP, q_isAg, q_isBox, q_isArr, q_int, q_bool, q_str, q_sl, q_nils, e_exit, e_ret, e_nrm, e_ret_exit, e_exit_ret, e_nrm_exit, e_nrm_ret, e_exit_nrm, e_ret_nrm, Nat.zero_add, Nat.reduceAdd, noslR, noslP, noslB, noslA, List.all_cons, List.all_nil]
      rw [w64 (n := 0 + t0 + t1 + t2) (by omega), r16_0]
      simp only [m3, g3, bnd_some, ctl_true, ctl_false, ctl_and, ctl_or', ctl_or2, x_toPV, x_toCs, x_toCs2, x_toEs, x_bEs, x_bCs, x_aPV, x_aCs, x_int, x_bool, x_str, x_es, x_esn, nth_0, nth_1, nth_2, nth_3, nth_4, nth_5, nth_6, nth_7, nth_8, nth_9, y_nil, y_int, y_bool, y_str, y_sl, y_nils, y_agg, y_ownp, y_own, z_nil, z_int, z_bool, z_str, z_sl, z_nils, b_nil, b_arr, b_box1, b_box2, b_box3, b_box4, List.map_cons, List.map_nil, Bool.and_self, Bool.and_true, Bool.true_and, Bool.not_true, Bool.not_false, Bool.or_false, Bool.false_or, cond_true, cond_false, okPack, okPut, okPutBlks, okPutCells, q_isP, q_isAg, q_isBox, q_isArr, q_int, q_bool, q_str, q_sl, q_nils, e_exit, e_ret, e_nrm, e_ret_exit, e_exit_ret, e_nrm_exit, e_nrm_ret, e_exit_nrm, e_ret_nrm, Nat.zero_add, Nat.reduceAdd, noslR, noslP, noslB, noslA, List.all_cons, List.all_nil]
      rw [c_possible, hp t3 h3.1 h3.2]
      simp only [u3, bnd_some, ctl_true, ctl_false, ctl_and, ctl_or', ctl_or2, x_toPV, x_toCs, x_toCs2, x_toEs, x_bEs, x_bCs, x_aPV, x_aCs, x_int, x_bool, x_str, x_es, x_esn, nth_0, nth_1, nth_2, nth_3, nth_4, nth_5, nth_6, nth_7, nth_8, nth_9, y_nil, y_int, y_bool, y_str, y_sl, y_nils, y_agg, y_ownp, y_own, z_nil, z_int, z_bool, z_str, z_sl, z_nils, b_nil, b_arr, b_box1, b_box2, b_box3, b_box4, List.map_cons, List.map_nil, Bool.and_self, Bool.and_true, Bool.true_and, Bool.not_true, Bool.not_false, Bool.or_false, Bool.false_or, cond_true, cond_false, okPack, okPut, okPutBlks, okPutCells, q_isP, q_isAg, q_isBox, q_isArr, q_int, q_bool, q_str, q_sl, q_nils, e_exit, e_ret, e_nrm, e_ret_exit, e_exit_ret, e_nrm_exit, e_nrm_ret, e_exit_nrm, e_ret_nrm, Nat.zero_add, Nat.reduceAdd, noslR, noslP, noslB, noslA, List.all_cons, List.all_nil]
      rw [w64 (n := 0 + t0 + t1 + t2 + t3) (by omega), r16_0]
      simp only [m4, bnd_some, ctl_true, ctl_false, ctl_and, ctl_or', ctl_or2, x_toPV, x_toCs, x_toCs2, x_toEs, x_bEs, x_bCs, x_aPV, x_aCs, x_int, x_bool, x_str, x_es, x_esn, nth_0, nth_1, nth_2, nth_3, nth_4, nth_5, nth_6, nth_7, nth_8, nth_9, y_nil, y_int, y_bool, y_str, y_sl, y_nils, y_agg, y_ownp, y_own, z_nil, z_int, z_bool, z_str, z_sl, z_nils, b_nil, b_arr, b_box1, b_box2, b_box3, b_box4, List.map_cons, List.map_nil, Bool.and_self, Bool.and_true, Bool.true_and, Bool.not_true, Bool.not_false, Bool.or_false, Bool.false_or, cond_true, cond_false, okPack, okPut, okPutBlks, okPutCells, q_isP, q_isAg, q_isBox, q_isArr, q_int, q_bool, q_str, q_sl, q_nils, e_exit, e_ret, e_nrm, e_ret_exit, e_exit_ret, e_nrm_exit, e_nrm_ret, e_exit_nrm, e_ret_nrm, Nat.zero_add, Nat.reduceAdd, noslR, noslP, noslB, noslA, List.all_cons, List.all_nil]
      rw [show (0 : Int) + t0 + t1 + t2 + t3 = t0 + t1 + t2 + t3 by omega]
    rw [k3, hl]
    simp only [bnd_some, ctl_true, ctl_false, ctl_and, ctl_or', ctl_or2, x_toPV, x_toCs, x_toCs2, x_toEs, x_bEs, x_bCs, x_aPV, x_aCs, x_int, x_bool, x_str, x_es, x_esn, nth_0, nth_1, nth_2, nth_3, nth_4, nth_5, nth_6, nth_7, nth_8, nth_9, y_nil, y_int, y_bool, y_str, y_sl, y_nils, y_agg, y_ownp, y_own, z_nil, z_int, z_bool, z_str, z_sl, z_nils, b_nil, b_arr, b_box1, b_box2, b_box3, b_box4, List.map_cons, List.map_nil, Bool.and_self, Bool.and_true, Bool.true_and, Bool.not_true, Bool.not_false, Bool.or_false, Bool.false_or, cond_true, cond_false, okPack, okPut, okPutBlks, okPutCells, q_isP, q_isAg, q_isBox, q_isArr, q_int, q_bool, q_str, q_sl, q_nils, e_exit, e_ret, e_nrm, e_ret_exit, e_exit_ret, e_nrm_exit, e_nrm_ret, e_exit_nrm, e_ret_nrm, Nat.zero_add, Nat.reduceAdd, noslR, noslP, noslB, noslA, List.all_cons, List.all_nil]
    unfold pct
    rw [if_neg hz]
    have key : L = 0 ∨ L = 1 ∨ L = 2 ∨ L = 3 := by omega
    rcases key with rfl | rfl | rfl | rfl
    · simp only [n00, bnd_some, ctl_true, ctl_false, ctl_and, ctl_or', ctl_or2, x_toPV, x_toCs, x_toCs2, x_toEs, x_bEs, x_bCs, x_aPV, x_aCs, x_int, x_bool, x_str, x_es, x_esn, nth_0, nth_1, nth_2, nth_3, nth_4, nth_5, nth_6, nth_7, nth_8, nth_9, y_nil, y_int, y_bool, y_str, y_sl, y_nils, y_agg, y_ownp, y_own, z_nil, z_int, z_bool, z_str, z_sl, z_nils, b_nil, b_arr, b_box1, b_box2, b_box3, b_box4, List.map_cons, List.map_nil, Bool.and_self, Bool.and_true, Bool.true_and, Bool.not_true, Bool.not_false, Bool.or_false, Bool.false_or, cond_true, cond_false, okPack, okPut, okPutBlks, okPutCells, q_isP, q_isAg, q_isBox, q_isArr, q_int, q_bool, q_str, q_sl, q_nils, e_exit, e_ret, e_nrm, e_ret_exit, e_exit_ret, e_nrm_exit, e_nrm_ret, e_exit_nrm, e_ret_nrm, Nat.zero_add, Nat.reduceAdd, noslR, noslP, noslB, noslA, List.all_cons, List.all_nil]
      rw [w64 (n := 100 * t0) (by omega), c_half40 (by omega) (by omega)]
      simp only [bnd_some, ctl_true, ctl_false, ctl_and, ctl_or', ctl_or2, x_toPV, x_toCs, x_toCs2, x_toEs, x_bEs, x_bCs, x_aPV, x_aCs, x_int, x_bool, x_str, x_es, x_esn, nth_0, nth_1, nth_2, nth_3, nth_4, nth_5, nth_6, nth_7, nth_8, nth_9, y_nil, y_int, y_bool, y_str, y_sl, y_nils, y_agg, y_ownp, y_own, z_nil, z_int, z_bool, z_str, z_sl, z_nils, b_nil, b_arr, b_box1, b_box2, b_box3, b_box4, List.map_cons, List.map_nil, Bool.and_self, Bool.and_true, Bool.true_and, Bool.not_true, Bool.not_false, Bool.or_false, Bool.false_or, cond_true, cond_false, okPack, okPut, okPutBlks, okPutCells, q_isP, q_isAg, q_isBox, q_isArr, q_int, q_bool, q_str, q_sl, q_nils, e_exit, e_ret, e_nrm, e_ret_exit, e_exit_ret, e_nrm_exit, e_nrm_ret, e_exit_nrm, e_ret_nrm, Nat.zero_add, Nat.reduceAdd, noslR, noslP, noslB, noslA, List.all_cons, List.all_nil]
      rfl
    · simp only [n10, n11, bnd_some, ctl_true, ctl_false, ctl_and, ctl_or', ctl_or2, x_toPV, x_toCs, x_toCs2, x_toEs, x_bEs, x_bCs, x_aPV, x_aCs, x_int, x_bool, x_str, x_es, x_esn, nth_0, nth_1, nth_2, nth_3, nth_4, nth_5, nth_6, nth_7, nth_8, nth_9, y_nil, y_int, y_bool, y_str, y_sl, y_nils, y_agg, y_ownp, y_own, z_nil, z_int, z_bool, z_str, z_sl, z_nils, b_nil, b_arr, b_box1, b_box2, b_box3, b_box4, List.map_cons, List.map_nil, Bool.and_self, Bool.and_true, Bool.true_and, Bool.not_true, Bool.not_false, Bool.or_false, Bool.false_or, cond_true, cond_false, okPack, okPut, okPutBlks, okPutCells, q_isP, q_isAg, q_isBox, q_isArr, q_int, q_bool, q_str, q_sl, q_nils, e_exit, e_ret, e_nrm, e_ret_exit, e_exit_ret, e_nrm_exit, e_nrm_ret, e_exit_nrm, e_ret_nrm, Nat.zero_add, Nat.reduceAdd, noslR, noslP, noslB, noslA, List.all_cons, List.all_nil]
      rw [w64 (n := 100 * t1) (by omega), c_half40 (by omega) (by omega)]
      simp only [bnd_some, ctl_true, ctl_false, ctl_and, ctl_or', ctl_or2, x_toPV, x_toCs, x_toCs2, x_toEs, x_bEs, x_bCs, x_aPV, x_aCs, x_int, x_bool, x_str, x_es, x_esn, nth_0, nth_1, nth_2, nth_3, nth_4, nth_5, nth_6, nth_7, nth_8, nth_9, y_nil, y_int, y_bool, y_str, y_sl, y_nils, y_agg, y_ownp, y_own, z_nil, z_int, z_bool, z_str, z_sl, z_nils, b_nil, b_arr, b_box1, b_box2, b_box3, b_box4, List.map_cons, List.map_nil, Bool.and_self, Bool.and_true, Bool.true_and, Bool.not_true, Bool.not_false, Bool.or_false, Bool.false_or, cond_true, cond_false, okPack, okPut, okPutBlks, okPutCells, q_isP, q_isAg, q_isBox, q_isArr, q_int, q_bool, q_str, q_sl, q_nils, e_exit, e_ret, e_nrm, e_ret_exit, e_exit_ret, e_nrm_exit, e_nrm_ret, e_exit_nrm, e_ret_nrm, Nat.zero_add, Nat.reduceAdd, noslR, noslP, noslB, noslA, List.all_cons, List.all_nil]
      rfl
    · simp only [n20, n21, n22, bnd_some, ctl_true, ctl_false, ctl_and, ctl_or', ctl_or2, x_toPV, x_toCs, x_toCs2, x_toEs, x_bEs, x_bCs, x_aPV, x_aCs, x_int, x_bool, x_str, x_es, x_esn, nth_0, nth_1, nth_2, nth_3, nth_4, nth_5, nth_6, nth_7, nth_8, nth_9, y_nil, y_int, y_bool, y_str, y_sl, y_nils, y_agg, y_ownp, y_own, z_nil, z_int, z_bool, z_str, z_sl, z_nils, b_nil, b_arr, b_box1, b_box2, b_box3, b_box4, List.map_cons, List.map_nil, Bool.and_self, Bool.and_true, Bool.true_and, Bool.not_true, Bool.not_false, Bool.or_false, Bool.false_or, cond_true, cond_false, okPack, okPut, okPutBlks, okPutCells, q_isP, q_isAg, q_isBox, q_isArr, q_int, q_bool, q_str, q_sl, q_nils, e_exit, e_ret, e_nrm, e_ret_exit, e_exit_ret, e_nrm_exit, e_nrm_ret, e_exit_nrm, e_ret_nrm, Nat.zero_add, Nat.reduceAdd, noslR, noslP, noslB, noslA, List.all_cons, List.all_nil]
      rw [w64 (n := 100 * t2) (by omega), c_half40 (by omega) (by omega)]
      simp only [bnd_some, ctl_true, ctl_false, ctl_and, ctl_or', ctl_or2, x_toPV, x_toCs, x_toCs2, x_toEs, x_bEs, x_bCs, x_aPV, x_aCs, x_int, x_bool, x_str, x_es, x_esn, nth_0, nth_1, nth_2, nth_3, nth_4, nth_5, nth_6, nth_7, nth_8, nth_9, y_nil, y_int, y_bool, y_str, y_sl, y_nils, y_agg, y_ownp, y_own, z_nil, z_int, z_bool, z_str, z_sl, z_nils, b_nil, b_arr, b_box1, b_box2, b_box3, b_box4, List.map_cons, List.map_nil, Bool.and_self, Bool.and_true, Bool.true_and, Bool.not_true, Bool.not_false, Bool.or_false, Bool.false_or, cond_true, cond_false, okPack, okPut, okPutBlks, okPutCells, q_isP, q_isAg, q_isBox, q_isArr, q_int, q_bool, q_str, q_sl, q_nils, e_exit, e_ret, e_nrm, e_ret_exit, e_exit_ret, e_nrm_exit, e_nrm_ret, e_exit_nrm, e_ret_nrm, Nat.zero_add, Nat.reduceAdd, noslR, noslP, noslB, noslA, List.all_cons, List.all_nil]
      rfl
    · simp only [n30, n31, n32, n33, bnd_some, ctl_true, ctl_false, ctl_and, ctl_or', ctl_or2, x_toPV, x_toCs, x_toCs2, x_toEs, x_bEs, x_bCs, x_aPV, x_aCs, x_int, x_bool, x_str, x_es, x_esn, nth_0, nth_1, nth_2, nth_3, nth_4, nth_5, nth_6, nth_7, nth_8, nth_9, y_nil, y_int, y_bool, y_str, y_sl, y_nils, y_agg, y_ownp, y_own, z_nil, z_int, z_bool, z_str, z_sl, z_nils, b_nil, b_arr, b_box1, b_box2, b_box3, b_box4, List.map_cons, List.map_nil, Bool.and_self, Bool.and_true, Bool.true_and, Bool.not_true, Bool.not_false, Bool.or_false, Bool.false_or, cond_true, cond_false, okPack, okPut, okPutBlks, okPutCells, q_isP, q_isAg, q_isBox, q_isArr, q_int, q_bool, q_str, q_sl, q_nils, e_exit, e_ret, e_nrm, e_ret_exit, e_exit_ret, e_nrm_exit, e_nrm_ret, e_exit_nrm, e_ret_nrm, Nat.zero_add, Nat.reduceAdd, noslR, noslP, noslB, noslA, List.all_cons, List.all_nil]
      rw [w64 (n := 100 * t3) (by omega), c_half40 (by omega) (by omega)]
      simp only [bnd_some, ctl_true, ctl_false, ctl_and, ctl_or', ctl_or2, x_toPV, x_toCs, x_toCs2, x_toEs, x_bEs, x_bCs, x_aPV, x_aCs, x_int, x_bool, x_str, x_es, x_esn, nth_0, nth_1, nth_2, nth_3, nth_4, nth_5, nth_6, nth_7, nth_8, nth_9, y_nil, y_int, y_bool, y_str, y_sl, y_nils, y_agg, y_ownp, y_own, z_nil, z_int, z_bool, z_str, z_sl, z_nils, b_nil, b_arr, b_box1, b_box2, b_box3, b_box4, List.map_cons, List.map_nil, Bool.and_self, Bool.and_true, Bool.true_and, Bool.not_true, Bool.not_false, Bool.or_false, Bool.false_or, cond_true, cond_false, okPack, okPut, okPutBlks, okPutCells, q_isP, q_isAg, q_isBox, q_isArr, q_int, q_bool, q_str, q_sl, q_nils, e_exit, e_ret, e_nrm, e_ret_exit, e_exit_ret, e_nrm_exit, e_nrm_ret, e_exit_nrm, e_ret_nrm, Nat.zero_add, Nat.reduceAdd, noslR, noslP, noslB, noslA, List.all_cons, List.all_nil]
      rfl

/-- The worst of two. -/
def wAdd (a b : Int) : Int := if a = 0 ∨ (b ≠ 0 ∧ b < a) then b else a

theorem c_Add (a0 a1 a2 a3 a4 a5 a6 b0 b1 b2 b3 b4 b5 b6 : Int) :
    denC E 18 [AV.agg [PV.int .i64 a0, PV.int .i64 a1, PV.int .i64 a2, PV.int .i64 a3, PV.int .i64 a4, PV.int .i64 a5, PV.int .i64 a6], AV.agg [PV.int .i64 b0, PV.int .i64 b1, PV.int .i64 b2, PV.int .i64 b3, PV.int .i64 b4, PV.int .i64 b5, PV.int .i64 b6]] [] =
      some ([RV.agg [PV.int .i64 (IntKind.i64.wrap (a0 + b0)), PV.int .i64 (IntKind.i64.wrap (a1 + b1)), PV.int .i64 (IntKind.i64.wrap (a2 + b2)), PV.int .i64 (IntKind.i64.wrap (a3 + b3)), PV.int .i64 (wAdd a4 b4), PV.int .i64 (IntKind.i64.wrap (a5 + b5)), PV.int .i64 (IntKind.i64.wrap (a6 + b6))]], []) := by
  rw [denC_eq, r18, r18_0]
  simp only [m0, n00, u0, bnd_some, ctl_true, ctl_false, ctl_and, ctl_or', ctl_or2, x_toPV, x_toCs, x_toCs2, x_toEs, x_bEs, x_bCs, x_aPV, x_aCs, x_int, x_bool, x_str, x_es, x_esn, nth_0, nth_1, nth_2, nth_3, nth_4, nth_5, nth_6, nth_7, nth_8, nth_9, y_nil, y_int, y_bool, y_str, y_sl, y_nils, y_agg, y_ownp, y_own, z_nil, z_int, z_bool, z_str, z_sl, z_nils, b_nil, b_arr, b_box1, b_box2, b_box3, b_box4, List.map_cons, List.map_nil, Bool.and_self, Bool.and_true, Bool.true_and, Bool.not_true, Bool.not_false, Bool.or_false, Bool.false_or, cond_true, cond_false, okPack, okPut, okPutBlks, okPutCells, q_isP, q_isAg, q_isBox, q_isArr, q_int, q_bool, q_str, q_sl, q_nils, e_exit, e_ret, e_nrm, e_ret_exit, e_exit_ret, e_nrm_exit, e_nrm_ret, e_exit_nrm, e_ret_nrm, Nat.zero_add, Nat.reduceAdd, noslR, noslP, noslB, noslA, List.all_cons, List.all_nil]
  rw [r18_0]
  simp only [m1, n10, n11, u1, bnd_some, ctl_true, ctl_false, ctl_and, ctl_or', ctl_or2, x_toPV, x_toCs, x_toCs2, x_toEs, x_bEs, x_bCs, x_aPV, x_aCs, x_int, x_bool, x_str, x_es, x_esn, nth_0, nth_1, nth_2, nth_3, nth_4, nth_5, nth_6, nth_7, nth_8, nth_9, y_nil, y_int, y_bool, y_str, y_sl, y_nils, y_agg, y_ownp, y_own, z_nil, z_int, z_bool, z_str, z_sl, z_nils, b_nil, b_arr, b_box1, b_box2, b_box3, b_box4, List.map_cons, List.map_nil, Bool.and_self, Bool.and_true, Bool.true_and, Bool.not_true, Bool.not_false, Bool.or_false, Bool.false_or, cond_true, cond_false, okPack, okPut, okPutBlks, okPutCells, q_isP, q_isAg, q_isBox, q_isArr, q_int, q_bool, q_str, q_sl, q_nils, e_exit, e_ret, e_nrm, e_ret_exit, e_exit_ret, e_nrm_exit, e_nrm_ret, e_exit_nrm, e_ret_nrm, Nat.zero_add, Nat.reduceAdd, noslR, noslP, noslB, noslA, List.all_cons, List.all_nil]
  rw [r18_0]
  simp only [m2, n20, n21, n22, u2, bnd_some, ctl_true, ctl_false, ctl_and, ctl_or', ctl_or2, x_toPV, x_toCs, x_toCs2, x_toEs, x_bEs, x_bCs, x_aPV, x_aCs, x_int, x_bool, x_str, x_es, x_esn, nth_0, nth_1, nth_2, nth_3, nth_4, nth_5, nth_6, nth_7, nth_8, nth_9, y_nil, y_int, y_bool, y_str, y_sl, y_nils, y_agg, y_ownp, y_own, z_nil, z_int, z_bool, z_str, z_sl, z_nils, b_nil, b_arr, b_box1, b_box2, b_box3, b_box4, List.map_cons, List.map_nil, Bool.and_self, Bool.and_true, Bool.true_and, Bool.not_true, Bool.not_false, Bool.or_false, Bool.false_or, cond_true, cond_false, okPack, okPut, okPutBlks, okPutCells, q_isP, q_isAg, q_isBox, q_isArr, q_int, q_bool, q_str, q_sl, q_nils, e_exit, e_ret, e_nrm, e_ret_exit, e_exit_ret, e_nrm_exit, e_nrm_ret, e_exit_nrm, e_ret_nrm, Nat.zero_add, Nat.reduceAdd, noslR, noslP, noslB, noslA, List.all_cons, List.all_nil]
  rw [r18_0]
  simp only [m3, n30, n31, n32, n33, u3, bnd_some, ctl_true, ctl_false, ctl_and, ctl_or', ctl_or2, x_toPV, x_toCs, x_toCs2, x_toEs, x_bEs, x_bCs, x_aPV, x_aCs, x_int, x_bool, x_str, x_es, x_esn, nth_0, nth_1, nth_2, nth_3, nth_4, nth_5, nth_6, nth_7, nth_8, nth_9, y_nil, y_int, y_bool, y_str, y_sl, y_nils, y_agg, y_ownp, y_own, z_nil, z_int, z_bool, z_str, z_sl, z_nils, b_nil, b_arr, b_box1, b_box2, b_box3, b_box4, List.map_cons, List.map_nil, Bool.and_self, Bool.and_true, Bool.true_and, Bool.not_true, Bool.not_false, Bool.or_false, Bool.false_or, cond_true, cond_false, okPack, okPut, okPutBlks, okPutCells, q_isP, q_isAg, q_isBox, q_isArr, q_int, q_bool, q_str, q_sl, q_nils, e_exit, e_ret, e_nrm, e_ret_exit, e_exit_ret, e_nrm_exit, e_nrm_ret, e_exit_nrm, e_ret_nrm, Nat.zero_add, Nat.reduceAdd, noslR, noslP, noslB, noslA, List.all_cons, List.all_nil]
  rw [r18_0]
  simp only [m4, bnd_some, ctl_true, ctl_false, ctl_and, ctl_or', ctl_or2, x_toPV, x_toCs, x_toCs2, x_toEs, x_bEs, x_bCs, x_aPV, x_aCs, x_int, x_bool, x_str, x_es, x_esn, nth_0, nth_1, nth_2, nth_3, nth_4, nth_5, nth_6, nth_7, nth_8, nth_9, y_nil, y_int, y_bool, y_str, y_sl, y_nils, y_agg, y_ownp, y_own, z_nil, z_int, z_bool, z_str, z_sl, z_nils, b_nil, b_arr, b_box1, b_box2, b_box3, b_box4, List.map_cons, List.map_nil, Bool.and_self, Bool.and_true, Bool.true_and, Bool.not_true, Bool.not_false, Bool.or_false, Bool.false_or, cond_true, cond_false, okPack, okPut, okPutBlks, okPutCells, q_isP, q_isAg, q_isBox, q_isArr, q_int, q_bool, q_str, q_sl, q_nils, e_exit, e_ret, e_nrm, e_ret_exit, e_exit_ret, e_nrm_exit, e_nrm_ret, e_exit_nrm, e_ret_nrm, Nat.zero_add, Nat.reduceAdd, noslR, noslP, noslB, noslA, List.all_cons, List.all_nil]
  unfold wAdd
  by_cases h1 : a4 = 0
  · have k1 : (a4 == 0) = true := by simp [h1]
    rw [if_pos (.inl h1)]
    simp only [k1, Bool.true_or, bnd_some, ctl_true, ctl_false, ctl_and, ctl_or', ctl_or2, x_toPV, x_toCs, x_toCs2, x_toEs, x_bEs, x_bCs, x_aPV, x_aCs, x_int, x_bool, x_str, x_es, x_esn, nth_0, nth_1, nth_2, nth_3, nth_4, nth_5, nth_6, nth_7, nth_8, nth_9, y_nil, y_int, y_bool, y_str, y_sl, y_nils, y_agg, y_ownp, y_own, z_nil, z_int, z_bool, z_str, z_sl, z_nils, b_nil, b_arr, b_box1, b_box2, b_box3, b_box4, List.map_cons, List.map_nil, Bool.and_self, Bool.and_true, Bool.true_and, Bool.not_true, Bool.not_false, Bool.or_false, Bool.false_or, cond_true, cond_false, okPack, okPut, okPutBlks, okPutCells, q_isP, q_isAg, q_isBox, q_isArr, q_int, q_bool, q_str, q_sl, q_nils, e_exit, e_ret, e_nrm, e_ret_exit, e_exit_ret, e_nrm_exit, e_nrm_ret, e_exit_nrm, e_ret_nrm, Nat.zero_add, Nat.reduceAdd, noslR, noslP, noslB, noslA, List.all_cons, List.all_nil]
  · have k1 : (a4 == 0) = false := by simp [h1]
    by_cases h2 : b4 = 0
    · have k2 : (b4 != 0) = false := by simp [h2]
      rw [if_neg (by omega)]
      simp only [k1, k2, Bool.false_and, Bool.or_self, bnd_some, ctl_true, ctl_false, ctl_and, ctl_or', ctl_or2, x_toPV, x_toCs, x_toCs2, x_toEs, x_bEs, x_bCs, x_aPV, x_aCs, x_int, x_bool, x_str, x_es, x_esn, nth_0, nth_1, nth_2, nth_3, nth_4, nth_5, nth_6, nth_7, nth_8, nth_9, y_nil, y_int, y_bool, y_str, y_sl, y_nils, y_agg, y_ownp, y_own, z_nil, z_int, z_bool, z_str, z_sl, z_nils, b_nil, b_arr, b_box1, b_box2, b_box3, b_box4, List.map_cons, List.map_nil, Bool.and_self, Bool.and_true, Bool.true_and, Bool.not_true, Bool.not_false, Bool.or_false, Bool.false_or, cond_true, cond_false, okPack, okPut, okPutBlks, okPutCells, q_isP, q_isAg, q_isBox, q_isArr, q_int, q_bool, q_str, q_sl, q_nils, e_exit, e_ret, e_nrm, e_ret_exit, e_exit_ret, e_nrm_exit, e_nrm_ret, e_exit_nrm, e_ret_nrm, Nat.zero_add, Nat.reduceAdd, noslR, noslP, noslB, noslA, List.all_cons, List.all_nil]
    · have k2 : (b4 != 0) = true := by simp [h2]
      by_cases h3 : b4 < a4
      · have k3 : ltB b4 a4 = true := by simpa [ltB] using h3
        rw [if_pos (.inr ⟨h2, h3⟩)]
        simp only [k1, k2, k3, Bool.or_self, bnd_some, ctl_true, ctl_false, ctl_and, ctl_or', ctl_or2, x_toPV, x_toCs, x_toCs2, x_toEs, x_bEs, x_bCs, x_aPV, x_aCs, x_int, x_bool, x_str, x_es, x_esn, nth_0, nth_1, nth_2, nth_3, nth_4, nth_5, nth_6, nth_7, nth_8, nth_9, y_nil, y_int, y_bool, y_str, y_sl, y_nils, y_agg, y_ownp, y_own, z_nil, z_int, z_bool, z_str, z_sl, z_nils, b_nil, b_arr, b_box1, b_box2, b_box3, b_box4, List.map_cons, List.map_nil, Bool.and_self, Bool.and_true, Bool.true_and, Bool.not_true, Bool.not_false, Bool.or_false, Bool.false_or, cond_true, cond_false, okPack, okPut, okPutBlks, okPutCells, q_isP, q_isAg, q_isBox, q_isArr, q_int, q_bool, q_str, q_sl, q_nils, e_exit, e_ret, e_nrm, e_ret_exit, e_exit_ret, e_nrm_exit, e_nrm_ret, e_exit_nrm, e_ret_nrm, Nat.zero_add, Nat.reduceAdd, noslR, noslP, noslB, noslA, List.all_cons, List.all_nil]
      · have k3 : ltB b4 a4 = false := by simpa [ltB] using h3
        rw [if_neg (by omega)]
        simp only [k1, k2, k3, Bool.or_self, bnd_some, ctl_true, ctl_false, ctl_and, ctl_or', ctl_or2, x_toPV, x_toCs, x_toCs2, x_toEs, x_bEs, x_bCs, x_aPV, x_aCs, x_int, x_bool, x_str, x_es, x_esn, nth_0, nth_1, nth_2, nth_3, nth_4, nth_5, nth_6, nth_7, nth_8, nth_9, y_nil, y_int, y_bool, y_str, y_sl, y_nils, y_agg, y_ownp, y_own, z_nil, z_int, z_bool, z_str, z_sl, z_nils, b_nil, b_arr, b_box1, b_box2, b_box3, b_box4, List.map_cons, List.map_nil, Bool.and_self, Bool.and_true, Bool.true_and, Bool.not_true, Bool.not_false, Bool.or_false, Bool.false_or, cond_true, cond_false, okPack, okPut, okPutBlks, okPutCells, q_isP, q_isAg, q_isBox, q_isArr, q_int, q_bool, q_str, q_sl, q_nils, e_exit, e_ret, e_nrm, e_ret_exit, e_exit_ret, e_nrm_exit, e_nrm_ret, e_exit_nrm, e_ret_nrm, Nat.zero_add, Nat.reduceAdd, noslR, noslP, noslB, noslA, List.all_cons, List.all_nil]

theorem pick5 {L : List Int} {k : Nat} : vPick L k [0, 0, 1, 7, 100] = 0 ∨ vPick L k [0, 0, 1, 7, 100] = 1 ∨ vPick L k [0, 0, 1, 7, 100] = 7 ∨ vPick L k [0, 0, 1, 7, 100] = 100 := by
  have := vPick_mem L k (l := [0, 0, 1, 7, 100]) (by decide)
  simp only [List.mem_cons, List.not_mem_nil, or_false] at this
  omega

theorem c_made {L : List Int} {k : Nat} (hL : L.length ≤ 600) (hk : k ≤ 600) : ∃ (t0 t1 t2 t3 w b s : Int) (k' : Nat), k' ≤ 600 ∧ (0 ≤ t0 ∧ t0 ≤ 100) ∧ (0 ≤ t1 ∧ t1 ≤ 100) ∧ (0 ≤ t2 ∧ t2 ≤ 100) ∧ (0 ≤ t3 ∧ t3 ≤ 100) ∧ (0 ≤ w ∧ w < 4) ∧ (0 ≤ b ∧ b < 20) ∧ (0 ≤ s ∧ s < 20) ∧
    denC E 15 [AV.t (.ptr 0 0)] [src L k] = some ([RV.agg [PV.int .i64 t0, PV.int .i64 t1, PV.int .i64 t2, PV.int .i64 t3, PV.int .i64 w, PV.int .i64 b, PV.int .i64 s]], [src L k']) := by
  have h1 := at'_le hL hk
  have h2 := at'_le hL h1
  have h3 := at'_le hL h2
  have h4 := at'_le hL h3
  have h5 := at'_le hL h4
  have h6 := at'_le hL h5
  have h7 := at'_le hL h6
  obtain ⟨k1, e1⟩ : ∃ x, at' L k = x := ⟨_, rfl⟩
  obtain ⟨k2, e2⟩ : ∃ x, at' L k1 = x := ⟨_, rfl⟩
  obtain ⟨k3, e3⟩ : ∃ x, at' L k2 = x := ⟨_, rfl⟩
  obtain ⟨k4, e4⟩ : ∃ x, at' L k3 = x := ⟨_, rfl⟩
  obtain ⟨k5, e5⟩ : ∃ x, at' L k4 = x := ⟨_, rfl⟩
  obtain ⟨k6, e6⟩ : ∃ x, at' L k5 = x := ⟨_, rfl⟩
  obtain ⟨k7, e7⟩ : ∃ x, at' L k6 = x := ⟨_, rfl⟩
  simp only [e1, e2, e3, e4, e5, e6, e7] at h1 h2 h3 h4 h5 h6 h7
  have p0 := pick5 (L := L) (k := k3)
  have p1 := pick5 (L := L) (k := k4)
  have p2 := pick5 (L := L) (k := k5)
  have p3 := pick5 (L := L) (k := k6)
  refine ⟨vPick L k3 [0, 0, 1, 7, 100], vPick L k4 [0, 0, 1, 7, 100], vPick L k5 [0, 0, 1, 7, 100], vPick L k6 [0, 0, 1, 7, 100], vN L k 4, vN L k1 20, vN L k2 20, k7, h7, by omega, by omega, by omega, by omega, vN_bounds (by decide), vN_bounds (by decide), vN_bounds (by decide), ?_⟩
  have hP : ∀ {k : Nat}, k ≤ 600 → denC E 29 [AV.t (.ptr 0 0), AV.sl 1 [[PV.int .i64 0], [PV.int .i64 0], [PV.int .i64 1], [PV.int .i64 7], [PV.int .i64 100]]] [src L k] = some ([RV.p (PV.int .i64 (vPick L k [0, 0, 1, 7, 100]))], [src L (at' L k)]) := fun h => c_Pick hL h (l := [0, 0, 1, 7, 100]) (by decide)
  have sr : ∀ k : Nat, Blk.box [AV.sl 1 (intsK .i64 L), AV.int .i64 (k : Int)] = src L k := fun k => rfl
  have s0 : ∀ k : Nat, src L k = Blk.box [AV.sl 1 (intsK .i64 L), AV.int .i64 (k : Int)] := fun k => rfl
  rw [s0, denC_eq, r15, sr, c_N hL hk 4 (by decide), e1, s0]
  simp only [bnd_some, ctl_true, ctl_false, ctl_and, ctl_or', ctl_or2, x_toPV, x_toCs, x_toCs2, x_toEs, x_bEs, x_bCs, x_aPV, x_aCs, x_int, x_bool, x_str, x_es, x_esn, nth_0, nth_1, nth_2, nth_3, nth_4, nth_5, nth_6, nth_7, nth_8, nth_9, y_nil, y_int, y_bool, y_str, y_sl, y_nils, y_agg, y_ownp, y_own, z_nil, z_int, z_bool, z_str, z_sl, z_nils, b_nil, b_arr, b_box1, b_box2, b_box3, b_box4, List.map_cons, List.map_nil, Bool.and_self, Bool.and_true, Bool.true_and, Bool.not_true, Bool.not_false, Bool.or_false, Bool.false_or, cond_true, cond_false, okPack, okPut, okPutBlks, okPutCells, q_isP, q_isAg, q_isBox, q_isArr, q_int, q_bool, q_str, q_sl, q_nils, e_exit, e_ret, e_nrm, e_ret_exit, e_exit_ret, e_nrm_exit, e_nrm_ret, e_exit_nrm, e_ret_nrm, Nat.zero_add, Nat.reduceAdd, noslR, noslP, noslB, noslA, List.all_cons, List.all_nil]
  rw [sr, c_N hL h1 20 (by decide), e2, s0]
  simp only [bnd_some, ctl_true, ctl_false, ctl_and, ctl_or', ctl_or2, x_toPV, x_toCs, x_toCs2, x_toEs, x_bEs, x_bCs, x_aPV, x_aCs, x_int, x_bool, x_str, x_es, x_esn, nth_0, nth_1, nth_2, nth_3, nth_4, nth_5, nth_6, nth_7, nth_8, nth_9, y_nil, y_int, y_bool, y_str, y_sl, y_nils, y_agg, y_ownp, y_own, z_nil, z_int, z_bool, z_str, z_sl, z_nils, b_nil, b_arr, b_box1, b_box2, b_box3, b_box4, List.map_cons, List.map_nil, Bool.and_self, Bool.and_true, Bool.true_and, Bool.not_true, Bool.not_false, Bool.or_false, Bool.false_or, cond_true, cond_false, okPack, okPut, okPutBlks, okPutCells, q_isP, q_isAg, q_isBox, q_isArr, q_int, q_bool, q_str, q_sl, q_nils, e_exit, e_ret, e_nrm, e_ret_exit, e_exit_ret, e_nrm_exit, e_nrm_ret, e_exit_nrm, e_ret_nrm, Nat.zero_add, Nat.reduceAdd, noslR, noslP, noslB, noslA, List.all_cons, List.all_nil]
  rw [sr, c_N hL h2 20 (by decide), e3, s0]
  simp only [bnd_some, ctl_true, ctl_false, ctl_and, ctl_or', ctl_or2, x_toPV, x_toCs, x_toCs2, x_toEs, x_bEs, x_bCs, x_aPV, x_aCs, x_int, x_bool, x_str, x_es, x_esn, nth_0, nth_1, nth_2, nth_3, nth_4, nth_5, nth_6, nth_7, nth_8, nth_9, y_nil, y_int, y_bool, y_str, y_sl, y_nils, y_agg, y_ownp, y_own, z_nil, z_int, z_bool, z_str, z_sl, z_nils, b_nil, b_arr, b_box1, b_box2, b_box3, b_box4, List.map_cons, List.map_nil, Bool.and_self, Bool.and_true, Bool.true_and, Bool.not_true, Bool.not_false, Bool.or_false, Bool.false_or, cond_true, cond_false, okPack, okPut, okPutBlks, okPutCells, q_isP, q_isAg, q_isBox, q_isArr, q_int, q_bool, q_str, q_sl, q_nils, e_exit, e_ret, e_nrm, e_ret_exit, e_exit_ret, e_nrm_exit, e_nrm_ret, e_exit_nrm, e_ret_nrm, Nat.zero_add, Nat.reduceAdd, noslR, noslP, noslB, noslA, List.all_cons, List.all_nil]
  rw [r15_0, sr, hP h3, e4, s0]
  simp only [m0, n00, u0, bnd_some, ctl_true, ctl_false, ctl_and, ctl_or', ctl_or2, x_toPV, x_toCs, x_toCs2, x_toEs, x_bEs, x_bCs, x_aPV, x_aCs, x_int, x_bool, x_str, x_es, x_esn, nth_0, nth_1, nth_2, nth_3, nth_4, nth_5, nth_6, nth_7, nth_8, nth_9, y_nil, y_int, y_bool, y_str, y_sl, y_nils, y_agg, y_ownp, y_own, z_nil, z_int, z_bool, z_str, z_sl, z_nils, b_nil, b_arr, b_box1, b_box2, b_box3, b_box4, List.map_cons, List.map_nil, Bool.and_self, Bool.and_true, Bool.true_and, Bool.not_true, Bool.not_false, Bool.or_false, Bool.false_or, cond_true, cond_false, okPack, okPut, okPutBlks, okPutCells, q_isP, q_isAg, q_isBox, q_isArr, q_int, q_bool, q_str, q_sl, q_nils, e_exit, e_ret, e_nrm, e_ret_exit, e_exit_ret, e_nrm_exit, e_nrm_ret, e_exit_nrm, e_ret_nrm, Nat.zero_add, Nat.reduceAdd, noslR, noslP, noslB, noslA, List.all_cons, List.all_nil]
  rw [r15_0, sr, hP h4, e5, s0]
  simp only [m1, n10, n11, u1, bnd_some, ctl_true, ctl_false, ctl_and, ctl_or', ctl_or2, x_toPV, x_toCs, x_toCs2, x_toEs, x_bEs, x_bCs, x_aPV, x_aCs, x_int, x_bool, x_str, x_es, x_esn, nth_0, nth_1, nth_2, nth_3, nth_4, nth_5, nth_6, nth_7, nth_8, nth_9, y_nil, y_int, y_bool, y_str, y_sl, y_nils, y_agg, y_ownp, y_own, z_nil, z_int, z_bool, z_str, z_sl, z_nils, b_nil, b_arr, b_box1, b_box2, b_box3, b_box4, List.map_cons, List.map_nil, Bool.and_self, Bool.and_true, Bool.true_and, Bool.not_true, Bool.not_false, Bool.or_false, Bool.false_or, cond_true, cond_false, okPack, okPut, okPutBlks, okPutCells, q_isP, q_isAg, q_isBox, q_isArr, q_int, q_bool, q_str, q_sl, q_nils, e_exit, e_ret, e_nrm, e_ret_exit, e_exit_ret, e_nrm_exit, e_nrm_ret, e_exit_nrm, e_ret_nrm, Nat.zero_add, Nat.reduceAdd, noslR, noslP, noslB, noslA, List.all_cons, List.all_nil]
  rw [r15_0, sr, hP h5, e6, s0]
  simp only [m2, n20, n21, n22, u2, bnd_some, ctl_true, ctl_false, ctl_and, ctl_or', ctl_or2, x_toPV, x_toCs, x_toCs2, x_toEs, x_bEs, x_bCs, x_aPV, x_aCs, x_int, x_bool, x_str, x_es, x_esn, nth_0, nth_1, nth_2, nth_3, nth_4, nth_5, nth_6, nth_7, nth_8, nth_9, y_nil, y_int, y_bool, y_str, y_sl, y_nils, y_agg, y_ownp, y_own, z_nil, z_int, z_bool, z_str, z_sl, z_nils, b_nil, b_arr, b_box1, b_box2, b_box3, b_box4, List.map_cons, List.map_nil, Bool.and_self, Bool.and_true, Bool.true_and, Bool.not_true, Bool.not_false, Bool.or_false, Bool.false_or, cond_true, cond_false, okPack, okPut, okPutBlks, okPutCells, q_isP, q_isAg, q_isBox, q_isArr, q_int, q_bool, q_str, q_sl, q_nils, e_exit, e_ret, e_nrm, e_ret_exit, e_exit_ret, e_nrm_exit, e_nrm_ret, e_exit_nrm, e_ret_nrm, Nat.zero_add, Nat.reduceAdd, noslR, noslP, noslB, noslA, List.all_cons, List.all_nil]
  rw [r15_0, sr, hP h6, e7, s0]
  simp only [m3, n30, n31, n32, n33, u3, bnd_some, ctl_true, ctl_false, ctl_and, ctl_or', ctl_or2, x_toPV, x_toCs, x_toCs2, x_toEs, x_bEs, x_bCs, x_aPV, x_aCs, x_int, x_bool, x_str, x_es, x_esn, nth_0, nth_1, nth_2, nth_3, nth_4, nth_5, nth_6, nth_7, nth_8, nth_9, y_nil, y_int, y_bool, y_str, y_sl, y_nils, y_agg, y_ownp, y_own, z_nil, z_int, z_bool, z_str, z_sl, z_nils, b_nil, b_arr, b_box1, b_box2, b_box3, b_box4, List.map_cons, List.map_nil, Bool.and_self, Bool.and_true, Bool.true_and, Bool.not_true, Bool.not_false, Bool.or_false, Bool.false_or, cond_true, cond_false, okPack, okPut, okPutBlks, okPutCells, q_isP, q_isAg, q_isBox, q_isArr, q_int, q_bool, q_str, q_sl, q_nils, e_exit, e_ret, e_nrm, e_ret_exit, e_exit_ret, e_nrm_exit, e_nrm_ret, e_exit_nrm, e_ret_nrm, Nat.zero_add, Nat.reduceAdd, noslR, noslP, noslB, noslA, List.all_cons, List.all_nil]
  rw [r15_0]
  simp only [m4, bnd_some, ctl_true, ctl_false, ctl_and, ctl_or', ctl_or2, x_toPV, x_toCs, x_toCs2, x_toEs, x_bEs, x_bCs, x_aPV, x_aCs, x_int, x_bool, x_str, x_es, x_esn, nth_0, nth_1, nth_2, nth_3, nth_4, nth_5, nth_6, nth_7, nth_8, nth_9, y_nil, y_int, y_bool, y_str, y_sl, y_nils, y_agg, y_ownp, y_own, z_nil, z_int, z_bool, z_str, z_sl, z_nils, b_nil, b_arr, b_box1, b_box2, b_box3, b_box4, List.map_cons, List.map_nil, Bool.and_self, Bool.and_true, Bool.true_and, Bool.not_true, Bool.not_false, Bool.or_false, Bool.false_or, cond_true, cond_false, okPack, okPut, okPutBlks, okPutCells, q_isP, q_isAg, q_isBox, q_isArr, q_int, q_bool, q_str, q_sl, q_nils, e_exit, e_ret, e_nrm, e_ret_exit, e_exit_ret, e_nrm_exit, e_nrm_ret, e_exit_nrm, e_ret_nrm, Nat.zero_add, Nat.reduceAdd, noslR, noslP, noslB, noslA, List.all_cons, List.all_nil]

end Go.Proofs.YtgdeaamklodkkaaDoor.Vm

/- Chapter 40: contracts of Of and Text; the example. -/
namespace Go.Proofs.YtgdeaamklodkkaaDoor.Vm
set_option linter.unusedVariables false
set_option linter.unusedSimpArgs false

theorem c_Text40 (a0 a1 a2 a3 a4 a5 a6 : Int) (h : ([a0, a1, a2, a3, a4, a5, a6].all i64B) = true) : denC E 19 [AV.agg [PV.int .i64 a0, PV.int .i64 a1, PV.int .i64 a2, PV.int .i64 a3, PV.int .i64 a4, PV.int .i64 a5, PV.int .i64 a6]] [] = some ([RV.p (PV.str (repB a0 a1 a2 a3 a4 a5 a6))], []) := by
  rw [denC_eq]
  have : funK E (denC E) 19 [AV.agg [PV.int .i64 a0, PV.int .i64 a1, PV.int .i64 a2, PV.int .i64 a3, PV.int .i64 a4, PV.int .i64 a5, PV.int .i64 a6]] [] = match pRep [AV.agg [PV.int .i64 a0, PV.int .i64 a1, PV.int .i64 a2, PV.int .i64 a3, PV.int .i64 a4, PV.int .i64 a5, PV.int .i64 a6]] with | some rs => some (rs, []) | none => none := by kernel_rfl
  rw [this]
  have : pRep [AV.agg [PV.int .i64 a0, PV.int .i64 a1, PV.int .i64 a2, PV.int .i64 a3, PV.int .i64 a4, PV.int .i64 a5, PV.int .i64 a6]] = some [RV.p (PV.str (repB a0 a1 a2 a3 a4 a5 a6))] := by
    show (if _ then _ else _) = _
    rw [if_pos h]
  rw [this]

/-- Times and kinds. -/
def tkB (b : List En) : List (Int × Int) := b.map fun e => (e.t, e.k)

theorem tksE_ens : ∀ b : List En, tksE (ensK b) = some (tkB b)
  | [] => rfl
  | e :: b => by
    have h := tksE_ens b
    have e1 : ensK (e :: b) = enK e :: ensK b := rfl
    rw [e1]
    simp only [tksE, tkE, enK, h]
    rfl

theorem gl_ok {A : Int → Int} : ∀ {l : List Sp} {s e : Int}, gl A s e l → ∀ x ∈ l, s ≤ x.1 ∧ x.1 ≤ x.2.1 ∧ x.2.1 ≤ e
  | [], _, _, _, x, hx => (List.not_mem_nil hx).elim
  | y :: r, s, e, h, x, hx => by
    obtain ⟨h1, h2, h3, h4, h5⟩ := h
    have h6 := gl_le h5
    rcases List.mem_cons.1 hx with rfl | hx
    · omega
    · have := gl_ok h5 x hx
      omega

theorem spanL_gl {b : List En} {bs frm to : Int} (h : spanE' b bs 1 frm to = 0) : gl (aF b 1) frm to (spanL b bs 1 frm to) := by
  have h0 := h
  unfold spanE' at h0
  split at h0
  · rename_i hc; exact absurd h0 hc
  · rename_i hc
    split at h0
    · rename_i hq
      obtain ⟨l, hl⟩ := gl_ex b bs 1 frm to (by simpa using hc) hq.2.2.1
      unfold spanL
      rw [if_pos h, spP_eq hl]
      exact hl
    · cases h0

theorem spanE_rng {b : List En} {bs kind frm to : Int} (h : spanE' b bs kind frm to = 0) : checkP b bs = 0 ∧ 0 ≤ frm ∧ frm ≤ to ∧ to ≤ 2147483648 := by
  unfold spanE' at h
  split at h
  · rename_i hc; exact absurd h hc
  · rename_i hc
    split at h
    · rename_i hq
      exact ⟨by simpa using hc, hq.2.1, hq.2.2.1, hq.2.2.2⟩
    · cases h

theorem spanL_oks {b : List En} {bs frm to : Int} (h : spanE' b bs 1 frm to = 0) : okSpans (spanL b bs 1 frm to) = true := by
  have hg := spanL_gl h
  obtain ⟨_, h1, h2, h3⟩ := spanE_rng h
  have hc := spanL_cnt (b := b) (bs := bs) (kind := 1) (frm := frm) (to := to)
  unfold okSpans
  simp only [Bool.and_eq_true, List.all_eq_true, decide_eq_true_eq]
  refine ⟨Nat.ble_eq_true_of_le (by omega), fun x hx => ?_⟩
  have := gl_ok hg x hx
  omega

/-- What Of hands back. -/
noncomputable def ofR (b : List En) (bs frm to : Int) : List RV :=
  if spanE' b bs 1 frm to = 0 then [RV.agg [PV.int .i64 (tick4 (spanL b bs 1 frm to) 0), PV.int .i64 (tick4 (spanL b bs 1 frm to) 1), PV.int .i64 (tick4 (spanL b bs 1 frm to) 2), PV.int .i64 (tick4 (spanL b bs 1 frm to) 3), PV.int .i64 (wst (tick4 (spanL b bs 1 frm to) 1) (tick4 (spanL b bs 1 frm to) 2) (tick4 (spanL b bs 1 frm to) 3)), PV.int .i64 (ofKind (tkB b) 4 frm to).length, PV.int .i64 (noDup (ofKind (tkB b) 8 frm to)).length], RV.p (PV.int .i64 0)]
  else [RV.agg [PV.int .i64 0, PV.int .i64 0, PV.int .i64 0, PV.int .i64 0, PV.int .i64 0, PV.int .i64 0, PV.int .i64 0], RV.p (PV.int .i64 (spanE' b bs 1 frm to))]

theorem c_Of (b : List En) (bs frm to : Int) (hws : ∀ e ∈ b, e.ws.length ≤ 1000000) : denC E 14 [AV.agg [PV.sl 3 (ensK b), PV.int .u64 bs], AV.int .i64 frm, AV.int .i64 to] [] = some (ofR b bs frm to, []) := by
  rw [denC_eq]
  have : funK E (denC E) 14 [AV.agg [PV.sl 3 (ensK b), PV.int .u64 bs], AV.int .i64 frm, AV.int .i64 to] [] = match (ofT 26 27 [AV.agg [PV.sl 3 (ensK b), PV.int .u64 bs], AV.int .i64 frm, AV.int .i64 to]).run (denC E) with | some rs => some (rs, []) | none => none := by kernel_rfl
  rw [this]
  have key : (ofT 26 27 [AV.agg [PV.sl 3 (ensK b), PV.int .u64 bs], AV.int .i64 frm, AV.int .i64 to]).run (denC E) = some (ofR b bs frm to) := by
    have hs := c_SpansE b bs 1 frm to hws
    simp only [ofT, Ask.run]
    rw [hs]
    simp only
    unfold ofR
    by_cases h : spanE' b bs 1 frm to = 0
    · have hoks := spanL_oks h
      obtain ⟨hc, _⟩ := spanE_rng h
      have hl := checkP_len hc
      have h1 : (spanE' b bs 1 frm to != 0) = false := by simp [h]
      have h2 : (okSpans (spanL b bs 1 frm to) && Nat.ble (tkB b).length 1000) = true := by
        rw [hoks, Bool.true_and]
        exact Nat.ble_eq_true_of_le (by simp [tkB]; omega)
      rw [h1, cond_false, if_pos h]
      simp only [spansE_K, tksE_ens, h2, cond_true]
      rw [a_int (c_worst _ _ _ _)]
      rfl
    · have h1 : (spanE' b bs 1 frm to != 0) = true := by simpa using h
      rw [h1, cond_true, if_neg h]
      rfl
  rw [key]

/-! ### The example -/
def q0 : En := ⟨0, 1, [1]⟩

def q1 : En := ⟨4, 1, [3]⟩

def qS1 : Int := sumB begin36 (lineP 0 1 [1])

def qS2 : Int := sumB qS1 (lineP 4 1 [3])

theorem q_ok1 : checkP [q0] qS1 = 0 := checkP_snoc (b := []) (e := q0) checkP_nil (by decide) rfl (by decide)

theorem q_ok2 : checkP [q0, q1] qS2 = 0 := checkP_snoc (b := [q0]) (e := q1) q_ok1 (by decide) (by decide) (by decide)

theorem q_gl : gl (aF [q0, q1] 1) 0 10 [(0, 4, 1), (4, 10, 3)] := by
  have h : ∀ k, aF [q0, q1] 1 k = if 4 ≤ k then 3 else if 0 ≤ k then 1 else 0 := fun k => by
    by_cases h1 : 4 ≤ k
    · have h2 : 0 ≤ k := by omega
      simp [aF, trip, atL, q0, q1, h1, h2]
    · by_cases h2 : 0 ≤ k <;> simp [aF, trip, atL, q0, q1, h1, h2]
  refine ⟨rfl, by decide, fun k h1 h2 => ?_, fun y hy => ?_, rfl, by decide, fun k h1 h2 => ?_, fun y hy => ?_, rfl⟩
  · simp only at h2
    rw [h, if_neg (by omega), if_pos h1]
  · simp at hy; subst hy; decide
  · simp only at h1
    rw [h, if_pos h1]
  · simp at hy

theorem q_of : ofR [q0, q1] qS2 0 10 = [RV.agg [PV.int .i64 0, PV.int .i64 4, PV.int .i64 0, PV.int .i64 6, PV.int .i64 1, PV.int .i64 0, PV.int .i64 0], RV.p (PV.int .i64 0)] := by
  have he : spanE' [q0, q1] qS2 1 0 10 = 0 := by
    unfold spanE'
    rw [if_neg (by rw [q_ok2]; decide), if_pos (by decide)]
  have hs : spanL [q0, q1] qS2 1 0 10 = [(0, 4, 1), (4, 10, 3)] := by
    unfold spanL
    rw [if_pos he, spP_eq q_gl]
  unfold ofR
  rw [if_pos he, hs]
  rfl

theorem c_sane40 : denC E 8 [] [] = some ([RV.p (PV.bool true)], []) := by
  have hA1 := c_AppendD [] begin36 q0 (fun e he => (List.not_mem_nil he).elim) (by decide)
  rw [appR_ok checkP_nil (by decide) rfl (by decide)] at hA1
  have hA2 := c_AppendD [q0] qS1 q1 (fun e he => by simp at he; subst he; decide) (by decide)
  rw [appR_ok q_ok1 (by decide) (by decide) (by decide)] at hA2
  have hO := c_Of [q0, q1] qS2 0 10 (checkP_ws q_ok2)
  rw [q_of] at hO
  have hP := c_Percent 0 4 0 6 1 0 0 (by omega) (by omega) (by omega) (by omega) 3 (by omega)
  have hp : pct (if (3 : Int) = 0 then 0 else if (3 : Int) = 1 then 4 else if (3 : Int) = 2 then 0 else 6) (0 + 4 + 0 + 6) = 60 := by decide
  rw [hp] at hP
  have hT := c_Text40 0 4 0 6 1 0 0 (by decide)
  have ht : (repB 0 4 0 6 1 0 0 == [114, 101, 100, 32, 52, 32, 121, 101, 108, 108, 111, 119, 32, 48, 32, 103, 114, 101, 101, 110, 32, 54, 32, 110, 111, 110, 101, 32, 48, 10, 119, 111, 114, 115, 116, 32, 49, 10, 98, 114, 111, 107, 101, 110, 32, 48, 10, 115, 104, 111, 114, 116, 32, 48, 10]) = true := by decide +kernel
  have e1 : enK q0 = [PV.int IntKind.i64 0, PV.int IntKind.i64 1, PV.sl 1 [[PV.int IntKind.i64 1]]] := rfl
  have e2 : enK q1 = [PV.int IntKind.i64 4, PV.int IntKind.i64 1, PV.sl 1 [[PV.int IntKind.i64 3]]] := rfl
  have e3 : ensK [] = [] := rfl
  have e5 : sumB begin36 (lineP q0.t q0.k q0.ws) = qS1 := rfl
  have e6 : sumB qS1 (lineP q1.t q1.k q1.ws) = qS2 := rfl
  rw [e1, e3, e5, List.nil_append] at hA1
  rw [e2, e6] at hA2
  have e7 : [q0] ++ [q1] = [q0, q1] := rfl
  rw [e7] at hA2
  have b0 : ((0 : Int) == 0) = true := rfl
  have b1 : ((4 : Int) == 4) = true := rfl
  have b2 : ((6 : Int) == 6) = true := rfl
  have b3 : ((1 : Int) == 1) = true := rfl
  have b4 : ((60 : Int) == 60) = true := rfl
  rw [denC_eq, r8, c_NewD]
  simp only [bnd_some, ctl_true, ctl_false, ctl_and, ctl_or', ctl_or2, x_toPV, x_toCs, x_toCs2, x_toEs, x_bEs, x_bCs, x_aPV, x_aCs, x_int, x_bool, x_str, x_es, x_esn, nth_0, nth_1, nth_2, nth_3, nth_4, nth_5, nth_6, nth_7, nth_8, nth_9, y_nil, y_int, y_bool, y_str, y_sl, y_nils, y_agg, y_ownp, y_own, z_nil, z_int, z_bool, z_str, z_sl, z_nils, b_nil, b_arr, b_box1, b_box2, b_box3, b_box4, List.map_cons, List.map_nil, Bool.and_self, Bool.and_true, Bool.true_and, Bool.not_true, Bool.not_false, Bool.or_false, Bool.false_or, cond_true, cond_false, okPack, okPut, okPutBlks, okPutCells, q_isP, q_isAg, q_isBox, q_isArr, q_int, q_bool, q_str, q_sl, q_nils, e_exit, e_ret, e_nrm, e_ret_exit, e_exit_ret, e_nrm_exit, e_nrm_ret, e_exit_nrm, e_ret_nrm, Nat.zero_add, Nat.reduceAdd, noslR, noslP, noslB, noslA, List.all_cons, List.all_nil]
  rw [hA1]
  simp only [bnd_some, ctl_true, ctl_false, ctl_and, ctl_or', ctl_or2, x_toPV, x_toCs, x_toCs2, x_toEs, x_bEs, x_bCs, x_aPV, x_aCs, x_int, x_bool, x_str, x_es, x_esn, nth_0, nth_1, nth_2, nth_3, nth_4, nth_5, nth_6, nth_7, nth_8, nth_9, y_nil, y_int, y_bool, y_str, y_sl, y_nils, y_agg, y_ownp, y_own, z_nil, z_int, z_bool, z_str, z_sl, z_nils, b_nil, b_arr, b_box1, b_box2, b_box3, b_box4, List.map_cons, List.map_nil, Bool.and_self, Bool.and_true, Bool.true_and, Bool.not_true, Bool.not_false, Bool.or_false, Bool.false_or, cond_true, cond_false, okPack, okPut, okPutBlks, okPutCells, q_isP, q_isAg, q_isBox, q_isArr, q_int, q_bool, q_str, q_sl, q_nils, e_exit, e_ret, e_nrm, e_ret_exit, e_exit_ret, e_nrm_exit, e_nrm_ret, e_exit_nrm, e_ret_nrm, Nat.zero_add, Nat.reduceAdd, noslR, noslP, noslB, noslA, List.all_cons, List.all_nil]
  rw [hA2]
  simp only [bnd_some, ctl_true, ctl_false, ctl_and, ctl_or', ctl_or2, x_toPV, x_toCs, x_toCs2, x_toEs, x_bEs, x_bCs, x_aPV, x_aCs, x_int, x_bool, x_str, x_es, x_esn, nth_0, nth_1, nth_2, nth_3, nth_4, nth_5, nth_6, nth_7, nth_8, nth_9, y_nil, y_int, y_bool, y_str, y_sl, y_nils, y_agg, y_ownp, y_own, z_nil, z_int, z_bool, z_str, z_sl, z_nils, b_nil, b_arr, b_box1, b_box2, b_box3, b_box4, List.map_cons, List.map_nil, Bool.and_self, Bool.and_true, Bool.true_and, Bool.not_true, Bool.not_false, Bool.or_false, Bool.false_or, cond_true, cond_false, okPack, okPut, okPutBlks, okPutCells, q_isP, q_isAg, q_isBox, q_isArr, q_int, q_bool, q_str, q_sl, q_nils, e_exit, e_ret, e_nrm, e_ret_exit, e_exit_ret, e_nrm_exit, e_nrm_ret, e_exit_nrm, e_ret_nrm, Nat.zero_add, Nat.reduceAdd, noslR, noslP, noslB, noslA, List.all_cons, List.all_nil]
  rw [hO]
  simp only [b0, b1, b2, b3, bnd_some, ctl_true, ctl_false, ctl_and, ctl_or', ctl_or2, x_toPV, x_toCs, x_toCs2, x_toEs, x_bEs, x_bCs, x_aPV, x_aCs, x_int, x_bool, x_str, x_es, x_esn, nth_0, nth_1, nth_2, nth_3, nth_4, nth_5, nth_6, nth_7, nth_8, nth_9, y_nil, y_int, y_bool, y_str, y_sl, y_nils, y_agg, y_ownp, y_own, z_nil, z_int, z_bool, z_str, z_sl, z_nils, b_nil, b_arr, b_box1, b_box2, b_box3, b_box4, List.map_cons, List.map_nil, Bool.and_self, Bool.and_true, Bool.true_and, Bool.not_true, Bool.not_false, Bool.or_false, Bool.false_or, cond_true, cond_false, okPack, okPut, okPutBlks, okPutCells, q_isP, q_isAg, q_isBox, q_isArr, q_int, q_bool, q_str, q_sl, q_nils, e_exit, e_ret, e_nrm, e_ret_exit, e_exit_ret, e_nrm_exit, e_nrm_ret, e_exit_nrm, e_ret_nrm, Nat.zero_add, Nat.reduceAdd, noslR, noslP, noslB, noslA, List.all_cons, List.all_nil]
  rw [hP]
  simp only [b4, bnd_some, ctl_true, ctl_false, ctl_and, ctl_or', ctl_or2, x_toPV, x_toCs, x_toCs2, x_toEs, x_bEs, x_bCs, x_aPV, x_aCs, x_int, x_bool, x_str, x_es, x_esn, nth_0, nth_1, nth_2, nth_3, nth_4, nth_5, nth_6, nth_7, nth_8, nth_9, y_nil, y_int, y_bool, y_str, y_sl, y_nils, y_agg, y_ownp, y_own, z_nil, z_int, z_bool, z_str, z_sl, z_nils, b_nil, b_arr, b_box1, b_box2, b_box3, b_box4, List.map_cons, List.map_nil, Bool.and_self, Bool.and_true, Bool.true_and, Bool.not_true, Bool.not_false, Bool.or_false, Bool.false_or, cond_true, cond_false, okPack, okPut, okPutBlks, okPutCells, q_isP, q_isAg, q_isBox, q_isArr, q_int, q_bool, q_str, q_sl, q_nils, e_exit, e_ret, e_nrm, e_ret_exit, e_exit_ret, e_nrm_exit, e_nrm_ret, e_exit_nrm, e_ret_nrm, Nat.zero_add, Nat.reduceAdd, noslR, noslP, noslB, noslA, List.all_cons, List.all_nil]
  rw [hT]
  simp only [ht, bnd_some, ctl_true, ctl_false, ctl_and, ctl_or', ctl_or2, x_toPV, x_toCs, x_toCs2, x_toEs, x_bEs, x_bCs, x_aPV, x_aCs, x_int, x_bool, x_str, x_es, x_esn, nth_0, nth_1, nth_2, nth_3, nth_4, nth_5, nth_6, nth_7, nth_8, nth_9, y_nil, y_int, y_bool, y_str, y_sl, y_nils, y_agg, y_ownp, y_own, z_nil, z_int, z_bool, z_str, z_sl, z_nils, b_nil, b_arr, b_box1, b_box2, b_box3, b_box4, List.map_cons, List.map_nil, Bool.and_self, Bool.and_true, Bool.true_and, Bool.not_true, Bool.not_false, Bool.or_false, Bool.false_or, cond_true, cond_false, okPack, okPut, okPutBlks, okPutCells, q_isP, q_isAg, q_isBox, q_isArr, q_int, q_bool, q_str, q_sl, q_nils, e_exit, e_ret, e_nrm, e_ret_exit, e_exit_ret, e_nrm_exit, e_nrm_ret, e_exit_nrm, e_ret_nrm, Nat.zero_add, Nat.reduceAdd, noslR, noslP, noslB, noslA, List.all_cons, List.all_nil]

end Go.Proofs.YtgdeaamklodkkaaDoor.Vm

/- Chapter 40: plain laws of reports. -/
namespace Go.Proofs.YtgdeaamklodkkaaDoor.Vm
set_option linter.unusedVariables false
set_option linter.unusedSimpArgs false

/-! ### Ticks are counted -/
def cntA (A : Int → Int) (lev s : Int) : Nat → Int
  | 0 => 0
  | n + 1 => (if A s = lev then 1 else 0) + cntA A lev (s + 1) n

theorem cntA_app (A : Int → Int) (lev : Int) : ∀ (n m : Nat) (s : Int), cntA A lev s (n + m) = cntA A lev s n + cntA A lev (s + n) m
  | 0, m, s => by simp [cntA]
  | n + 1, m, s => by
    have h := cntA_app A lev n m (s + 1)
    rw [show n + 1 + m = (n + m) + 1 by omega]
    unfold cntA
    rw [h, show s + 1 + (n : Int) = s + ((n + 1 : Nat) : Int) by omega]
    cases m <;> simp only [cntA] <;> omega

theorem cntA_const (A : Int → Int) (lev v : Int) : ∀ (n : Nat) (s : Int), (∀ k, s ≤ k → k < s + n → A k = v) → cntA A lev s n = if v = lev then (n : Int) else 0
  | 0, s, _ => by simp [cntA]
  | n + 1, s, h => by
    have h1 := cntA_const A lev v n (s + 1) fun k h1 h2 => h k (by omega) (by omega)
    unfold cntA
    rw [h1, h s (by omega) (by omega)]
    split <;> omega

theorem tick4_acc (lev : Int) : ∀ (l : List Sp) (x : Int), l.foldl (fun s x => if x.2.2 = lev then s + (x.2.1 - x.1) else s) x = x + tick4 l lev
  | [], x => by simp [tick4]
  | y :: l, x => by
    unfold tick4
    rw [List.foldl_cons, List.foldl_cons, tick4_acc lev l, tick4_acc lev l (if y.2.2 = lev then 0 + (y.2.1 - y.1) else 0)]
    split <;> omega

theorem tick4_cons (lev : Int) (y : Sp) (l : List Sp) : tick4 (y :: l) lev = (if y.2.2 = lev then y.2.1 - y.1 else 0) + tick4 l lev := by
  have h := tick4_acc lev l (if y.2.2 = lev then 0 + (y.2.1 - y.1) else 0)
  unfold tick4 at h ⊢
  rw [List.foldl_cons, h]
  split <;> omega

theorem tick4_gl {A : Int → Int} (lev : Int) : ∀ {l : List Sp} {s e : Int}, gl A s e l → tick4 l lev = cntA A lev s (e - s).toNat
  | [], s, e, h => by
    unfold gl at h
    subst h
    rw [show (s - s).toNat = 0 by omega]
    rfl
  | x :: l, s, e, h => by
    obtain ⟨h1, h2, h3, h4, h5⟩ := h
    have h6 := gl_le h5
    rw [tick4_cons, tick4_gl lev h5, show (e - s).toNat = (x.2.1 - s).toNat + (e - x.2.1).toNat by omega, cntA_app, show s + (((x.2.1 - s).toNat : Nat) : Int) = x.2.1 by omega,
      cntA_const A lev x.2.2 (x.2.1 - s).toNat s fun k a b => h3 k a (by omega)]
    split <;> omega

theorem cntA_rng (A : Int → Int) (lev : Int) : ∀ (n : Nat) (s : Int), 0 ≤ cntA A lev s n ∧ cntA A lev s n ≤ n
  | 0, s => by simp [cntA]
  | n + 1, s => by
    have := cntA_rng A lev n (s + 1)
    unfold cntA
    split <;> omega

/-! ### The other numbers -/
theorem ofKind_add (kind : Int) {f m t : Int} (h1 : f ≤ m) (h2 : m ≤ t) : ∀ l : List (Int × Int), (ofKind l kind f m).length + (ofKind l kind m t).length = (ofKind l kind f t).length
  | [] => rfl
  | x :: l => by
    have h := ofKind_add kind h1 h2 l
    unfold ofKind at h ⊢
    rw [List.length_map, List.length_map, List.length_map] at h ⊢
    rw [List.filter_cons, List.filter_cons, List.filter_cons]
    by_cases a1 : f ≤ x.1 <;> by_cases a2 : x.1 < m <;> by_cases a3 : m ≤ x.1 <;> by_cases a4 : x.1 < t <;> by_cases a5 : x.2 = kind <;> simp [a1, a2, a3, a4, a5] <;> omega

theorem ofKind_len_le (kind f t : Int) (l : List (Int × Int)) : (ofKind l kind f t).length ≤ l.length := by
  unfold ofKind
  rw [List.length_map]
  exact List.length_filter_le _ _

theorem ofKind_mem {kind f t : Int} {l : List (Int × Int)} {y : Int} (h : y ∈ ofKind l kind f t) : f ≤ y ∧ y < t := by
  unfold ofKind at h
  rw [List.mem_map] at h
  obtain ⟨x, hx, rfl⟩ := h
  have := (List.mem_filter.1 hx).2
  simp only [Bool.and_eq_true, decide_eq_true_eq] at this
  omega

theorem ofKind_split (kind : Int) {f m t : Int} (h1 : f ≤ m) (h2 : m ≤ t) : ∀ l : List (Int × Int), l.Pairwise (fun a c => a.1 ≤ c.1) → ofKind l kind f t = ofKind l kind f m ++ ofKind l kind m t
  | [], _ => rfl
  | x :: l, hp => by
    obtain ⟨p1, p2⟩ := List.pairwise_cons.1 hp
    have h := ofKind_split kind h1 h2 l p2
    by_cases hm : x.1 < m
    · have e1 : ofKind (x :: l) kind m t = ofKind l kind m t := by
        unfold ofKind
        rw [List.filter_cons, if_neg (by simp; omega)]
      rw [e1]
      unfold ofKind at h ⊢
      rw [List.filter_cons, List.filter_cons]
      by_cases a1 : f ≤ x.1 <;> by_cases a5 : x.2 = kind <;> simp [a1, a5, hm, show x.1 < t by omega] <;> simpa using h
    · have e1 : ∀ y ∈ x :: l, ¬ y.1 < m := by
        intro y hy
        rcases List.mem_cons.1 hy with rfl | hy
        · exact hm
        · have := p1 y hy; omega
      have e2 : ofKind (x :: l) kind f m = [] := by
        unfold ofKind
        rw [List.filter_eq_nil_iff.2 fun y hy => by have := e1 y hy; simp; omega]
        rfl
      rw [e2, List.nil_append]
      unfold ofKind
      congr 1
      refine List.filter_congr fun y hy => ?_
      have := e1 y hy
      have a1 : f ≤ y.1 := by omega
      have a2 : m ≤ y.1 := by omega
      simp [a1, a2]

theorem noDup_step (x y : Int) (l : List Int) : noDup (x :: y :: l) = if x = y then noDup (y :: l) else x :: noDup (y :: l) := rfl

theorem noDup_app : ∀ l1 l2 : List Int, (∀ a ∈ l1, ∀ b ∈ l2, a ≠ b) → (noDup (l1 ++ l2)).length = (noDup l1).length + (noDup l2).length
  | [], l2, _ => by simp [noDup]
  | [x], [], _ => by simp [noDup]
  | [x], y :: l, h => by
    have hn : x ≠ y := h x (by simp) y (by simp)
    show (noDup (x :: y :: l)).length = _
    have e : noDup [x] = [x] := rfl
    rw [noDup_step, if_neg hn, List.length_cons, e, List.length_singleton]
    omega
  | x :: y :: l1, l2, h => by
    have ih := noDup_app (y :: l1) l2 fun a ha b hb => h a (.tail _ ha) b hb
    show (noDup (x :: y :: (l1 ++ l2))).length = _
    have ih : (noDup (y :: (l1 ++ l2))).length = (noDup (y :: l1)).length + (noDup l2).length := ih
    rw [noDup_step, noDup_step]
    by_cases e : x = y
    · rw [if_pos e, if_pos e]; exact ih
    · rw [if_neg e, if_neg e, List.length_cons, List.length_cons, ih]; omega

theorem noDup_le : ∀ l : List Int, (noDup l).length ≤ l.length
  | [] => by simp [noDup]
  | [x] => by simp [noDup]
  | x :: y :: l => by
    have h := noDup_le (y :: l)
    rw [noDup_step]
    split
    · simp at h ⊢; omega
    · simp at h ⊢; omega

theorem wst_add {a1 a2 a3 b1 b2 b3 : Int} (h1 : 0 ≤ a1) (h2 : 0 ≤ a2) (h3 : 0 ≤ a3) (g1 : 0 ≤ b1) (g2 : 0 ≤ b2) (g3 : 0 ≤ b3) : wAdd (wst a1 a2 a3) (wst b1 b2 b3) = wst (a1 + b1) (a2 + b2) (a3 + b3) := by
  have key : ∀ x y z : Int, (0 < x ∧ wst x y z = 1) ∨ (¬ 0 < x ∧ 0 < y ∧ wst x y z = 2) ∨ (¬ 0 < x ∧ ¬ 0 < y ∧ 0 < z ∧ wst x y z = 3) ∨ (¬ 0 < x ∧ ¬ 0 < y ∧ ¬ 0 < z ∧ wst x y z = 0) := by
    intro x y z
    unfold wst
    split
    · exact .inl ⟨by assumption, rfl⟩
    · split
      · exact .inr (.inl ⟨by assumption, by assumption, rfl⟩)
      · split
        · exact .inr (.inr (.inl ⟨by assumption, by assumption, by assumption, rfl⟩))
        · exact .inr (.inr (.inr ⟨by assumption, by assumption, by assumption, rfl⟩))
  have k1 := key a1 a2 a3
  have k2 := key b1 b2 b3
  have k3 := key (a1 + b1) (a2 + b2) (a3 + b3)
  unfold wAdd
  split <;> omega

theorem tkB_sorted {b : List En} {s : Int} (h : checkP b s = 0) : (tkB b).Pairwise (fun a c => a.1 ≤ c.1) := by
  have := (runB_sorted (checkP_run h)).2
  unfold tkB
  rw [List.pairwise_map]
  exact this

theorem spanE_ok {b : List En} {s f t : Int} (h : checkP b s = 0) (h1 : 0 ≤ f ∧ f ≤ t ∧ t ≤ 2147483648) : spanE' b s 1 f t = 0 := by
  unfold spanE'
  rw [if_neg (by rw [h]; decide), if_pos ⟨by decide, h1⟩]

end Go.Proofs.YtgdeaamklodkkaaDoor.Vm

/- Numbers and their texts: plain laws. -/
namespace Go.Proofs.YtgdeaamklodkkaaDoor.Vm
set_option linter.unusedVariables false
set_option linter.unusedSimpArgs false

def isD (b : UInt8) : Bool := decide (48 ≤ b.toNat) && decide (b.toNat ≤ 57)
/-- The value of digits behind what is read. -/
def valD (acc : Nat) (l : List UInt8) : Nat := l.foldl (fun a b => 10 * a + (b.toNat - 48)) acc
theorem valD_snoc (acc : Nat) (l : List UInt8) (b : UInt8) : valD acc (l ++ [b]) = 10 * valD acc l + (b.toNat - 48) := by simp [valD]
theorem valD_ge (l : List UInt8) : ∀ acc, acc ≤ valD acc l := by
  induction l with
  | nil => intro acc; exact Nat.le_refl _
  | cons b l ih => intro acc; have := ih (10 * acc + (b.toNat - 48)); unfold valD at this ⊢; rw [List.foldl_cons]; omega
theorem valD_lt (l : List UInt8) (h : l.all isD = true) : ∀ acc, valD acc l < (acc + 1) * 10 ^ l.length := by
  induction l with
  | nil => intro acc; simp [valD]
  | cons b l ih =>
    intro acc
    simp only [List.all_cons, Bool.and_eq_true] at h
    have hb := h.1
    unfold isD at hb
    simp only [Bool.and_eq_true, decide_eq_true_eq] at hb
    have := ih h.2 (10 * acc + (b.toNat - 48))
    have h2 : (10 * acc + (b.toNat - 48) + 1) * 10 ^ l.length ≤ (10 * (acc + 1)) * 10 ^ l.length := Nat.mul_le_mul_right _ (by omega)
    have e : (acc + 1) * 10 ^ (b :: l).length = (10 * (acc + 1)) * 10 ^ l.length := by rw [List.length_cons, Nat.pow_succ]; ac_rfl
    rw [e]
    exact Nat.lt_of_lt_of_le this h2

theorem dec_small {u : Nat} (h : u < 10) : Lib.decDigits u = [UInt8.ofNat (48 + u)] := Lib.decDigits_one h
theorem dec_big {u : Nat} (h : ¬ u < 10) : Lib.decDigits u = Lib.decDigits (u / 10) ++ [UInt8.ofNat (48 + u % 10)] := by rw [Lib.decDigits, dif_neg h]
theorem digit_nat {u : Nat} (h : u < 10) : (UInt8.ofNat (48 + u)).toNat = 48 + u := by simp; omega
theorem isD_digit {u : Nat} (h : u < 10) : isD (UInt8.ofNat (48 + u)) = true := by
  unfold isD; rw [digit_nat h]; simp; omega

theorem dec_spec (u : Nat) : (Lib.decDigits u).all isD = true ∧ valD 0 (Lib.decDigits u) = u ∧ ∃ b r, Lib.decDigits u = b :: r ∧ (b = 48 → u = 0 ∧ r = []) := by
  induction u using Nat.strongRecOn with
  | _ u ih =>
    by_cases h : u < 10
    · rw [dec_small h]
      refine ⟨by rw [List.all_cons, isD_digit h]; rfl, by simp [valD, digit_nat h]; omega, _, _, rfl, fun e => ⟨?_, rfl⟩⟩
      have := congrArg UInt8.toNat e
      rw [digit_nat h] at this
      have e2 : (48 : UInt8).toNat = 48 := rfl
      omega
    · obtain ⟨h1, h2, b, r, h3, h4⟩ := ih (u / 10) (by omega)
      rw [dec_big h]
      refine ⟨by rw [List.all_append, h1, List.all_cons, isD_digit (u := u % 10) (by omega)]; rfl, ?_, b, r ++ [UInt8.ofNat (48 + u % 10)], by rw [h3]; rfl, fun e => ?_⟩
      · rw [valD_snoc, h2, digit_nat (by omega)]; omega
      · have := (h4 e).1; omega

theorem dec_len (k : Nat) : ∀ u : Nat, u < 10 ^ (k + 1) → (Lib.decDigits u).length ≤ k + 1 := by
  induction k with
  | zero => intro u h; rw [dec_small (by simpa using h)]; simp
  | succ k ih =>
    intro u h
    by_cases hu : u < 10
    · rw [dec_small hu]; simp
    · have := ih (u / 10) (by rw [Nat.pow_succ] at h; omega)
      rw [dec_big hu]; simp; omega

/-- Digits without a 0 ahead are those of their value. -/
theorem dec_val : ∀ (n : Nat) (l : List UInt8), l.length = n → l.all isD = true → ∀ b r, l = b :: r → (b = 48 → r = []) → Lib.decDigits (valD 0 l) = l ∧ (b ≠ 48 → 1 ≤ valD 0 l) := by
  intro n
  induction n with
  | zero => intro l hl _ b r e; subst e; simp at hl
  | succ n ih =>
    intro l hl hd b r e h0
    by_cases hr : r = []
    · subst hr; subst e
      have hb : isD b = true := by simpa using hd
      unfold isD at hb
      simp only [Bool.and_eq_true, decide_eq_true_eq] at hb
      have hv : valD 0 [b] = b.toNat - 48 := by simp [valD]
      rw [hv, dec_small (by omega)]
      refine ⟨?_, fun hne => ?_⟩
      · have : 48 + (b.toNat - 48) = b.toNat := by omega
        rw [this]; simp
      · rcases Nat.eq_or_lt_of_le hb.1 with h | h
        · exact absurd (UInt8.toNat_inj.1 (by rw [← h]; rfl)) hne
        · omega
    · obtain ⟨q, d, rfl⟩ : ∃ q d, r = q ++ [d] := ⟨r.dropLast, r.getLast hr, (List.dropLast_concat_getLast hr).symm⟩
      have hb48 : b ≠ 48 := fun hb => hr (h0 hb)
      have e2 : l = (b :: q) ++ [d] := by rw [e]; rfl
      subst e2
      simp only [List.all_append, Bool.and_eq_true, List.all_cons, List.all_nil, Bool.and_true] at hd
      obtain ⟨i1, i2⟩ := ih (b :: q) (by simp at hl ⊢; omega) (by simp only [List.all_cons, Bool.and_eq_true]; exact hd.1) b q rfl (fun hb => absurd hb hb48)
      have hdd := hd.2
      unfold isD at hdd
      simp only [Bool.and_eq_true, decide_eq_true_eq] at hdd
      have i3 := i2 hb48
      rw [valD_snoc, dec_big (by omega)]
      have e3 : (10 * valD 0 (b :: q) + (d.toNat - 48)) / 10 = valD 0 (b :: q) := by omega
      have e4 : (10 * valD 0 (b :: q) + (d.toNat - 48)) % 10 = d.toNat - 48 := by omega
      rw [e3, e4, i1]
      have : 48 + (d.toNat - 48) = d.toNat := by omega
      rw [this]
      exact ⟨by simp, fun _ => by omega⟩

/-- The digits behind the sign. -/
def magS (s : List UInt8) : List UInt8 := match s with | [] => [] | b :: r => if b = 45 then r else b :: r
def negS (s : List UInt8) : Bool := match s with | [] => false | b :: _ => b == 45
/-- What a text is read as: the document's words. -/
def num (s : List UInt8) : Option Int :=
  if (magS s).length < 1 ∨ 10 < (magS s).length ∨ ((magS s).head? = some 48 ∧ s ≠ [48]) ∨ (magS s).all isD = false then none
  else some (if negS s = true then -(valD 0 (magS s) : Int) else valD 0 (magS s))

theorem num_spec {s : List UInt8} {n : Int} (h : num s = some n) : Lib.itoa n = s ∧ -10000000000 < n ∧ n < 10000000000 := by
  unfold num at h
  split at h
  · cases h
  · rename_i hc
    cases h
    simp only [not_or, Nat.not_lt, not_and, Bool.not_eq_false] at hc
    obtain ⟨h1, h2, h3, h4⟩ := hc
    have hlt := valD_lt (magS s) h4 0
    have hp : 10 ^ (magS s).length ≤ 10 ^ 10 := Nat.pow_le_pow_right (by decide) h2
    have hp2 : (10 : Nat) ^ 10 = 10000000000 := by decide
    cases s with
    | nil => simp [magS] at h1
    | cons b r =>
      by_cases hb : b = 45
      · subst hb
        have e1 : magS (45 :: r) = r := rfl
        have e2 : negS (45 :: r) = true := rfl
        rw [e1] at h1 h2 h3 h4 hlt hp
        rw [e1, e2]
        simp only [if_true]
        cases r with
        | nil => simp at h1
        | cons c q =>
          have hc48 : c ≠ 48 := fun hc => by
            have := h3 (by rw [hc]; rfl)
            simp at this
          obtain ⟨i1, i2⟩ := dec_val _ (c :: q) rfl h4 c q rfl (fun h => absurd h hc48)
          have i3 := i2 hc48
          refine ⟨?_, by omega, by omega⟩
          unfold Lib.itoa
          rw [if_pos (by omega)]
          have : (-(valD 0 (c :: q) : Int)).natAbs = valD 0 (c :: q) := by omega
          rw [this, i1]
      · have e1 : magS (b :: r) = b :: r := by simp [magS, hb]
        have e2 : negS (b :: r) = false := by simp [negS, hb]
        rw [e1] at h1 h2 h3 h4 hlt hp
        rw [e1, e2]
        simp only [Bool.false_eq_true, if_false]
        obtain ⟨i1, i2⟩ := dec_val _ (b :: r) rfl h4 b r rfl (fun h => by
          have h5 : ((b :: r : List UInt8).head? = some 48 → (b :: r) = [48]) := fun h => by
            have := h3 h
            simpa using this
          have := h5 (by rw [h]; rfl)
          exact (List.cons.inj this).2)
        refine ⟨?_, by omega, by omega⟩
        unfold Lib.itoa
        rw [if_neg (by omega), Int.toNat_natCast, i1]

theorem num_itoa {n : Int} (h : -10000000000 < n ∧ n < 10000000000) : num (Lib.itoa n) = some n := by
  unfold Lib.itoa
  by_cases hn : n < 0
  · rw [if_pos hn]
    obtain ⟨h1, h2, b, r, h3, h4⟩ := dec_spec n.natAbs
    have hl := dec_len 9 n.natAbs (by omega)
    have e1 : magS (45 :: Lib.decDigits n.natAbs) = Lib.decDigits n.natAbs := rfl
    have e2 : negS (45 :: Lib.decDigits n.natAbs) = true := rfl
    unfold num
    rw [e1, e2, h2, if_neg, if_pos rfl]
    · congr 1; omega
    · simp only [not_or, Nat.not_lt, not_and, Bool.not_eq_false]
      refine ⟨by rw [h3]; simp, hl, fun h5 => ?_, h1⟩
      rw [h3] at h5
      have := (h4 (by simpa using h5)).1
      omega
  · rw [if_neg hn]
    obtain ⟨h1, h2, b, r, h3, h4⟩ := dec_spec n.toNat
    have hl := dec_len 9 n.toNat (by omega)
    have hb : b ≠ 45 := fun hb => by
      rw [h3] at h1
      simp only [List.all_cons, Bool.and_eq_true] at h1
      rw [hb] at h1
      exact absurd h1.1 (by decide)
    have e1 : magS (Lib.decDigits n.toNat) = Lib.decDigits n.toNat := by rw [h3]; simp [magS, hb]
    have e2 : negS (Lib.decDigits n.toNat) = false := by rw [h3]; simp [negS, hb]
    unfold num
    rw [e1, e2, h2, if_neg]
    · simp only [Bool.false_eq_true, if_false]; congr 1; omega
    · simp only [not_or, Nat.not_lt, not_and, Bool.not_eq_false]
      refine ⟨by rw [h3]; simp, hl, fun h5 => ?_, h1⟩
      rw [h3] at h5
      obtain ⟨h6, h7⟩ := h4 (by simpa using h5)
      rw [h6]
      simp [dec_small]

theorem parse_dec (l : List UInt8) (h : l.all isD = true) : ∀ acc, valD acc l < 1844674407370955162 → Lib.parseUint10 acc l = .ok (valD acc l) := by
  induction l with
  | nil => intro acc h; rfl
  | cons b l ih =>
    intro acc hv
    simp only [List.all_cons, Bool.and_eq_true] at h
    have hb := h.1
    unfold isD at hb
    simp only [Bool.and_eq_true, decide_eq_true_eq] at hb
    have hge := valD_ge l (10 * acc + (b.toNat - 48))
    have e : valD acc (b :: l) = valD (10 * acc + (b.toNat - 48)) l := rfl
    rw [e] at hv ⊢
    rw [Lib.parseUint10, if_pos hb, if_neg (by omega), if_neg (by omega), Nat.mul_comm acc 10, ih h.2 _ hv]

theorem atoi_itoa {n : Int} (h : -10000000000 < n ∧ n < 10000000000) : Lib.atoiAll (Lib.itoa n) = .ok n := by
  unfold Lib.itoa
  by_cases hn : n < 0
  · rw [if_pos hn]
    obtain ⟨h1, h2, b, r, h3, h4⟩ := dec_spec n.natAbs
    have hne : Lib.decDigits n.natAbs ≠ [] := by rw [h3]; simp
    have hp := parse_dec _ h1 0 (by rw [h2]; omega)
    rw [h2] at hp
    have e45 : (45 : UInt8).toNat = 45 := rfl
    unfold Lib.atoiAll Lib.parseMag
    simp only [e45, or_true, if_true, if_neg hne, hp, not_true, false_and, if_false, true_and]
    rw [if_neg (by omega)]
    congr 1; omega
  · rw [if_neg hn]
    obtain ⟨h1, h2, b, r, h3, h4⟩ := dec_spec n.toNat
    have hp := parse_dec _ h1 0 (by rw [h2]; omega)
    rw [h2] at hp
    rw [h3] at h1 hp ⊢
    simp only [List.all_cons, Bool.and_eq_true] at h1
    have hb := h1.1
    unfold isD at hb
    simp only [Bool.and_eq_true, decide_eq_true_eq] at hb
    have n43 : ¬ b.toNat = 43 := by omega
    have n45 : ¬ b.toNat = 45 := by omega
    unfold Lib.atoiAll Lib.parseMag
    simp only [n43, n45, or_self, if_false, reduceCtorEq, hp, not_false_eq_true, true_and, false_and]
    rw [if_neg (by omega)]
    congr 1; omega

/-- What the program does comes to the same. -/
def numA (s : List UInt8) : Option Int := if (atoiP s).2 = true ∧ Lib.itoa (atoiP s).1 = s ∧ -10000000000 < (atoiP s).1 ∧ (atoiP s).1 < 10000000000 then some (atoiP s).1 else none
theorem numA_eq (s : List UInt8) : numA s = num s := by
  unfold numA
  split
  · rename_i h
    rw [← num_itoa h.2.2, h.2.1]
  · rename_i h
    cases hs : num s with
    | none => rfl
    | some n =>
      obtain ⟨h1, h2⟩ := num_spec hs
      have h3 := atoi_itoa h2
      rw [h1] at h3
      exfalso
      apply h
      unfold atoiP
      rw [h3]
      exact ⟨rfl, h1, h2⟩

/-- The texts of numbers of at most 10 digits are fields. -/
theorem fld_itoa {n : Int} (h : -10000000000 < n ∧ n < 10000000000) : fldB (Lib.itoa n) = true ∧ (Lib.itoa n).length ≤ 11 := by
  have key : ∀ u : Nat, u < 10000000000 → (Lib.decDigits u).all (fun b => !badB b) = true ∧ (Lib.decDigits u).length ≤ 10 := fun u hu => by
    obtain ⟨h1, _⟩ := dec_spec u
    refine ⟨List.all_eq_true.2 fun b hb => ?_, dec_len 9 u (by omega)⟩
    have := List.all_eq_true.1 h1 b hb
    unfold isD at this
    simp only [Bool.and_eq_true, decide_eq_true_eq] at this
    have hx : ∀ b : Nat, 48 ≤ b → b ≤ 57 → (!badB (UInt8.ofNat b)) = true := by
      intro b h1 h2
      have : ∀ b : Fin 58, 48 ≤ b.val → (!badB (UInt8.ofNat b.val)) = true := by decide +kernel
      exact this ⟨b, by omega⟩ h1
    have := hx b.toNat this.1 this.2
    simpa using this
  unfold Lib.itoa
  by_cases hn : n < 0
  · obtain ⟨h1, h2⟩ := key n.natAbs (by omega)
    rw [if_pos hn]
    refine ⟨?_, by simp; omega⟩
    unfold fldB
    have e : ltB 20 ((45 :: Lib.decDigits n.natAbs : List UInt8).length : Int) = false := decide_eq_false (by simp; omega)
    rw [e, List.all_cons, h1]; rfl
  · obtain ⟨h1, h2⟩ := key n.toNat (by omega)
    rw [if_neg hn]
    refine ⟨?_, by omega⟩
    unfold fldB
    have e : ltB 20 ((Lib.decDigits n.toNat).length : Int) = false := decide_eq_false (by omega)
    rw [e, h1]; rfl

theorem itoa_len {n : Int} (h : -9223372036854775808 ≤ n ∧ n ≤ 9223372036854775807) : (Lib.itoa n).length ≤ 20 := by
  have h2 := dec_len 18 n.natAbs (by omega)
  have h3 := dec_len 18 n.toNat (by omega)
  unfold Lib.itoa
  split
  · simp; omega
  · omega

end Go.Proofs.YtgdeaamklodkkaaDoor.Vm

/- Chapter 40: the contract of Read. -/
namespace Go.Proofs.YtgdeaamklodkkaaDoor.Vm
set_option linter.unusedVariables false
set_option linter.unusedSimpArgs false

theorem c_names40 : denC E 35 [] [] = some ([RV.p (PV.sl 1 (strsK repNames))], []) := by
  rw [denC_eq, r35]
  rfl

theorem c_Cut40 (s p : List UInt8) : denC E 38 [AV.str s, AV.str p] [] = some ([RV.p (PV.str (Lib.trimPrefix s p)), RV.p (PV.bool (Lib.hasPrefix s p))], []) := by
  rw [denC_eq]; kernel_rfl

theorem c_Atoi40 (s : List UInt8) (h : s.length ≤ 281474976710656) : denC E 40 [AV.str s] [] = some ([RV.p (PV.int .i64 (atoiP s).1), RV.p (PV.ifc (atoiP s).2)], []) := by
  rw [denC_eq]
  have : funK E (denC E) 40 [AV.str s] [] = match pAtoi [AV.str s] with | some rs => some (rs, []) | none => none := by kernel_rfl
  rw [this]
  unfold pAtoi
  simp only [h, if_true]

theorem c_Idx40 (s : List UInt8) (h : s.length ≤ 4294967280) (ha : aloneB s = true) : denC E 39 [AV.str s, AV.str [32, 10]] [] = some ([RV.p (PV.int .i64 (idxAny s [32, 10]))], []) := by
  rw [denC_eq]
  have : funK E (denC E) 39 [AV.str s, AV.str [32, 10]] [] = match pIndexAny [AV.str s, AV.str [32, 10]] with | some rs => some (rs, []) | none => none := by kernel_rfl
  rw [this]
  have : pIndexAny [AV.str s, AV.str [32, 10]] = some [.p (.int .i64 (idxAny s [32, 10]))] := by
    show (if _ then _ else _) = _
    rw [if_pos (by rw [Nat.ble_eq_true_of_le h, ha]; rfl)]
  rw [this]

theorem alone_tail : ∀ {b : UInt8} {l : List UInt8}, aloneB (b :: l) = true → aloneB l = true
  | _, [], _ => rfl
  | b, c :: l, h => by
    unfold aloneB at h
    simp only [Bool.and_eq_true] at h
    exact h.2

theorem alone_drop : ∀ (n : Nat) {l : List UInt8}, aloneB l = true → aloneB (l.drop n) = true
  | 0, _, h => h
  | n + 1, [], _ => rfl
  | n + 1, b :: l, h => alone_drop n (alone_tail h)

theorem idx_rng (cs : List UInt8) : ∀ s : List UInt8, -1 ≤ idxAny s cs ∧ idxAny s cs < s.length + 1 ∧ (idxAny s cs < 0 → idxAny s cs = -1)
  | [] => by simp [idxAny]
  | b :: l => by
    have h := idx_rng cs l
    unfold idxAny
    split
    · simp; omega
    · split
      · simp; omega
      · rename_i h1
        have : idxAny l cs ≠ -1 := by simpa using h1
        simp only [List.length_cons]
        omega

/-- What Read's loop does with these names. -/
def rdL : List (List UInt8) → List UInt8 → List Int → Option (List Int)
  | [], _, acc => some acc
  | nm :: r, rest, acc =>
    cond (Lib.hasPrefix rest nm)
      (cond (ltB (idxAny (Lib.trimPrefix rest nm) [32, 10]) 0) none
        (cond ((atoiP (cutI (Lib.trimPrefix rest nm) 0 (idxAny (Lib.trimPrefix rest nm) [32, 10]))).2 && (decide (0 ≤ (atoiP (cutI (Lib.trimPrefix rest nm) 0 (idxAny (Lib.trimPrefix rest nm) [32, 10]))).1) && decide ((atoiP (cutI (Lib.trimPrefix rest nm) 0 (idxAny (Lib.trimPrefix rest nm) [32, 10]))).1 ≤ 2147483648)))
          (rdL r (cutI (Lib.trimPrefix rest nm) (idxAny (Lib.trimPrefix rest nm) [32, 10]) (Lib.trimPrefix rest nm).length) (acc ++ [(atoiP (cutI (Lib.trimPrefix rest nm) 0 (idxAny (Lib.trimPrefix rest nm) [32, 10]))).1]))
          none)) none

theorem rdL_len : ∀ (ns : List (List UInt8)) (rest : List UInt8) (acc l : List Int), rdL ns rest acc = some l → l.length = acc.length + ns.length ∧ ((∀ x ∈ acc, 0 ≤ x ∧ x ≤ 2147483648) → ∀ x ∈ l, 0 ≤ x ∧ x ≤ 2147483648)
  | [], rest, acc, l, h => by
    simp only [rdL, Option.some.injEq] at h
    subst h
    exact ⟨rfl, fun h => h⟩
  | nm :: r, rest, acc, l, h => by
    unfold rdL at h
    cases hp : Lib.hasPrefix rest nm with
    | false => rw [hp, cond_false] at h; cases h
    | true =>
      rw [hp, cond_true] at h
      generalize Lib.trimPrefix rest nm = a at h
      generalize idxAny a [32, 10] = e at h
      cases he : ltB e 0 with
      | true => rw [he, cond_true] at h; cases h
      | false =>
        rw [he, cond_false] at h
        generalize atoiP (cutI a 0 e) = n at h
        cases hn : (n.2 && (decide (0 ≤ n.1) && decide (n.1 ≤ 2147483648))) with
        | false => rw [hn, cond_false] at h; cases h
        | true =>
          rw [hn, cond_true] at h
          obtain ⟨h1, h2⟩ := rdL_len r _ _ l h
          simp only [Bool.and_eq_true, decide_eq_true_eq] at hn
          refine ⟨by rw [h1]; simp; omega, fun hacc => h2 fun x hx => ?_⟩
          rcases List.mem_append.1 hx with hx | hx
          · exact hacc x hx
          · simp at hx; subst hx; exact hn.2

def z7 : List AV := [AV.int .i64 0, AV.int .i64 0, AV.int .i64 0, AV.int .i64 0, AV.int .i64 0, AV.int .i64 0, AV.int .i64 0]

theorem l_Read (text : List UInt8) : ∀ (ns pre : List (List UInt8)) (rest : List UInt8) (acc : List Int), pre ++ ns = repNames → aloneB rest = true → rest.length ≤ 1000 → acc.length = pre.length →
    lp E (denC E) 20 0 [] 0 { vals := [AV.str text, AV.str rest, AV.sl 1 (strsK repNames), AV.int .i64 7, AV.int .i64 (pre.length : Int)], blks := [Blk.box z7, Blk.arr 1 (intsK .i64 acc)] } =
      match rdL ns rest acc with
      | some l => some (.exit 0, { vals := [AV.str text], blks := [Blk.box z7, Blk.arr 1 (intsK .i64 l)] })
      | none => some (.ret, { vals := [AV.int .i64 74], blks := [Blk.box z7] }) := by
  intro ns
  induction ns with
  | nil =>
    intro pre rest acc hp ha hl hk
    have hpl : (pre.length : Int) = 7 := by rw [List.append_nil] at hp; rw [hp]; rfl
    unfold z7
    rw [r20_0, hpl]
    rfl
  | cons nm ns ih =>
    intro pre rest acc hp ha hl hk
    have hlen : pre.length + (ns.length + 1) = 7 := by have := congrArg List.length hp; simpa [repNames] using this
    have hget : repNames.getD pre.length [] = nm := by rw [← hp]; simp [List.getD]
    have h1 : ltB (pre.length : Int) 7 = true := by simp [ltB]; omega
    unfold z7
    rw [r20_0, h1, ctl_true, getE_strs (by rw [show repNames.length = 7 from rfl]; omega), Int.toNat_natCast, hget]
    simp only [bnd_some, ctl_true, ctl_false, ctl_and, ctl_or', ctl_or2, x_toPV, x_toCs, x_toCs2, x_toEs, x_bEs, x_bCs, x_aPV, x_aCs, x_int, x_bool, x_str, x_es, x_esn, nth_0, nth_1, nth_2, nth_3, nth_4, nth_5, nth_6, nth_7, nth_8, nth_9, y_nil, y_int, y_bool, y_str, y_sl, y_nils, y_agg, y_ownp, y_own, z_nil, z_int, z_bool, z_str, z_sl, z_nils, b_nil, b_arr, b_box1, b_box2, b_box3, b_box4, List.map_cons, List.map_nil, Bool.and_self, Bool.and_true, Bool.true_and, Bool.not_true, Bool.not_false, Bool.or_false, Bool.false_or, cond_true, cond_false, okPack, okPut, okPutBlks, okPutCells, q_isP, q_isAg, q_isBox, q_isArr, q_int, q_bool, q_str, q_sl, q_nils, e_exit, e_ret, e_nrm, e_ret_exit, e_exit_ret, e_nrm_exit, e_nrm_ret, e_exit_nrm, e_ret_nrm, Nat.zero_add, Nat.reduceAdd, noslR, noslP, noslB, noslA, List.all_cons, List.all_nil]
    rw [c_Cut40]
    simp only [bnd_some, ctl_true, ctl_false, ctl_and, ctl_or', ctl_or2, x_toPV, x_toCs, x_toCs2, x_toEs, x_bEs, x_bCs, x_aPV, x_aCs, x_int, x_bool, x_str, x_es, x_esn, nth_0, nth_1, nth_2, nth_3, nth_4, nth_5, nth_6, nth_7, nth_8, nth_9, y_nil, y_int, y_bool, y_str, y_sl, y_nils, y_agg, y_ownp, y_own, z_nil, z_int, z_bool, z_str, z_sl, z_nils, b_nil, b_arr, b_box1, b_box2, b_box3, b_box4, List.map_cons, List.map_nil, Bool.and_self, Bool.and_true, Bool.true_and, Bool.not_true, Bool.not_false, Bool.or_false, Bool.false_or, cond_true, cond_false, okPack, okPut, okPutBlks, okPutCells, q_isP, q_isAg, q_isBox, q_isArr, q_int, q_bool, q_str, q_sl, q_nils, e_exit, e_ret, e_nrm, e_ret_exit, e_exit_ret, e_nrm_exit, e_nrm_ret, e_exit_nrm, e_ret_nrm, Nat.zero_add, Nat.reduceAdd, noslR, noslP, noslB, noslA, List.all_cons, List.all_nil]
    unfold rdL
    cases hpre : Lib.hasPrefix rest nm with
    | false =>
      simp only [bnd_some, ctl_true, ctl_false, ctl_and, ctl_or', ctl_or2, x_toPV, x_toCs, x_toCs2, x_toEs, x_bEs, x_bCs, x_aPV, x_aCs, x_int, x_bool, x_str, x_es, x_esn, nth_0, nth_1, nth_2, nth_3, nth_4, nth_5, nth_6, nth_7, nth_8, nth_9, y_nil, y_int, y_bool, y_str, y_sl, y_nils, y_agg, y_ownp, y_own, z_nil, z_int, z_bool, z_str, z_sl, z_nils, b_nil, b_arr, b_box1, b_box2, b_box3, b_box4, List.map_cons, List.map_nil, Bool.and_self, Bool.and_true, Bool.true_and, Bool.not_true, Bool.not_false, Bool.or_false, Bool.false_or, cond_true, cond_false, okPack, okPut, okPutBlks, okPutCells, q_isP, q_isAg, q_isBox, q_isArr, q_int, q_bool, q_str, q_sl, q_nils, e_exit, e_ret, e_nrm, e_ret_exit, e_exit_ret, e_nrm_exit, e_nrm_ret, e_exit_nrm, e_ret_nrm, Nat.zero_add, Nat.reduceAdd, noslR, noslP, noslB, noslA, List.all_cons, List.all_nil]
    | true =>
      have hal : aloneB (Lib.trimPrefix rest nm) = true := by
        unfold Lib.trimPrefix
        rw [if_pos hpre]
        exact alone_drop _ ha
      have hll : (Lib.trimPrefix rest nm).length ≤ 1000 := by
        unfold Lib.trimPrefix
        rw [if_pos hpre]
        simp; omega
      generalize Lib.trimPrefix rest nm = a at *
      simp only [bnd_some, ctl_true, ctl_false, ctl_and, ctl_or', ctl_or2, x_toPV, x_toCs, x_toCs2, x_toEs, x_bEs, x_bCs, x_aPV, x_aCs, x_int, x_bool, x_str, x_es, x_esn, nth_0, nth_1, nth_2, nth_3, nth_4, nth_5, nth_6, nth_7, nth_8, nth_9, y_nil, y_int, y_bool, y_str, y_sl, y_nils, y_agg, y_ownp, y_own, z_nil, z_int, z_bool, z_str, z_sl, z_nils, b_nil, b_arr, b_box1, b_box2, b_box3, b_box4, List.map_cons, List.map_nil, Bool.and_self, Bool.and_true, Bool.true_and, Bool.not_true, Bool.not_false, Bool.or_false, Bool.false_or, cond_true, cond_false, okPack, okPut, okPutBlks, okPutCells, q_isP, q_isAg, q_isBox, q_isArr, q_int, q_bool, q_str, q_sl, q_nils, e_exit, e_ret, e_nrm, e_ret_exit, e_exit_ret, e_nrm_exit, e_nrm_ret, e_exit_nrm, e_ret_nrm, Nat.zero_add, Nat.reduceAdd, noslR, noslP, noslB, noslA, List.all_cons, List.all_nil]
      rw [c_Idx40 a (by omega) hal]
      simp only [bnd_some, ctl_true, ctl_false, ctl_and, ctl_or', ctl_or2, x_toPV, x_toCs, x_toCs2, x_toEs, x_bEs, x_bCs, x_aPV, x_aCs, x_int, x_bool, x_str, x_es, x_esn, nth_0, nth_1, nth_2, nth_3, nth_4, nth_5, nth_6, nth_7, nth_8, nth_9, y_nil, y_int, y_bool, y_str, y_sl, y_nils, y_agg, y_ownp, y_own, z_nil, z_int, z_bool, z_str, z_sl, z_nils, b_nil, b_arr, b_box1, b_box2, b_box3, b_box4, List.map_cons, List.map_nil, Bool.and_self, Bool.and_true, Bool.true_and, Bool.not_true, Bool.not_false, Bool.or_false, Bool.false_or, cond_true, cond_false, okPack, okPut, okPutBlks, okPutCells, q_isP, q_isAg, q_isBox, q_isArr, q_int, q_bool, q_str, q_sl, q_nils, e_exit, e_ret, e_nrm, e_ret_exit, e_exit_ret, e_nrm_exit, e_nrm_ret, e_exit_nrm, e_ret_nrm, Nat.zero_add, Nat.reduceAdd, noslR, noslP, noslB, noslA, List.all_cons, List.all_nil]
      obtain ⟨g1, g2, g3⟩ := idx_rng [32, 10] a
      generalize idxAny a [32, 10] = e at *
      by_cases he : e < 0
      · have h2 : ltB e 0 = true := by simpa [ltB] using he
        simp only [h2, bnd_some, ctl_true, ctl_false, ctl_and, ctl_or', ctl_or2, x_toPV, x_toCs, x_toCs2, x_toEs, x_bEs, x_bCs, x_aPV, x_aCs, x_int, x_bool, x_str, x_es, x_esn, nth_0, nth_1, nth_2, nth_3, nth_4, nth_5, nth_6, nth_7, nth_8, nth_9, y_nil, y_int, y_bool, y_str, y_sl, y_nils, y_agg, y_ownp, y_own, z_nil, z_int, z_bool, z_str, z_sl, z_nils, b_nil, b_arr, b_box1, b_box2, b_box3, b_box4, List.map_cons, List.map_nil, Bool.and_self, Bool.and_true, Bool.true_and, Bool.not_true, Bool.not_false, Bool.or_false, Bool.false_or, cond_true, cond_false, okPack, okPut, okPutBlks, okPutCells, q_isP, q_isAg, q_isBox, q_isArr, q_int, q_bool, q_str, q_sl, q_nils, e_exit, e_ret, e_nrm, e_ret_exit, e_exit_ret, e_nrm_exit, e_nrm_ret, e_exit_nrm, e_ret_nrm, Nat.zero_add, Nat.reduceAdd, noslR, noslP, noslB, noslA, List.all_cons, List.all_nil]
      · have h2 : ltB e 0 = false := by simpa [ltB] using he
        have h3 : leB 0 e = true := by simp [leB]; omega
        have h4 : leB e (a.length : Int) = true := by simp [leB]; omega
        have h5 : leB (a.length : Int) (a.length : Int) = true := by simp [leB]
        simp only [h2, h3, h4, h5, bnd_some, ctl_true, ctl_false, ctl_and, ctl_or', ctl_or2, x_toPV, x_toCs, x_toCs2, x_toEs, x_bEs, x_bCs, x_aPV, x_aCs, x_int, x_bool, x_str, x_es, x_esn, nth_0, nth_1, nth_2, nth_3, nth_4, nth_5, nth_6, nth_7, nth_8, nth_9, y_nil, y_int, y_bool, y_str, y_sl, y_nils, y_agg, y_ownp, y_own, z_nil, z_int, z_bool, z_str, z_sl, z_nils, b_nil, b_arr, b_box1, b_box2, b_box3, b_box4, List.map_cons, List.map_nil, Bool.and_self, Bool.and_true, Bool.true_and, Bool.not_true, Bool.not_false, Bool.or_false, Bool.false_or, cond_true, cond_false, okPack, okPut, okPutBlks, okPutCells, q_isP, q_isAg, q_isBox, q_isArr, q_int, q_bool, q_str, q_sl, q_nils, e_exit, e_ret, e_nrm, e_ret_exit, e_exit_ret, e_nrm_exit, e_nrm_ret, e_exit_nrm, e_ret_nrm, Nat.zero_add, Nat.reduceAdd, noslR, noslP, noslB, noslA, List.all_cons, List.all_nil]
        rw [c_Atoi40 _ (by unfold cutI; simp; omega)]
        have ok1 : ∀ b, okR [RSh.one (Sh.int .i64), RSh.one Sh.ifc] [RV.p (PV.int .i64 (atoiP (cutI a 0 e)).1), RV.p (PV.ifc b)] = true := fun _ => rfl
        have e0 : ∀ b, PV.toNil (.ifc b) = b := fun _ => rfl
        have okB : ∀ b, okR [RSh.one Sh.ifc] [RV.p (PV.ifc b)] = true := fun _ => rfl
        simp only [e0, okB, bnd_some, ctl_true, ctl_false, ctl_and, ctl_or', ctl_or2, x_toPV, x_toCs, x_toCs2, x_toEs, x_bEs, x_bCs, x_aPV, x_aCs, x_int, x_bool, x_str, x_es, x_esn, nth_0, nth_1, nth_2, nth_3, nth_4, nth_5, nth_6, nth_7, nth_8, nth_9, y_nil, y_int, y_bool, y_str, y_sl, y_nils, y_agg, y_ownp, y_own, z_nil, z_int, z_bool, z_str, z_sl, z_nils, b_nil, b_arr, b_box1, b_box2, b_box3, b_box4, List.map_cons, List.map_nil, Bool.and_self, Bool.and_true, Bool.true_and, Bool.not_true, Bool.not_false, Bool.or_false, Bool.false_or, cond_true, cond_false, okPack, okPut, okPutBlks, okPutCells, q_isP, q_isAg, q_isBox, q_isArr, q_int, q_bool, q_str, q_sl, q_nils, e_exit, e_ret, e_nrm, e_ret_exit, e_exit_ret, e_nrm_exit, e_nrm_ret, e_exit_nrm, e_ret_nrm, Nat.zero_add, Nat.reduceAdd, noslR, noslP, noslB, noslA, List.all_cons, List.all_nil]
        have hng : okR [RSh.one (Sh.int .i64), RSh.one Sh.ifc] [RV.p (PV.int .i64 (atoiP (cutI a 0 e)).1), RV.p (PV.ifc (atoiP (cutI a 0 e)).2)] = true := ok1 _
        generalize atoiP (cutI a 0 e) = n at *
        obtain ⟨n1, n2⟩ := n
        cases n2 with
        | false =>
          simp only [okB, Bool.not_true, Bool.not_false, Bool.false_and, bnd_some, ctl_true, ctl_false, ctl_and, ctl_or', ctl_or2, x_toPV, x_toCs, x_toCs2, x_toEs, x_bEs, x_bCs, x_aPV, x_aCs, x_int, x_bool, x_str, x_es, x_esn, nth_0, nth_1, nth_2, nth_3, nth_4, nth_5, nth_6, nth_7, nth_8, nth_9, y_nil, y_int, y_bool, y_str, y_sl, y_nils, y_agg, y_ownp, y_own, z_nil, z_int, z_bool, z_str, z_sl, z_nils, b_nil, b_arr, b_box1, b_box2, b_box3, b_box4, List.map_cons, List.map_nil, Bool.and_self, Bool.and_true, Bool.true_and, Bool.not_true, Bool.not_false, Bool.or_false, Bool.false_or, cond_true, cond_false, okPack, okPut, okPutBlks, okPutCells, q_isP, q_isAg, q_isBox, q_isArr, q_int, q_bool, q_str, q_sl, q_nils, e_exit, e_ret, e_nrm, e_ret_exit, e_exit_ret, e_nrm_exit, e_nrm_ret, e_exit_nrm, e_ret_nrm, Nat.zero_add, Nat.reduceAdd, noslR, noslP, noslB, noslA, List.all_cons, List.all_nil]
        | true =>
          simp only [okB, Bool.not_true, Bool.not_false, bnd_some, ctl_true, ctl_false, ctl_and, ctl_or', ctl_or2, x_toPV, x_toCs, x_toCs2, x_toEs, x_bEs, x_bCs, x_aPV, x_aCs, x_int, x_bool, x_str, x_es, x_esn, nth_0, nth_1, nth_2, nth_3, nth_4, nth_5, nth_6, nth_7, nth_8, nth_9, y_nil, y_int, y_bool, y_str, y_sl, y_nils, y_agg, y_ownp, y_own, z_nil, z_int, z_bool, z_str, z_sl, z_nils, b_nil, b_arr, b_box1, b_box2, b_box3, b_box4, List.map_cons, List.map_nil, Bool.and_self, Bool.and_true, Bool.true_and, Bool.not_true, Bool.not_false, Bool.or_false, Bool.false_or, cond_true, cond_false, okPack, okPut, okPutBlks, okPutCells, q_isP, q_isAg, q_isBox, q_isArr, q_int, q_bool, q_str, q_sl, q_nils, e_exit, e_ret, e_nrm, e_ret_exit, e_exit_ret, e_nrm_exit, e_nrm_ret, e_exit_nrm, e_ret_nrm, Nat.zero_add, Nat.reduceAdd, noslR, noslP, noslB, noslA, List.all_cons, List.all_nil]
          rw [c_possible]
          simp only [bnd_some, ctl_true, ctl_false, ctl_and, ctl_or', ctl_or2, x_toPV, x_toCs, x_toCs2, x_toEs, x_bEs, x_bCs, x_aPV, x_aCs, x_int, x_bool, x_str, x_es, x_esn, nth_0, nth_1, nth_2, nth_3, nth_4, nth_5, nth_6, nth_7, nth_8, nth_9, y_nil, y_int, y_bool, y_str, y_sl, y_nils, y_agg, y_ownp, y_own, z_nil, z_int, z_bool, z_str, z_sl, z_nils, b_nil, b_arr, b_box1, b_box2, b_box3, b_box4, List.map_cons, List.map_nil, Bool.and_self, Bool.and_true, Bool.true_and, Bool.not_true, Bool.not_false, Bool.or_false, Bool.false_or, cond_true, cond_false, okPack, okPut, okPutBlks, okPutCells, q_isP, q_isAg, q_isBox, q_isArr, q_int, q_bool, q_str, q_sl, q_nils, e_exit, e_ret, e_nrm, e_ret_exit, e_exit_ret, e_nrm_exit, e_nrm_ret, e_exit_nrm, e_ret_nrm, Nat.zero_add, Nat.reduceAdd, noslR, noslP, noslB, noslA, List.all_cons, List.all_nil]
          cases hq : (decide (0 ≤ n1) && decide (n1 ≤ 2147483648)) with
          | false =>
            simp only [bnd_some, ctl_true, ctl_false, ctl_and, ctl_or', ctl_or2, x_toPV, x_toCs, x_toCs2, x_toEs, x_bEs, x_bCs, x_aPV, x_aCs, x_int, x_bool, x_str, x_es, x_esn, nth_0, nth_1, nth_2, nth_3, nth_4, nth_5, nth_6, nth_7, nth_8, nth_9, y_nil, y_int, y_bool, y_str, y_sl, y_nils, y_agg, y_ownp, y_own, z_nil, z_int, z_bool, z_str, z_sl, z_nils, b_nil, b_arr, b_box1, b_box2, b_box3, b_box4, List.map_cons, List.map_nil, Bool.and_self, Bool.and_true, Bool.true_and, Bool.not_true, Bool.not_false, Bool.or_false, Bool.false_or, cond_true, cond_false, okPack, okPut, okPutBlks, okPutCells, q_isP, q_isAg, q_isBox, q_isArr, q_int, q_bool, q_str, q_sl, q_nils, e_exit, e_ret, e_nrm, e_ret_exit, e_exit_ret, e_nrm_exit, e_nrm_ret, e_exit_nrm, e_ret_nrm, Nat.zero_add, Nat.reduceAdd, noslR, noslP, noslB, noslA, List.all_cons, List.all_nil]
          | true =>
            have h6 : leN (((intsK .i64 acc).length + 1) * 8) 140737488355328 = true := by rw [intsK_length]; simp [leN]; omega
            have h7 : intsK .i64 acc ++ [[PV.int .i64 n1]] = intsK .i64 (acc ++ [n1]) := by simp [intsK]
            have h8 : IntKind.i64.wrap ((pre.length : Int) + 1) = (((pre ++ [nm]).length : Nat) : Int) := by rw [w64 (by omega)]; simp
            simp only [h6, h7, h8, bnd_some, ctl_true, ctl_false, ctl_and, ctl_or', ctl_or2, x_toPV, x_toCs, x_toCs2, x_toEs, x_bEs, x_bCs, x_aPV, x_aCs, x_int, x_bool, x_str, x_es, x_esn, nth_0, nth_1, nth_2, nth_3, nth_4, nth_5, nth_6, nth_7, nth_8, nth_9, y_nil, y_int, y_bool, y_str, y_sl, y_nils, y_agg, y_ownp, y_own, z_nil, z_int, z_bool, z_str, z_sl, z_nils, b_nil, b_arr, b_box1, b_box2, b_box3, b_box4, List.map_cons, List.map_nil, Bool.and_self, Bool.and_true, Bool.true_and, Bool.not_true, Bool.not_false, Bool.or_false, Bool.false_or, cond_true, cond_false, okPack, okPut, okPutBlks, okPutCells, q_isP, q_isAg, q_isBox, q_isArr, q_int, q_bool, q_str, q_sl, q_nils, e_exit, e_ret, e_nrm, e_ret_exit, e_exit_ret, e_nrm_exit, e_nrm_ret, e_exit_nrm, e_ret_nrm, Nat.zero_add, Nat.reduceAdd, noslR, noslP, noslB, noslA, List.all_cons, List.all_nil]
            have := ih (pre ++ [nm]) (cutI a e (a.length : Int)) (acc ++ [n1]) (by rw [List.append_assoc]; exact hp) (by unfold cutI; rw [Int.toNat_natCast, List.take_length]; exact alone_drop _ hal) (by unfold cutI; simp; omega) (by simp [hk])
            unfold z7 at this
            exact this

/-! ### Read of a text that Text gave -/
theorem pre_app (p x : List UInt8) : Lib.hasPrefix (p ++ x) p = true ∧ Lib.trimPrefix (p ++ x) p = x := by
  have h : Lib.hasPrefix (p ++ x) p = true := by
    unfold Lib.hasPrefix
    rw [List.isPrefixOf_iff_prefix]
    exact ⟨x, rfl⟩
  refine ⟨h, ?_⟩
  unfold Lib.trimPrefix
  rw [if_pos h]
  simp

theorem idx_at : ∀ (d : List UInt8) (c : UInt8) (y : List UInt8), (∀ b ∈ d, b ≠ 32 ∧ b ≠ 10) → (c = 32 ∨ c = 10) → idxAny (d ++ c :: y) [32, 10] = d.length
  | [], c, y, _, hc => by
    rcases hc with rfl | rfl <;> rfl
  | b :: d, c, y, hd, hc => by
    have ih := idx_at d c y (fun x hx => hd x (.tail _ hx)) hc
    obtain ⟨h1, h2⟩ := hd b (.head _)
    have e : idxAny (b :: (d ++ c :: y)) [32, 10] = if [32, 10].contains b then 0 else if idxAny (d ++ c :: y) [32, 10] == -1 then -1 else idxAny (d ++ c :: y) [32, 10] + 1 := rfl
    rw [List.cons_append, e, if_neg (by simp [h1, h2]), ih, if_neg (by simp <;> omega)]
    simp

theorem itoa_byte {n : Int} (hn : 0 ≤ n) : ∀ b ∈ Lib.itoa n, isD b = true := by
  have h := (dec_spec n.toNat).1
  unfold Lib.itoa
  rw [if_neg (by omega)]
  exact fun b hb => List.all_eq_true.1 h b hb

theorem rdL_step {nm : List UInt8} {r : List (List UInt8)} {Y : List UInt8} {acc : List Int} {n : Int} (hn : 0 ≤ n ∧ n ≤ 2147483648) (hY : ∃ c y, Y = c :: y ∧ (c = 32 ∨ c = 10)) :
    rdL (nm :: r) (nm ++ (Lib.itoa n ++ Y)) acc = rdL r Y (acc ++ [n]) := by
  obtain ⟨c, y, rfl, hc⟩ := hY
  obtain ⟨h1, h2⟩ := pre_app nm (Lib.itoa n ++ c :: y)
  have h3 := idx_at (Lib.itoa n) c y (fun b hb => by
    have := itoa_byte hn.1 b hb
    constructor <;> (intro e; subst e; exact absurd this (by decide))) hc
  have h4 : ltB ((Lib.itoa n).length : Int) 0 = false := by simp [ltB] <;> omega
  have h5 : cutI (Lib.itoa n ++ c :: y) 0 ((Lib.itoa n).length : Int) = Lib.itoa n := by simp [cutI]
  have h6 : cutI (Lib.itoa n ++ c :: y) ((Lib.itoa n).length : Int) ((Lib.itoa n ++ c :: y).length : Int) = c :: y := by unfold cutI; rw [Int.toNat_natCast, Int.toNat_natCast, List.take_length]; simp
  have h7 : atoiP (Lib.itoa n) = (n, true) := by unfold atoiP; rw [atoi_itoa (by omega)]
  have h8 : (decide (0 ≤ n) && decide (n ≤ 2147483648)) = true := by simp; omega
  conv => lhs; unfold rdL
  rw [h1, h2, h3, h4, h5, h6, h7]
  simp only [h8, cond_true, cond_false, Bool.and_self]

theorem repB_eq (a0 a1 a2 a3 a4 a5 a6 : Int) : repB a0 a1 a2 a3 a4 a5 a6 = [114, 101, 100, 32] ++ (Lib.itoa a1 ++ ([32, 121, 101, 108, 108, 111, 119, 32] ++ (Lib.itoa a2 ++ ([32, 103, 114, 101, 101, 110, 32] ++ (Lib.itoa a3 ++ ([32, 110, 111, 110, 101, 32] ++ (Lib.itoa a0 ++ ([10, 119, 111, 114, 115, 116, 32] ++ (Lib.itoa a4 ++ ([10, 98, 114, 111, 107, 101, 110, 32] ++ (Lib.itoa a5 ++ ([10, 115, 104, 111, 114, 116, 32] ++ (Lib.itoa a6 ++ [10]))))))))))))) := by
  simp [repB, repNames, repNums]

def okN (n : Int) : Prop := 0 ≤ n ∧ n ≤ 2147483648

theorem rdL_rep {a0 a1 a2 a3 a4 a5 a6 : Int} (h0 : okN a0) (h1 : okN a1) (h2 : okN a2) (h3 : okN a3) (h4 : okN a4) (h5 : okN a5) (h6 : okN a6) : rdL repNames (repB a0 a1 a2 a3 a4 a5 a6) [] = some [a1, a2, a3, a0, a4, a5, a6] := by
  rw [repB_eq]
  unfold repNames
  exact (rdL_step h1 ⟨_, _, rfl, .inl rfl⟩).trans ((rdL_step h2 ⟨_, _, rfl, .inl rfl⟩).trans ((rdL_step h3 ⟨_, _, rfl, .inl rfl⟩).trans ((rdL_step h0 ⟨_, _, rfl, .inr rfl⟩).trans ((rdL_step h4 ⟨_, _, rfl, .inr rfl⟩).trans ((rdL_step h5 ⟨_, _, rfl, .inr rfl⟩).trans (rdL_step h6 ⟨_, _, rfl, .inr rfl⟩))))))

theorem okN_i64 {a0 a1 a2 a3 a4 a5 a6 : Int} (h0 : okN a0) (h1 : okN a1) (h2 : okN a2) (h3 : okN a3) (h4 : okN a4) (h5 : okN a5) (h6 : okN a6) : ([a0, a1, a2, a3, a4, a5, a6].all i64B) = true := by
  have : ∀ n, okN n → i64B n = true := fun n h => by unfold i64B; unfold okN at h; simp; omega
  simp [this _ h0, this _ h1, this _ h2, this _ h3, this _ h4, this _ h5, this _ h6]

theorem c_Read40 (text : List UInt8) (ha : aloneB text = true) (hl : text.length ≤ 1000) :
    (∃ q0 q1 q2 q3 q4 q5 q6, okN q0 ∧ okN q1 ∧ okN q2 ∧ okN q3 ∧ okN q4 ∧ okN q5 ∧ okN q6 ∧ repB q0 q1 q2 q3 q4 q5 q6 = text ∧
      denC E 20 [AV.str text] [] = some ([RV.agg [PV.int .i64 q0, PV.int .i64 q1, PV.int .i64 q2, PV.int .i64 q3, PV.int .i64 q4, PV.int .i64 q5, PV.int .i64 q6], RV.p (PV.int .i64 0)], [])) ∨
    ((∀ q0 q1 q2 q3 q4 q5 q6, okN q0 → okN q1 → okN q2 → okN q3 → okN q4 → okN q5 → okN q6 → repB q0 q1 q2 q3 q4 q5 q6 ≠ text) ∧
      denC E 20 [AV.str text] [] = some ([RV.agg [PV.int .i64 0, PV.int .i64 0, PV.int .i64 0, PV.int .i64 0, PV.int .i64 0, PV.int .i64 0, PV.int .i64 0], RV.p (PV.int .i64 74)], [])) := by
  have hlp := l_Read text repNames [] text [] rfl ha hl rfl
  unfold z7 at hlp
  have e0 : (([] : List (List UInt8)).length : Int) = 0 := rfl
  have e1 : intsK .i64 [] = reps [PV.int .i64 0] 0 := rfl
  have e2 : ((strsK repNames).length : Int) = 7 := rfl
  rw [e0, e1] at hlp
  have b1 : leB 7 9223372036854775807 = true := rfl
  have b2 : leB (7 * 8) 140737488355328 = true := rfl
  have key : ∀ X, denC E 20 [AV.str text] [] = X ↔ denC E 20 [AV.str text] [] = X := fun X => Iff.rfl
  rw [denC_eq, r20, c_names40]
  simp only [e2, b1, b2, bnd_some, ctl_true, ctl_false, ctl_and, ctl_or', ctl_or2, x_toPV, x_toCs, x_toCs2, x_toEs, x_bEs, x_bCs, x_aPV, x_aCs, x_int, x_bool, x_str, x_es, x_esn, nth_0, nth_1, nth_2, nth_3, nth_4, nth_5, nth_6, nth_7, nth_8, nth_9, y_nil, y_int, y_bool, y_str, y_sl, y_nils, y_agg, y_ownp, y_own, z_nil, z_int, z_bool, z_str, z_sl, z_nils, b_nil, b_arr, b_box1, b_box2, b_box3, b_box4, List.map_cons, List.map_nil, Bool.and_self, Bool.and_true, Bool.true_and, Bool.not_true, Bool.not_false, Bool.or_false, Bool.false_or, cond_true, cond_false, okPack, okPut, okPutBlks, okPutCells, q_isP, q_isAg, q_isBox, q_isArr, q_int, q_bool, q_str, q_sl, q_nils, e_exit, e_ret, e_nrm, e_ret_exit, e_exit_ret, e_nrm_exit, e_nrm_ret, e_exit_nrm, e_ret_nrm, Nat.zero_add, Nat.reduceAdd, noslR, noslP, noslB, noslA, List.all_cons, List.all_nil]
  rw [hlp]
  cases hr : rdL repNames text [] with
  | none =>
    refine .inr ⟨fun q0 q1 q2 q3 q4 q5 q6 h0 h1 h2 h3 h4 h5 h6 he => ?_, ?_⟩
    · rw [← he, rdL_rep h0 h1 h2 h3 h4 h5 h6] at hr; cases hr
    · simp only [bnd_some, ctl_true, ctl_false, ctl_and, ctl_or', ctl_or2, x_toPV, x_toCs, x_toCs2, x_toEs, x_bEs, x_bCs, x_aPV, x_aCs, x_int, x_bool, x_str, x_es, x_esn, nth_0, nth_1, nth_2, nth_3, nth_4, nth_5, nth_6, nth_7, nth_8, nth_9, y_nil, y_int, y_bool, y_str, y_sl, y_nils, y_agg, y_ownp, y_own, z_nil, z_int, z_bool, z_str, z_sl, z_nils, b_nil, b_arr, b_box1, b_box2, b_box3, b_box4, List.map_cons, List.map_nil, Bool.and_self, Bool.and_true, Bool.true_and, Bool.not_true, Bool.not_false, Bool.or_false, Bool.false_or, cond_true, cond_false, okPack, okPut, okPutBlks, okPutCells, q_isP, q_isAg, q_isBox, q_isArr, q_int, q_bool, q_str, q_sl, q_nils, e_exit, e_ret, e_nrm, e_ret_exit, e_exit_ret, e_nrm_exit, e_nrm_ret, e_exit_nrm, e_ret_nrm, Nat.zero_add, Nat.reduceAdd, noslR, noslP, noslB, noslA, List.all_cons, List.all_nil]
  | some l =>
    obtain ⟨g1, g2⟩ := rdL_len _ _ _ _ hr
    have g2 := g2 (fun x hx => (List.not_mem_nil hx).elim)
    match l, g1, g2 with
    | [n0, n1, n2, n3, n4, n5, n6], _, g2 =>
      have k0 : okN n0 := g2 n0 (by simp)
      have k1 : okN n1 := g2 n1 (by simp)
      have k2 : okN n2 := g2 n2 (by simp)
      have k3 : okN n3 := g2 n3 (by simp)
      have k4 : okN n4 := g2 n4 (by simp)
      have k5 : okN n5 := g2 n5 (by simp)
      have k6 : okN n6 := g2 n6 (by simp)
      have hT := c_Text40 n3 n0 n1 n2 n4 n5 n6 (okN_i64 k3 k0 k1 k2 k4 k5 k6)
      have l3 : ltB 3 (((intsK .i64 [n0, n1, n2, n3, n4, n5, n6]).length : Nat) : Int) = true := rfl
      have l0 : ltB 0 (((intsK .i64 [n0, n1, n2, n3, n4, n5, n6]).length : Nat) : Int) = true := rfl
      have l1 : ltB 1 (((intsK .i64 [n0, n1, n2, n3, n4, n5, n6]).length : Nat) : Int) = true := rfl
      have l2 : ltB 2 (((intsK .i64 [n0, n1, n2, n3, n4, n5, n6]).length : Nat) : Int) = true := rfl
      have l4 : ltB 4 (((intsK .i64 [n0, n1, n2, n3, n4, n5, n6]).length : Nat) : Int) = true := rfl
      have l5 : ltB 5 (((intsK .i64 [n0, n1, n2, n3, n4, n5, n6]).length : Nat) : Int) = true := rfl
      have l6 : ltB 6 (((intsK .i64 [n0, n1, n2, n3, n4, n5, n6]).length : Nat) : Int) = true := rfl
      have w0 : nth [] (intsK .i64 [n0, n1, n2, n3, n4, n5, n6]) 0 = [PV.int .i64 n0] := rfl
      have w1 : nth [] (intsK .i64 [n0, n1, n2, n3, n4, n5, n6]) 1 = [PV.int .i64 n1] := rfl
      have w2 : nth [] (intsK .i64 [n0, n1, n2, n3, n4, n5, n6]) 2 = [PV.int .i64 n2] := rfl
      have w3 : nth [] (intsK .i64 [n0, n1, n2, n3, n4, n5, n6]) 3 = [PV.int .i64 n3] := rfl
      have w4 : nth [] (intsK .i64 [n0, n1, n2, n3, n4, n5, n6]) 4 = [PV.int .i64 n4] := rfl
      have w5 : nth [] (intsK .i64 [n0, n1, n2, n3, n4, n5, n6]) 5 = [PV.int .i64 n5] := rfl
      have w6 : nth [] (intsK .i64 [n0, n1, n2, n3, n4, n5, n6]) 6 = [PV.int .i64 n6] := rfl
      have td : ∀ n : Int, okCs [Sh.int .i64] (List.take 1 (List.drop 0 [PV.int .i64 n])) = true := fun n => rfl
      simp only [bnd_some, ctl_true, ctl_false, ctl_and, ctl_or', ctl_or2, x_toPV, x_toCs, x_toCs2, x_toEs, x_bEs, x_bCs, x_aPV, x_aCs, x_int, x_bool, x_str, x_es, x_esn, nth_0, nth_1, nth_2, nth_3, nth_4, nth_5, nth_6, nth_7, nth_8, nth_9, y_nil, y_int, y_bool, y_str, y_sl, y_nils, y_agg, y_ownp, y_own, z_nil, z_int, z_bool, z_str, z_sl, z_nils, b_nil, b_arr, b_box1, b_box2, b_box3, b_box4, List.map_cons, List.map_nil, Bool.and_self, Bool.and_true, Bool.true_and, Bool.not_true, Bool.not_false, Bool.or_false, Bool.false_or, cond_true, cond_false, okPack, okPut, okPutBlks, okPutCells, q_isP, q_isAg, q_isBox, q_isArr, q_int, q_bool, q_str, q_sl, q_nils, e_exit, e_ret, e_nrm, e_ret_exit, e_exit_ret, e_nrm_exit, e_nrm_ret, e_exit_nrm, e_ret_nrm, Nat.zero_add, Nat.reduceAdd, noslR, noslP, noslB, noslA, List.all_cons, List.all_nil, l0, l1, l2, l3, l4, l5, l6, w0, w1, w2, w3, w4, w5, w6, td]
      rw [hT]
      simp only [bnd_some, ctl_true, ctl_false, ctl_and, ctl_or', ctl_or2, x_toPV, x_toCs, x_toCs2, x_toEs, x_bEs, x_bCs, x_aPV, x_aCs, x_int, x_bool, x_str, x_es, x_esn, nth_0, nth_1, nth_2, nth_3, nth_4, nth_5, nth_6, nth_7, nth_8, nth_9, y_nil, y_int, y_bool, y_str, y_sl, y_nils, y_agg, y_ownp, y_own, z_nil, z_int, z_bool, z_str, z_sl, z_nils, b_nil, b_arr, b_box1, b_box2, b_box3, b_box4, List.map_cons, List.map_nil, Bool.and_self, Bool.and_true, Bool.true_and, Bool.not_true, Bool.not_false, Bool.or_false, Bool.false_or, cond_true, cond_false, okPack, okPut, okPutBlks, okPutCells, q_isP, q_isAg, q_isBox, q_isArr, q_int, q_bool, q_str, q_sl, q_nils, e_exit, e_ret, e_nrm, e_ret_exit, e_exit_ret, e_nrm_exit, e_nrm_ret, e_exit_nrm, e_ret_nrm, Nat.zero_add, Nat.reduceAdd, noslR, noslP, noslB, noslA, List.all_cons, List.all_nil]
      by_cases he : repB n3 n0 n1 n2 n4 n5 n6 = text
      · have hb : (repB n3 n0 n1 n2 n4 n5 n6 == text) = true := by simpa using he
        simp only [hb, bnd_some, ctl_true, ctl_false, ctl_and, ctl_or', ctl_or2, x_toPV, x_toCs, x_toCs2, x_toEs, x_bEs, x_bCs, x_aPV, x_aCs, x_int, x_bool, x_str, x_es, x_esn, nth_0, nth_1, nth_2, nth_3, nth_4, nth_5, nth_6, nth_7, nth_8, nth_9, y_nil, y_int, y_bool, y_str, y_sl, y_nils, y_agg, y_ownp, y_own, z_nil, z_int, z_bool, z_str, z_sl, z_nils, b_nil, b_arr, b_box1, b_box2, b_box3, b_box4, List.map_cons, List.map_nil, Bool.and_self, Bool.and_true, Bool.true_and, Bool.not_true, Bool.not_false, Bool.or_false, Bool.false_or, cond_true, cond_false, okPack, okPut, okPutBlks, okPutCells, q_isP, q_isAg, q_isBox, q_isArr, q_int, q_bool, q_str, q_sl, q_nils, e_exit, e_ret, e_nrm, e_ret_exit, e_exit_ret, e_nrm_exit, e_nrm_ret, e_exit_nrm, e_ret_nrm, Nat.zero_add, Nat.reduceAdd, noslR, noslP, noslB, noslA, List.all_cons, List.all_nil]
        exact .inl ⟨n3, n0, n1, n2, n4, n5, n6, k3, k0, k1, k2, k4, k5, k6, he, rfl⟩
      · have hb : (repB n3 n0 n1 n2 n4 n5 n6 == text) = false := by simpa using he
        simp only [hb, bnd_some, ctl_true, ctl_false, ctl_and, ctl_or', ctl_or2, x_toPV, x_toCs, x_toCs2, x_toEs, x_bEs, x_bCs, x_aPV, x_aCs, x_int, x_bool, x_str, x_es, x_esn, nth_0, nth_1, nth_2, nth_3, nth_4, nth_5, nth_6, nth_7, nth_8, nth_9, y_nil, y_int, y_bool, y_str, y_sl, y_nils, y_agg, y_ownp, y_own, z_nil, z_int, z_bool, z_str, z_sl, z_nils, b_nil, b_arr, b_box1, b_box2, b_box3, b_box4, List.map_cons, List.map_nil, Bool.and_self, Bool.and_true, Bool.true_and, Bool.not_true, Bool.not_false, Bool.or_false, Bool.false_or, cond_true, cond_false, okPack, okPut, okPutBlks, okPutCells, q_isP, q_isAg, q_isBox, q_isArr, q_int, q_bool, q_str, q_sl, q_nils, e_exit, e_ret, e_nrm, e_ret_exit, e_exit_ret, e_nrm_exit, e_nrm_ret, e_exit_nrm, e_ret_nrm, Nat.zero_add, Nat.reduceAdd, noslR, noslP, noslB, noslA, List.all_cons, List.all_nil]
        refine .inr ⟨fun q0 q1 q2 q3 q4 q5 q6 h0 h1 h2 h3 h4 h5 h6 he2 => ?_, by first | rfl | trivial⟩
        rw [← he2, rdL_rep h0 h1 h2 h3 h4 h5 h6] at hr
        cases hr
        exact he he2

end Go.Proofs.YtgdeaamklodkkaaDoor.Vm
