import Derived.Test.YtiijghkfinkphaaGreatDoorEnv
import Derived.KernelRfl
import Derived.Test.YtiijghkfinkphaaGreatDoorSentC
import Derived.Test.YtiijghkfinkphaaGreatDoorRaw
import Derived.Test.YtiijghkfinkphaaGreatDoorPrims
/- The raw theorems of the two functions Sum, by hand (the printing program's kernel questions are too deep at u64 products). -/
namespace Go.Proofs.YtiijghkfinkphaaGreatDoor.Vm
open Go
set_option maxRecDepth 100000
set_option linter.unusedVariables false

theorem r48_0 (F : Fun) (x0 : Int) (s : List UInt8) (x5 : Int) : lp E F 48 0 [] 0
  { vals := [AV.int IntKind.u64 x0, AV.str s, AV.int IntKind.i64 x5], blks := [] } =
  ctl (ltB x5 (s.length : Int))
    (ctl (leB 0 x5 && ltB x5 (s.length : Int))
      (lp E F 48 0 [] 0
        { vals := [AV.int IntKind.u64 (IntKind.u64.wrap (IntKind.u64.wrap (↑(BitVec.ofInt 64 x0 ^^^ BitVec.ofInt 64 (IntKind.u64.wrap (byteAt s x5))).toNat : Int) * 1099511628211)), AV.str s, AV.int IntKind.i64 (IntKind.i64.wrap (x5 + 1))], blks := [] })
      Option.none)
    (Option.some (Ex.exit 0, { vals := [AV.int IntKind.u64 x0], blks := [] })) := (lp_unfold ..).trans (by kernel_rfl)

theorem r48 (F : Fun) (sum : Int) (s : List UInt8) : funK E F 48 [AV.int IntKind.u64 sum, AV.str s] [] =
  bnd
    (lp E F 48 0 [] 0
      { vals := [AV.int IntKind.u64 sum, AV.str s, AV.int IntKind.i64 0], blks := [] })
    fun (p : Ex × Pack) =>
    ctl (p.fst.eqb (Ex.exit 0))
      (ctl (okPack { slots := [(0, Sum.inl (Sh.int IntKind.u64))], blks := [] } p.snd)
        (Option.some
          ([RV.p (PV.int IntKind.u64 (nth AV.undef p.snd.vals 0).toPV.toInt)],
            []))
        Option.none)
      Option.none := by kernel_rfl

theorem r32_0 (F : Fun) (x0 : Int) (es : List (List PV)) (x48 : Int) (x10 : Int) : lp E F 32 0 [] 0
  { vals := [AV.int IntKind.u64 x0, AV.sl 1 es, AV.int IntKind.i64 x48, AV.int IntKind.i64 x10], blks := [] } =
  ctl (ltB x10 x48)
    (getE es x10 fun (c : List PV) =>
      ctl (okCs [Sh.int IntKind.u8] c)
        (lp E F 32 0 [] 0
          { vals := [AV.int IntKind.u64 (IntKind.u64.wrap (IntKind.u64.wrap (↑(BitVec.ofInt 64 x0 ^^^ BitVec.ofInt 64 (IntKind.u64.wrap (nth PV.nilp c 0).toInt)).toNat : Int) * 1099511628211)), AV.sl 1 es, AV.int IntKind.i64 x48, AV.int IntKind.i64 (IntKind.i64.wrap (x10 + 1))], blks := [] })
        Option.none)
    (Option.some (Ex.exit 0, { vals := [AV.int IntKind.u64 x0], blks := [] })) := (lp_unfold ..).trans (by kernel_rfl)

theorem r32 (F : Fun) (sum : Int) (text : List UInt8) : funK E F 32 [AV.int IntKind.u64 sum, AV.str text] [] =
  bnd
    (lp E F 32 0 [] 0
      {
        vals :=
          [AV.int IntKind.u64 sum, AV.sl 1 (byteEs text),
            AV.int IntKind.i64 (↑(byteEs text).length : Int), AV.int IntKind.i64 0],
        blks := [] })
    fun (p : Ex × Pack) =>
    ctl (p.fst.eqb (Ex.exit 0))
      (ctl (okPack { slots := [(0, Sum.inl (Sh.int IntKind.u64))], blks := [] } p.snd)
        (Option.some
          ([RV.p (PV.int IntKind.u64 (nth AV.undef p.snd.vals 0).toPV.toInt)],
            []))
        Option.none)
      Option.none := by kernel_rfl

end Go.Proofs.YtiijghkfinkphaaGreatDoor.Vm

/- Contracts of chapter 36: sums, entries, lines. -/
namespace Go.Proofs.YtiijghkfinkphaaGreatDoor.Vm
set_option linter.unusedVariables false
set_option linter.unusedSimpArgs false

def sumStep (x : Int) (b : UInt8) : Int :=
  IntKind.u64.wrap (IntKind.u64.wrap (↑(BitVec.ofInt 64 x ^^^ BitVec.ofInt 64 (IntKind.u64.wrap (b.toNat : Int))).toNat : Int) * 1099511628211)

def sumB (x : Int) (s : List UInt8) : Int := s.foldl sumStep x

theorem sumB_cons (x : Int) (b : UInt8) (s : List UInt8) : sumB x (b :: s) = sumB (sumStep x b) s := rfl

theorem lp9 (pre l : List UInt8) (x : Int) (h : (pre ++ l).length ≤ 9223372036854775807) :
    lp E (denC E) 48 0 [] 0 { vals := [AV.int .u64 x, AV.str (pre ++ l), AV.int .i64 pre.length], blks := [] } = some (.exit 0, { vals := [AV.int .u64 (sumB x l)], blks := [] }) := by
  induction l generalizing pre x with
  | nil =>
    rw [r48_0]
    have h1 : ltB (pre.length : Int) (((pre ++ []).length : Nat) : Int) = false := by simp [ltB]
    rw [h1]
    rfl
  | cons b l ih =>
    rw [r48_0]
    have hl : pre.length < (pre ++ b :: l).length := by simp
    have h1 : ltB (pre.length : Int) (((pre ++ b :: l).length : Nat) : Int) = true := by simp [ltB]; omega
    have h0 : leB 0 (pre.length : Int) = true := by simp [leB]
    rw [h1, h0]
    simp only [Bool.and_self, ctl_true]
    have e1 : byteAt (pre ++ b :: l) (pre.length : Int) = (b.toNat : Int) := by
      unfold byteAt
      rw [nth_eq, Int.toNat_natCast, getD_mid]
    rw [e1, w64 (n := (pre.length : Int) + 1) (by omega), len_snoc pre b, app_cons pre b l]
    exact ih (pre ++ [b]) _ (by simpa using h)

theorem lp39 (pre l : List UInt8) (x : Int) (h : (pre ++ l).length ≤ 9223372036854775807) :
    lp E (denC E) 32 0 [] 0 { vals := [AV.int .u64 x, AV.sl 1 (byteEs (pre ++ l)), AV.int .i64 (pre ++ l).length, AV.int .i64 pre.length], blks := [] } = some (.exit 0, { vals := [AV.int .u64 (sumB x l)], blks := [] }) := by
  induction l generalizing pre x with
  | nil =>
    rw [r32_0]
    have h1 : ltB (pre.length : Int) (((pre ++ []).length : Nat) : Int) = false := by simp [ltB]
    rw [h1]
    rfl
  | cons b l ih =>
    rw [r32_0]
    have hl : pre.length < (pre ++ b :: l).length := by simp
    have h1 : ltB (pre.length : Int) (((pre ++ b :: l).length : Nat) : Int) = true := by simp [ltB]; omega
    rw [h1, ctl_true, getE_bytes (by omega)]
    have e1 : (pre ++ b :: l).getD (pre.length : Int).toNat 0 = b := by rw [Int.toNat_natCast, getD_mid]
    rw [e1]
    have e2 : okCs [Sh.int IntKind.u8] [PV.int .u8 (b.toNat : Int)] = true := rfl
    rw [e2, ctl_true]
    show lp E (denC E) 32 0 [] 0 { vals := [AV.int .u64 (sumStep x b), AV.sl 1 (byteEs (pre ++ b :: l)), AV.int .i64 (pre ++ b :: l).length, AV.int .i64 (IntKind.i64.wrap ((pre.length : Int) + 1))], blks := [] } = _
    rw [w64 (n := (pre.length : Int) + 1) (by omega), len_snoc pre b, app_cons pre b l]
    exact ih (pre ++ [b]) _ (by simpa using h)

theorem c_SumD (x : Int) (s : List UInt8) (h : s.length ≤ 9223372036854775807) : denC E 48 [AV.int .u64 x, AV.str s] [] = some ([RV.p (PV.int .u64 (sumB x s))], []) := by
  rw [denC_eq, r48]
  have := lp9 [] s x h
  simp only [List.nil_append, List.length_nil, Int.ofNat_zero] at this
  rw [this]
  rfl

theorem c_SumL (x : Int) (s : List UInt8) (h : s.length ≤ 9223372036854775807) : denC E 32 [AV.int .u64 x, AV.str s] [] = some ([RV.p (PV.int .u64 (sumB x s))], []) := by
  rw [denC_eq, r32, byteEs_length]
  have := lp39 [] s x h
  simp only [List.nil_append, List.length_nil, Int.ofNat_zero] at this
  rw [this]
  rfl

def wordsP (k : Int) : Int := if k = 1 ∨ k = 2 ∨ k = 3 then 1 else if k = 4 ∨ k = 5 ∨ k = 7 then 2 else if k = 6 then 4 else if k = 8 then 3 else -1

theorem c_words (k : Int) : denC E 58 [AV.int .i64 k] [] = some ([RV.p (PV.int .i64 (wordsP k))], []) := by
  rw [denC_eq, r58]
  by_cases h : 1 ≤ k ∧ k ≤ 8
  · have : k = 1 ∨ k = 2 ∨ k = 3 ∨ k = 4 ∨ k = 5 ∨ k = 6 ∨ k = 7 ∨ k = 8 := by omega
    rcases this with rfl | rfl | rfl | rfl | rfl | rfl | rfl | rfl <;> rfl
  · have e : ∀ n : Int, 1 ≤ n → n ≤ 8 → (k == n) = false := fun n h1 h2 => by
      rw [beq_eq_false_iff_ne]; omega
    rw [e 1 (by omega) (by omega), e 2 (by omega) (by omega), e 3 (by omega) (by omega), e 4 (by omega) (by omega), e 5 (by omega) (by omega), e 6 (by omega) (by omega), e 7 (by omega) (by omega), e 8 (by omega) (by omega)]
    have : wordsP k = -1 := by
      unfold wordsP
      rw [if_neg (by omega), if_neg (by omega), if_neg (by omega), if_neg (by omega)]
    rw [this]
    rfl

theorem c_wordsD (k : Int) : denC E 67 [AV.int .i64 k] [] = some ([RV.p (PV.int .i64 (wordsP k))], []) := by
  rw [denC_eq, r67]
  by_cases h : 1 ≤ k ∧ k ≤ 8
  · have : k = 1 ∨ k = 2 ∨ k = 3 ∨ k = 4 ∨ k = 5 ∨ k = 6 ∨ k = 7 ∨ k = 8 := by omega
    rcases this with rfl | rfl | rfl | rfl | rfl | rfl | rfl | rfl <;> rfl
  · have e1 : bnd (ctl (!ltB k 1) (some (ltB 8 k)) (some true)) (fun v : Bool => some v) = some true := by
      by_cases h1 : k < 1
      · simp [ltB, h1, ctl, bnd]
      · have : 8 < k := by omega
        simp [ltB, h1, this, ctl, bnd]
    have : wordsP k = -1 := by
      unfold wordsP
      rw [if_neg (by omega), if_neg (by omega), if_neg (by omega), if_neg (by omega)]
    rw [this]
    have e2 : ctl (!ltB k 1) (some (ltB 8 k)) (some true) = some true := by
      by_cases h1 : k < 1
      · simp [ltB, h1, ctl]
      · have : 8 < k := by omega
        simp [ltB, h1, this, ctl]
    rw [e2]
    rfl

def inside (ws : List Int) : Bool := ws.all fun x => decide (-1000000000 ≤ x) && decide (x ≤ 1000000000)

theorem out_of (x : Int) : ctl (!ltB x (-1000000000)) (some (ltB 1000000000 x)) (some true) = some (!(decide (-1000000000 ≤ x) && decide (x ≤ 1000000000))) := by
  by_cases h1 : x < -1000000000
  · have : ¬ -1000000000 ≤ x := by omega
    simp [ltB, h1, ctl, this]
  · have h2 : -1000000000 ≤ x := by omega
    by_cases h3 : 1000000000 < x
    · have : ¬ x ≤ 1000000000 := by omega
      simp [ltB, h1, h3, ctl, this]
    · have : x ≤ 1000000000 := by omega
      simp [ltB, h1, h3, ctl, this, h2]

theorem inside_cons (x : Int) (l : List Int) : inside (x :: l) = ((decide (-1000000000 ≤ x) && decide (x ≤ 1000000000)) && inside l) := rfl

theorem mid_lt {α : Type} (pre : List α) (b : α) (l : List α) : 0 ≤ (pre.length : Int) ∧ (pre.length : Int) < ((pre ++ b :: l).length : Int) := by simp; omega

theorem lp_Within (pre l : List Int) (h : (pre ++ l).length ≤ 9223372036854775807) :
    lp E (denC E) 59 0 [] 0 { vals := [AV.int .i64 1000000000, AV.sl 1 (intsK .i64 (pre ++ l)), AV.int .i64 (pre ++ l).length, AV.int .i64 pre.length], blks := [] } =
      some (if inside l then (.exit 0, { vals := [], blks := [] }) else (.ret, { vals := [AV.bool false], blks := [] })) := by
  induction l generalizing pre with
  | nil =>
    rw [r59_0]
    have h1 : ltB (pre.length : Int) (((pre ++ []).length : Nat) : Int) = false := by simp [ltB]
    rw [h1]
    rfl
  | cons b l ih =>
    rw [r59_0]
    have hl := mid_lt pre b l
    have h1 : ltB (pre.length : Int) (((pre ++ b :: l).length : Nat) : Int) = true := by simp [ltB]; omega
    rw [h1, ctl_true, getE_ints hl]
    have e1 : (pre ++ b :: l).getD (pre.length : Int).toNat 0 = b := by rw [Int.toNat_natCast, getD_mid]
    rw [e1]
    have e2 : okCs [Sh.int IntKind.i64] [PV.int .i64 b] = true := rfl
    rw [e2, ctl_true]
    have e3 : (nth PV.nilp [PV.int .i64 b] 0).toInt = b := rfl
    have e4 : IntKind.i64.wrap (0 - 1000000000) = -1000000000 := by decide +kernel
    rw [e3, e4, out_of, inside_cons]
    cases hb : (decide (-1000000000 ≤ b) && decide (b ≤ 1000000000)) with
    | false => rfl
    | true =>
      simp only [Bool.not_true, Bool.true_and]
      show lp E (denC E) 59 0 [] 0 { vals := [AV.int .i64 1000000000, AV.sl 1 (intsK .i64 (pre ++ b :: l)), AV.int .i64 (pre ++ b :: l).length, AV.int .i64 (IntKind.i64.wrap ((pre.length : Int) + 1))], blks := [] } = _
      rw [w64 (n := (pre.length : Int) + 1) (by omega), len_snoc pre b, app_cons pre b l]
      exact ih (pre ++ [b]) (by simpa using h)

theorem intsK_len (k : IntKind) (l : List Int) : (intsK k l).length = l.length := by simp [intsK]

theorem c_Within (ws : List Int) (h : ws.length ≤ 9223372036854775807) : denC E 59 [AV.int .i64 1000000000, AV.sl 1 (intsK .i64 ws)] [] = some ([RV.p (PV.bool (inside ws))], []) := by
  rw [denC_eq, r59, intsK_len]
  have := lp_Within [] ws h
  simp only [List.nil_append, List.length_nil, Int.ofNat_zero] at this
  rw [this]
  cases hb : inside ws <;> rfl

def validP (t k : Int) (ws : List Int) : Bool := ((decide (0 ≤ t) && decide (t ≤ 2147483648)) && decide ((ws.length : Int) = wordsP k)) && inside ws

theorem c_ValidE (t k : Int) (ws : List Int) (h : ws.length ≤ 9223372036854775807) : denC E 37 [AV.agg [PV.int .i64 t, PV.int .i64 k, PV.sl 1 (intsK .i64 ws)]] [] = some ([RV.p (PV.bool (validP t k ws))], []) := by
  rw [denC_eq, r37, c_words, c_Within ws h, intsK_len]
  have e1 : ctl (leB 0 t) (some (leB t 2147483648)) (some false) = some (decide (0 ≤ t) && decide (t ≤ 2147483648)) := by
    by_cases h0 : 0 ≤ t <;> simp [leB, h0, ctl]
  rw [e1]
  unfold validP
  have e2 : ((ws.length : Int) == wordsP k) = decide ((ws.length : Int) = wordsP k) := by
    by_cases hq : (ws.length : Int) = wordsP k
    · rw [decide_eq_true hq]; simpa using hq
    · rw [decide_eq_false hq]; simpa using hq
  cases (decide (0 ≤ t) && decide (t ≤ 2147483648)) with
  | false => rfl
  | true =>
    simp only [bnd_some, ctl_true, ctl_false, ctl_and, ctl_or', ctl_or2, x_toPV, x_toCs, x_toCs2, x_toEs, x_bEs, x_bCs, x_aPV, x_aCs, x_int, x_bool, x_str, x_es, x_esn, nth_0, nth_1, nth_2, nth_3, nth_4, nth_5, nth_6, nth_7, nth_8, nth_9, y_nil, y_int, y_bool, y_str, y_sl, y_nils, y_agg, y_ownp, y_own, z_nil, z_int, z_bool, z_str, z_sl, z_nils, b_nil, b_arr, b_box1, b_box2, b_box3, b_box4, List.map_cons, List.map_nil, Bool.and_self, Bool.and_true, Bool.true_and, Bool.not_true, Bool.not_false, Bool.or_false, Bool.false_or, cond_true, cond_false, okPack, okPut, okPutBlks, okPutCells, q_isP, q_isAg, q_isBox, q_isArr, q_int, q_bool, q_str, q_sl, q_nils, e_exit, e_ret, e_nrm, e_ret_exit, e_exit_ret, e_nrm_exit, e_nrm_ret, e_exit_nrm, e_ret_nrm, Nat.zero_add, Nat.reduceAdd, noslR, noslP, noslB, noslA, List.all_cons, List.all_nil, e2]

theorem lp_ValidD (pre l : List Int) (h : (pre ++ l).length ≤ 9223372036854775807) :
    lp E (denC E) 47 0 [] 0 { vals := [AV.sl 1 (intsK .i64 (pre ++ l)), AV.int .i64 (pre ++ l).length, AV.int .i64 pre.length], blks := [] } =
      some (if inside l then (.exit 0, { vals := [], blks := [] }) else (.ret, { vals := [AV.bool false], blks := [] })) := by
  induction l generalizing pre with
  | nil =>
    rw [r47_0]
    have h1 : ltB (pre.length : Int) (((pre ++ []).length : Nat) : Int) = false := by simp [ltB]
    rw [h1]
    rfl
  | cons b l ih =>
    rw [r47_0]
    have hl := mid_lt pre b l
    have h1 : ltB (pre.length : Int) (((pre ++ b :: l).length : Nat) : Int) = true := by simp [ltB]; omega
    rw [h1, ctl_true, getE_ints hl]
    have e1 : (pre ++ b :: l).getD (pre.length : Int).toNat 0 = b := by rw [Int.toNat_natCast, getD_mid]
    rw [e1]
    have e2 : okCs [Sh.int IntKind.i64] [PV.int .i64 b] = true := rfl
    rw [e2, ctl_true]
    have e3 : (nth PV.nilp [PV.int .i64 b] 0).toInt = b := rfl
    rw [e3, out_of, inside_cons]
    cases hb : (decide (-1000000000 ≤ b) && decide (b ≤ 1000000000)) with
    | false => rfl
    | true =>
      simp only [Bool.not_true, Bool.true_and]
      show lp E (denC E) 47 0 [] 0 { vals := [AV.sl 1 (intsK .i64 (pre ++ b :: l)), AV.int .i64 (pre ++ b :: l).length, AV.int .i64 (IntKind.i64.wrap ((pre.length : Int) + 1))], blks := [] } = _
      rw [w64 (n := (pre.length : Int) + 1) (by omega), len_snoc pre b, app_cons pre b l]
      exact ih (pre ++ [b]) (by simpa using h)

theorem c_ValidD (t k : Int) (ws : List Int) (h : ws.length ≤ 9223372036854775807) : denC E 47 [AV.agg [PV.int .i64 t, PV.int .i64 k, PV.sl 1 (intsK .i64 ws)]] [] = some ([RV.p (PV.bool (validP t k ws))], []) := by
  rw [denC_eq, r47, c_wordsD, intsK_len]
  have hlp := lp_ValidD [] ws h
  simp only [List.nil_append, List.length_nil, Int.ofNat_zero] at hlp
  rw [hlp]
  have e1 : ctl (!ltB t 0) (some (ltB 2147483648 t)) (some true) = some (!(decide (0 ≤ t) && decide (t ≤ 2147483648))) := by
    by_cases h0 : t < 0
    · have : ¬ 0 ≤ t := by omega
      simp [ltB, h0, ctl, this]
    · have h1 : 0 ≤ t := by omega
      by_cases h2 : 2147483648 < t
      · have : ¬ t ≤ 2147483648 := by omega
        simp [ltB, h0, h2, ctl, this]
      · have : t ≤ 2147483648 := by omega
        simp [ltB, h0, h2, ctl, this, h1]
  rw [e1]
  unfold validP
  have e2 : ((ws.length : Int) != wordsP k) = !decide ((ws.length : Int) = wordsP k) := by
    by_cases hq : (ws.length : Int) = wordsP k
    · rw [decide_eq_true hq]; simpa using hq
    · rw [decide_eq_false hq]; simpa using hq
  have e3 : ltB (wordsP k) 0 = true → decide ((ws.length : Int) = wordsP k) = false := fun hw => by
    have : wordsP k < 0 := by simpa [ltB] using hw
    exact decide_eq_false (by omega)
  cases (decide (0 ≤ t) && decide (t ≤ 2147483648)) with
  | false => rfl
  | true =>
    simp only [bnd_some, ctl_true, ctl_false, ctl_and, ctl_or', ctl_or2, x_toPV, x_toCs, x_toCs2, x_toEs, x_bEs, x_bCs, x_aPV, x_aCs, x_int, x_bool, x_str, x_es, x_esn, nth_0, nth_1, nth_2, nth_3, nth_4, nth_5, nth_6, nth_7, nth_8, nth_9, y_nil, y_int, y_bool, y_str, y_sl, y_nils, y_agg, y_ownp, y_own, z_nil, z_int, z_bool, z_str, z_sl, z_nils, b_nil, b_arr, b_box1, b_box2, b_box3, b_box4, List.map_cons, List.map_nil, Bool.and_self, Bool.and_true, Bool.true_and, Bool.not_true, Bool.not_false, Bool.or_false, Bool.false_or, cond_true, cond_false, okPack, okPut, okPutBlks, okPutCells, q_isP, q_isAg, q_isBox, q_isArr, q_int, q_bool, q_str, q_sl, q_nils, e_exit, e_ret, e_nrm, e_ret_exit, e_exit_ret, e_nrm_exit, e_nrm_ret, e_exit_nrm, e_ret_nrm, Nat.zero_add, Nat.reduceAdd, noslR, noslP, noslB, noslA, List.all_cons, List.all_nil, e2]
    cases hw : ltB (wordsP k) 0 with
    | true => rw [e3 hw]; rfl
    | false =>
      cases decide ((ws.length : Int) = wordsP k) with
      | false => rfl
      | true => cases inside ws <;> rfl

theorem c_Itoa (n : Int) (h : -9223372036854775808 ≤ n ∧ n ≤ 9223372036854775807) : denC E 43 [AV.int .i64 n] [] = some ([RV.p (PV.str (Lib.itoa n))], []) := by
  rw [denC_eq]
  have : funK E (denC E) 43 [AV.int .i64 n] [] = match pItoa [AV.int .i64 n] with | some rs => some (rs, []) | none => none := by kernel_rfl
  rw [this]
  unfold pItoa
  simp only [h, and_self, if_true]

theorem strsK_snoc (c : List (List UInt8)) (s : List UInt8) : strsK c ++ [[PV.str s]] = strsK (c ++ [s]) := by simp [strsK]

theorem lp_line (pre l : List Int) (c : List (List UInt8)) (hb : ∀ x ∈ l, -9223372036854775808 ≤ x ∧ x ≤ 9223372036854775807) (h : (pre ++ l).length ≤ 1000000) (hc : c.length + l.length ≤ 2000000) :
    lp E (denC E) 21 0 [] 0 { vals := [AV.sl 1 (intsK .i64 (pre ++ l)), AV.int .i64 (pre ++ l).length, AV.int .i64 pre.length], blks := [Blk.arr 1 (strsK c)] } =
      some (.exit 0, { vals := [], blks := [Blk.arr 1 (strsK (c ++ l.map Lib.itoa))] }) := by
  induction l generalizing pre c with
  | nil =>
    rw [r21_0]
    have h1 : ltB (pre.length : Int) (((pre ++ []).length : Nat) : Int) = false := by simp [ltB]
    rw [h1, ctl_false, List.map_nil, List.append_nil]
  | cons b l ih =>
    rw [r21_0]
    have hl := mid_lt pre b l
    have h1 : ltB (pre.length : Int) (((pre ++ b :: l).length : Nat) : Int) = true := by simp [ltB]; omega
    rw [h1, ctl_true, getE_ints hl]
    have e1 : (pre ++ b :: l).getD (pre.length : Int).toNat 0 = b := by rw [Int.toNat_natCast, getD_mid]
    rw [e1]
    have e2 : okCs [Sh.int IntKind.i64] [PV.int .i64 b] = true := rfl
    rw [e2, ctl_true]
    have e3 : (nth PV.nilp [PV.int .i64 b] 0).toInt = b := rfl
    rw [e3, c_Itoa b (hb b (.head _))]
    have e4 : leN (((strsK c).length + 1) * 16) 140737488355328 = true := by
      rw [strsK_length]
      simp only [List.length_cons] at hc
      simp [leN]; omega
    show ctl (leN (((strsK c).length + 1) * 16) 140737488355328) (lp E (denC E) 21 0 [] 0 { vals := [AV.sl 1 (intsK .i64 (pre ++ b :: l)), AV.int .i64 (pre ++ b :: l).length, AV.int .i64 (IntKind.i64.wrap ((pre.length : Int) + 1))], blks := [Blk.arr 1 (strsK c ++ [[PV.str (Lib.itoa b)]])] }) none = _
    rw [e4, ctl_true, w64 (n := (pre.length : Int) + 1) (by omega), len_snoc pre b, app_cons pre b l, strsK_snoc]
    rw [ih (pre ++ [b]) (c ++ [Lib.itoa b]) (fun x hx => hb x (.tail _ hx)) (by simpa using h) (by simp at hc ⊢; omega)]
    simp

theorem c_JoinB (l : List (List UInt8)) (sep : List UInt8) (h : l.length ≤ 140737488355328 ∧ (Lib.join l sep).length ≤ 140737488355328) : denC E 44 [AV.sl 1 (strsK l), AV.str sep] [] = some ([RV.p (PV.str (Lib.join l sep))], []) := by
  rw [denC_eq]
  have hs : ∀ l : List (List UInt8), strsOf (strsK l) = some l := fun l => by
    induction l with
    | nil => rfl
    | cons x r ih =>
      unfold strsK at ih ⊢
      simp only [List.map_cons, strsOf, ih]
  have : funK E (denC E) 44 [AV.sl 1 (strsK l), AV.str sep] [] = match pJoin [AV.sl 1 (strsK l), AV.str sep] with | some rs => some (rs, []) | none => none := by kernel_rfl
  rw [this]
  unfold pJoin
  simp only [hs, h, and_self, if_true]

def lineP (t k : Int) (ws : List Int) : List UInt8 := Lib.join (Lib.itoa t :: Lib.itoa k :: ws.map Lib.itoa) [32] ++ [10]

def wordOk (x : Int) : Prop := -9223372036854775808 ≤ x ∧ x ≤ 9223372036854775807

theorem c_lineE (t k : Int) (ws : List Int) (ht : wordOk t) (hk : wordOk k) (hw : ∀ x ∈ ws, wordOk x) (hl : ws.length ≤ 1000000) (hj : (Lib.join (Lib.itoa t :: Lib.itoa k :: ws.map Lib.itoa) [32]).length ≤ 140737488355327) :
    denC E 21 [AV.agg [PV.int .i64 t, PV.int .i64 k, PV.sl 1 (intsK .i64 ws)]] [] = some ([RV.p (PV.str (lineP t k ws))], []) := by
  rw [denC_eq, r21, c_Itoa t ht, c_Itoa k hk, intsK_len]
  have hlp := lp_line [] ws [Lib.itoa t, Lib.itoa k] hw hl (by simp; omega)
  simp only [List.nil_append, List.length_nil, Int.ofNat_zero] at hlp
  have e1 : strsK [Lib.itoa t, Lib.itoa k] = [[PV.str (Lib.itoa t)], [PV.str (Lib.itoa k)]] := rfl
  rw [e1] at hlp
  simp only [bnd_some, ctl_true, ctl_false, ctl_and, ctl_or', ctl_or2, x_toPV, x_toCs, x_toCs2, x_toEs, x_bEs, x_bCs, x_aPV, x_aCs, x_int, x_bool, x_str, x_es, x_esn, nth_0, nth_1, nth_2, nth_3, nth_4, nth_5, nth_6, nth_7, nth_8, nth_9, y_nil, y_int, y_bool, y_str, y_sl, y_nils, y_agg, y_ownp, y_own, z_nil, z_int, z_bool, z_str, z_sl, z_nils, b_nil, b_arr, b_box1, b_box2, b_box3, b_box4, List.map_cons, List.map_nil, Bool.and_self, Bool.and_true, Bool.true_and, Bool.not_true, Bool.not_false, Bool.or_false, Bool.false_or, cond_true, cond_false, okPack, okPut, okPutBlks, okPutCells, q_isP, q_isAg, q_isBox, q_isArr, q_int, q_bool, q_str, q_sl, q_nils, e_exit, e_ret, e_nrm, e_ret_exit, e_exit_ret, e_nrm_exit, e_nrm_ret, e_exit_nrm, e_ret_nrm, Nat.zero_add, Nat.reduceAdd, noslR, noslP, noslB, noslA, List.all_cons, List.all_nil]
  rw [hlp]
  simp only [bnd_some, ctl_true, ctl_false, ctl_and, ctl_or', ctl_or2, x_toPV, x_toCs, x_toCs2, x_toEs, x_bEs, x_bCs, x_aPV, x_aCs, x_int, x_bool, x_str, x_es, x_esn, nth_0, nth_1, nth_2, nth_3, nth_4, nth_5, nth_6, nth_7, nth_8, nth_9, y_nil, y_int, y_bool, y_str, y_sl, y_nils, y_agg, y_ownp, y_own, z_nil, z_int, z_bool, z_str, z_sl, z_nils, b_nil, b_arr, b_box1, b_box2, b_box3, b_box4, List.map_cons, List.map_nil, Bool.and_self, Bool.and_true, Bool.true_and, Bool.not_true, Bool.not_false, Bool.or_false, Bool.false_or, cond_true, cond_false, okPack, okPut, okPutBlks, okPutCells, q_isP, q_isAg, q_isBox, q_isArr, q_int, q_bool, q_str, q_sl, q_nils, e_exit, e_ret, e_nrm, e_ret_exit, e_exit_ret, e_nrm_exit, e_nrm_ret, e_exit_nrm, e_ret_nrm, Nat.zero_add, Nat.reduceAdd, noslR, noslP, noslB, noslA, List.all_cons, List.all_nil]
  have hjj := c_JoinB ([Lib.itoa t, Lib.itoa k] ++ ws.map Lib.itoa) [32] ⟨by simp; omega, by simpa using Nat.le_succ_of_le hj⟩
  rw [hjj]
  simp only [bnd_some, ctl_true, ctl_false, ctl_and, ctl_or', ctl_or2, x_toPV, x_toCs, x_toCs2, x_toEs, x_bEs, x_bCs, x_aPV, x_aCs, x_int, x_bool, x_str, x_es, x_esn, nth_0, nth_1, nth_2, nth_3, nth_4, nth_5, nth_6, nth_7, nth_8, nth_9, y_nil, y_int, y_bool, y_str, y_sl, y_nils, y_agg, y_ownp, y_own, z_nil, z_int, z_bool, z_str, z_sl, z_nils, b_nil, b_arr, b_box1, b_box2, b_box3, b_box4, List.map_cons, List.map_nil, Bool.and_self, Bool.and_true, Bool.true_and, Bool.not_true, Bool.not_false, Bool.or_false, Bool.false_or, cond_true, cond_false, okPack, okPut, okPutBlks, okPutCells, q_isP, q_isAg, q_isBox, q_isArr, q_int, q_bool, q_str, q_sl, q_nils, e_exit, e_ret, e_nrm, e_ret_exit, e_exit_ret, e_nrm_exit, e_nrm_ret, e_exit_nrm, e_ret_nrm, Nat.zero_add, Nat.reduceAdd, noslR, noslP, noslB, noslA, List.all_cons, List.all_nil]
  have e2 : leN ((Lib.join ([Lib.itoa t, Lib.itoa k] ++ ws.map Lib.itoa) [32]).length + 1) 9223372036854775807 = true := by
    simp only [List.cons_append, List.nil_append]
    simp [leN]; omega
  rw [e2]
  rfl

theorem lp_lineD (pre l : List Int) (s : List UInt8) (hb : ∀ x ∈ l, wordOk x) (h : (pre ++ l).length ≤ 1000000) (hs : (s ++ Lib.joinTail [32] (l.map Lib.itoa)).length ≤ 9223372036854775807) :
    lp E (denC E) 49 0 [] 0 { vals := [AV.str s, AV.sl 1 (intsK .i64 (pre ++ l)), AV.int .i64 (pre ++ l).length, AV.int .i64 pre.length], blks := [] } =
      some (.exit 0, { vals := [AV.str (s ++ Lib.joinTail [32] (l.map Lib.itoa))], blks := [] }) := by
  induction l generalizing pre s with
  | nil =>
    rw [r49_0]
    have h1 : ltB (pre.length : Int) (((pre ++ []).length : Nat) : Int) = false := by simp [ltB]
    rw [h1, ctl_false]
    simp [Lib.joinTail]
  | cons b l ih =>
    rw [r49_0]
    have hl := mid_lt pre b l
    have h1 : ltB (pre.length : Int) (((pre ++ b :: l).length : Nat) : Int) = true := by simp [ltB]; omega
    rw [h1, ctl_true, getE_ints hl]
    have e1 : (pre ++ b :: l).getD (pre.length : Int).toNat 0 = b := by rw [Int.toNat_natCast, getD_mid]
    rw [e1]
    have e2 : okCs [Sh.int IntKind.i64] [PV.int .i64 b] = true := rfl
    rw [e2, ctl_true]
    have e3 : (nth PV.nilp [PV.int .i64 b] 0).toInt = b := rfl
    rw [e3, c_Itoa b (hb b (.head _))]
    have e6 : s ++ Lib.joinTail [32] ((b :: l).map Lib.itoa) = (s ++ ([32] ++ Lib.itoa b)) ++ Lib.joinTail [32] (l.map Lib.itoa) := by
      simp [Lib.joinTail]
    rw [e6] at hs ⊢
    have e4 : leN (1 + (Lib.itoa b).length) 9223372036854775807 = true := by simp at hs; simp [leN]; omega
    have e5 : leN (s.length + ([32] ++ Lib.itoa b).length) 9223372036854775807 = true := by simp at hs; simp [leN]; omega
    show ctl (leN (1 + (Lib.itoa b).length) 9223372036854775807) (ctl (leN (s.length + ([32] ++ Lib.itoa b).length) 9223372036854775807) (lp E (denC E) 49 0 [] 0 { vals := [AV.str (s ++ ([32] ++ Lib.itoa b)), AV.sl 1 (intsK .i64 (pre ++ b :: l)), AV.int .i64 (pre ++ b :: l).length, AV.int .i64 (IntKind.i64.wrap ((pre.length : Int) + 1))], blks := [] }) none) none = _
    rw [e4, e5, ctl_true, ctl_true, w64 (n := (pre.length : Int) + 1) (by omega), len_snoc pre b, app_cons pre b l]
    exact ih (pre ++ [b]) (s ++ ([32] ++ Lib.itoa b)) (fun x hx => hb x (.tail _ hx)) (by simpa using h) hs

theorem c_lineD (t k : Int) (ws : List Int) (ht : wordOk t) (hk : wordOk k) (hw : ∀ x ∈ ws, wordOk x) (hl : ws.length ≤ 1000000) (hj : (Lib.join (Lib.itoa t :: Lib.itoa k :: ws.map Lib.itoa) [32]).length ≤ 140737488355327) :
    denC E 49 [AV.agg [PV.int .i64 t, PV.int .i64 k, PV.sl 1 (intsK .i64 ws)]] [] = some ([RV.p (PV.str (lineP t k ws))], []) := by
  have ej : Lib.join (Lib.itoa t :: Lib.itoa k :: ws.map Lib.itoa) [32] = (Lib.itoa t ++ [32] ++ Lib.itoa k) ++ Lib.joinTail [32] (ws.map Lib.itoa) := by
    rw [Lib.join_cons]
    simp [Lib.joinTail]
  unfold lineP
  rw [ej] at hj ⊢
  rw [denC_eq, r49, c_Itoa t ht, c_Itoa k hk, intsK_len]
  have hlp := lp_lineD [] ws (Lib.itoa t ++ [32] ++ Lib.itoa k) hw hl (by omega)
  simp only [List.nil_append, List.length_nil, Int.ofNat_zero] at hlp
  simp only [bnd_some, ctl_true, ctl_false, ctl_and, ctl_or', ctl_or2, x_toPV, x_toCs, x_toCs2, x_toEs, x_bEs, x_bCs, x_aPV, x_aCs, x_int, x_bool, x_str, x_es, x_esn, nth_0, nth_1, nth_2, nth_3, nth_4, nth_5, nth_6, nth_7, nth_8, nth_9, y_nil, y_int, y_bool, y_str, y_sl, y_nils, y_agg, y_ownp, y_own, z_nil, z_int, z_bool, z_str, z_sl, z_nils, b_nil, b_arr, b_box1, b_box2, b_box3, b_box4, List.map_cons, List.map_nil, Bool.and_self, Bool.and_true, Bool.true_and, Bool.not_true, Bool.not_false, Bool.or_false, Bool.false_or, cond_true, cond_false, okPack, okPut, okPutBlks, okPutCells, q_isP, q_isAg, q_isBox, q_isArr, q_int, q_bool, q_str, q_sl, q_nils, e_exit, e_ret, e_nrm, e_ret_exit, e_exit_ret, e_nrm_exit, e_nrm_ret, e_exit_nrm, e_ret_nrm, Nat.zero_add, Nat.reduceAdd, noslR, noslP, noslB, noslA, List.all_cons, List.all_nil]
  rw [hlp]
  simp only [bnd_some, ctl_true, ctl_false, ctl_and, ctl_or', ctl_or2, x_toPV, x_toCs, x_toCs2, x_toEs, x_bEs, x_bCs, x_aPV, x_aCs, x_int, x_bool, x_str, x_es, x_esn, nth_0, nth_1, nth_2, nth_3, nth_4, nth_5, nth_6, nth_7, nth_8, nth_9, y_nil, y_int, y_bool, y_str, y_sl, y_nils, y_agg, y_ownp, y_own, z_nil, z_int, z_bool, z_str, z_sl, z_nils, b_nil, b_arr, b_box1, b_box2, b_box3, b_box4, List.map_cons, List.map_nil, Bool.and_self, Bool.and_true, Bool.true_and, Bool.not_true, Bool.not_false, Bool.or_false, Bool.false_or, cond_true, cond_false, okPack, okPut, okPutBlks, okPutCells, q_isP, q_isAg, q_isBox, q_isArr, q_int, q_bool, q_str, q_sl, q_nils, e_exit, e_ret, e_nrm, e_ret_exit, e_exit_ret, e_nrm_exit, e_nrm_ret, e_exit_nrm, e_ret_nrm, Nat.zero_add, Nat.reduceAdd, noslR, noslP, noslB, noslA, List.all_cons, List.all_nil]
  have e1 : leN ((Lib.itoa t).length + 1) 9223372036854775807 = true := by simp at hj; simp [leN]; omega
  have e2 : leN ((Lib.itoa t ++ [32]).length + (Lib.itoa k).length) 9223372036854775807 = true := by simp at hj; simp [leN]; omega
  have e3 : leN ((Lib.itoa t ++ [32] ++ Lib.itoa k ++ Lib.joinTail [32] (ws.map Lib.itoa)).length + 1) 9223372036854775807 = true := by simp at hj; simp [leN]; omega
  rw [e1, e2, e3]
  rfl

structure En where
  t : Int
  k : Int
  ws : List Int
  deriving Inhabited

def enK (e : En) : List PV := [PV.int .i64 e.t, PV.int .i64 e.k, PV.sl 1 (intsK .i64 e.ws)]

def ensK (l : List En) : List (List PV) := l.map enK

theorem ensK_len (l : List En) : (ensK l).length = l.length := by simp [ensK]

theorem getE_ens {α : Type} {l : List En} {i : Int} (hi : 0 ≤ i ∧ i < l.length) (K : List PV → Option α) : getE (ensK l) i K = K (enK (l.getD i.toNat default)) := by
  unfold getE
  rw [ensK_len]
  have h1 : leB 0 i = true := by simpa using hi.1
  have h2 : ltB i l.length = true := by simpa using hi.2
  rw [h1, h2]
  have hlt : i.toNat < l.length := by omega
  simp only [Bool.and_self, ctl_true]
  rw [nth_eq]
  simp [ensK, List.getD, hlt]

theorem c_state (k : Int) : denC E 60 [AV.int .i64 k] [] = some ([RV.p (PV.bool (wordsP k == 1))], []) := by
  rw [denC_eq, r60, c_words]
  rfl

def begin36 : Int := 14695981039346656037

theorem c_Begin : denC E 36 [] [] = some ([RV.p (PV.int .u64 begin36)], []) := by
  rw [denC_eq, r36]
  rfl

theorem c_FormatUint (n : Int) (h : 0 ≤ n ∧ n ≤ 18446744073709551615) : denC E 45 [AV.int .u64 n, AV.int .i64 10] [] = some ([RV.p (PV.str (Lib.itoa n))], []) := by
  rw [denC_eq]
  have : funK E (denC E) 45 [AV.int .u64 n, AV.int .i64 10] [] = match pFormatUint [AV.int .u64 n, AV.int .i64 10] with | some rs => some (rs, []) | none => none := by kernel_rfl
  rw [this]
  unfold pFormatUint
  simp only [h, and_self, if_true]

theorem dec_small36 {u : Nat} (h : u < 10) : (Lib.decDigits u).length = 1 := by rw [Lib.decDigits_length, Lib.nDigits_small h]

theorem dec_len36 (k : Nat) : ∀ u : Nat, u < 10 ^ (k + 1) → (Lib.decDigits u).length ≤ k + 1 := by
  induction k with
  | zero => intro u h; rw [dec_small36 (by simpa using h)]; omega
  | succ k ih =>
    intro u h
    by_cases hu : u < 10
    · rw [dec_small36 hu]; omega
    · have := ih (u / 10) (by rw [Nat.pow_succ] at h; omega)
      rw [Lib.decDigits_length] at this ⊢
      rw [Lib.nDigits_big hu]; omega

theorem itoa_len36 {n : Int} (h : wordOk n) : (Lib.itoa n).length ≤ 20 := by
  unfold wordOk at h
  have h2 := dec_len36 18 n.natAbs (by omega)
  have h3 := dec_len36 18 n.toNat (by omega)
  unfold Lib.itoa
  split
  · simp; omega
  · omega

theorem tail_len (l : List Int) (h : ∀ x ∈ l, wordOk x) : (Lib.joinTail [32] (l.map Lib.itoa)).length ≤ 21 * l.length := by
  induction l with
  | nil => simp [Lib.joinTail]
  | cons x l ih =>
    have h1 := itoa_len36 (h x (.head _))
    have h2 := ih fun y hy => h y (.tail _ hy)
    simp only [Lib.joinTail, List.map_cons, List.flatten_cons, List.length_append, List.length_cons, List.length_nil] at h2 ⊢
    omega

theorem wordsP_le (k : Int) : wordsP k ≤ 4 := by
  unfold wordsP
  split
  · omega
  · split
    · omega
    · split
      · omega
      · split <;> omega

theorem wordsP_kind {k : Int} (h : 0 ≤ wordsP k) : 1 ≤ k ∧ k ≤ 8 := by
  unfold wordsP at h
  split at h
  · omega
  · split at h
    · omega
    · split at h
      · omega
      · split at h <;> omega

theorem validP_all {t k : Int} {ws : List Int} (h : validP t k ws = true) : 0 ≤ t ∧ wordOk t ∧ wordOk k ∧ (∀ x ∈ ws, wordOk x) ∧ ws.length ≤ 4 ∧ (Lib.join (Lib.itoa t :: Lib.itoa k :: ws.map Lib.itoa) [32]).length ≤ 200 ∧ (ws.length : Int) = wordsP k := by
  unfold validP at h
  simp only [Bool.and_eq_true, decide_eq_true_eq] at h
  obtain ⟨⟨⟨h1, h2⟩, h3⟩, h4⟩ := h
  have hk := wordsP_kind (k := k) (by omega)
  have h5 := wordsP_le k
  have hw : ∀ x ∈ ws, wordOk x := fun x hx => by
    have := List.all_eq_true.1 h4 x hx
    simp only [Bool.and_eq_true, decide_eq_true_eq] at this
    unfold wordOk
    omega
  have ht : wordOk t := by unfold wordOk; omega
  have hk' : wordOk k := by unfold wordOk; omega
  refine ⟨h1, ht, hk', hw, by omega, ?_, h3⟩
  have e : Lib.itoa t :: Lib.itoa k :: ws.map Lib.itoa = Lib.itoa t :: (k :: ws).map Lib.itoa := rfl
  rw [e, Lib.join_cons, List.length_append]
  have a1 := itoa_len36 ht
  have a2 := tail_len (k :: ws) (fun x hx => by
    rcases List.mem_cons.1 hx with rfl | hx
    · exact hk'
    · exact hw x hx)
  simp only [List.length_cons] at a2
  omega

def runB : Int → Int → List En → Option Int
  | s, _, [] => some s
  | s, p, e :: l => if validP e.t e.k e.ws = true ∧ p ≤ e.t then runB (sumB s (lineP e.t e.k e.ws)) e.t l else none

def checkP (l : List En) (s : Int) : Int := if 200 < l.length then 72 else if runB begin36 0 l = some s then 0 else 72

theorem lp_CheckE (b : List En) (bs : Int) (hlen : b.length ≤ 200) (hws : ∀ e ∈ b, e.ws.length ≤ 1000000) : ∀ (l pre : List En) (p s : Int), pre ++ l = b → ((pre = [] ∧ p = 0) ∨ ∃ q a, pre = q ++ [a] ∧ a.t = p) →
    lp E (denC E) 15 0 [] 0 { vals := [AV.int .u64 s, AV.sl 3 (ensK b), AV.int .i64 b.length, AV.int .i64 pre.length], blks := [Blk.box [AV.sl 3 (ensK b), AV.int .u64 bs]] } =
      some (match runB s p l with
        | some x => (.exit 0, { vals := [AV.int .u64 x], blks := [Blk.box [AV.sl 3 (ensK b), AV.int .u64 bs]] })
        | none => (.ret, { vals := [AV.int .i64 72], blks := [] })) := by
  intro l
  induction l with
  | nil =>
    intro pre p s hb hp
    rw [r15_0]
    have h1 : ltB (pre.length : Int) (b.length : Int) = false := by rw [← hb]; simp [ltB]
    rw [h1, ctl_false]
    rfl
  | cons e l ih =>
    intro pre p s hb hp
    rw [r15_0]
    have hl : 0 ≤ (pre.length : Int) ∧ (pre.length : Int) < (b.length : Int) := by rw [← hb]; exact mid_lt pre e l
    have h1 : ltB (pre.length : Int) (b.length : Int) = true := by simp [ltB]; omega
    rw [h1, ctl_true, getE_ens hl]
    have e1 : b.getD (pre.length : Int).toNat default = e := by rw [Int.toNat_natCast, ← hb, getD_mid]
    rw [e1]
    have e2 : okCs [Sh.int IntKind.i64, Sh.int IntKind.i64, Sh.sl 1] (enK e) = true := rfl
    rw [e2, ctl_true]
    have hw := hws e (by rw [← hb]; simp)
    have c1 : (nth PV.nilp (enK e) 0).toInt = e.t := rfl
    have c2 : (nth PV.nilp (enK e) 1).toInt = e.k := rfl
    have c3 : (nth PV.nilp (enK e) 2).toEs = intsK .i64 e.ws := rfl
    rw [c1, c2, c3, c_ValidE e.t e.k e.ws (by omega)]
    cases hv : validP e.t e.k e.ws with
    | false =>
      have hr : runB s p (e :: l) = none := by simp only [runB, hv]; rfl
      rw [hr]
      rfl
    | true =>
      obtain ⟨v1, v2, v3, v4, v5, v6, v7⟩ := validP_all hv
      have hq : ctl (ltB 0 (pre.length : Int)) (getE (ensK b) (IntKind.i64.wrap ((pre.length : Int) - 1)) fun c_1 => ctl (okCs [Sh.int IntKind.i64, Sh.int IntKind.i64, Sh.sl 1] c_1) (some (ltB e.t (nth PV.nilp c_1 0).toInt)) none) (some false) = some (!decide (p ≤ e.t)) := by
        rcases hp with ⟨rfl, rfl⟩ | ⟨q, a, rfl, rfl⟩
        · have : decide ((0 : Int) ≤ e.t) = true := decide_eq_true v1
          rw [this]; rfl
        · have g1 : ltB 0 (((q ++ [a]).length : Nat) : Int) = true := by simp [ltB] <;> omega
          have g2 : IntKind.i64.wrap ((((q ++ [a]).length : Nat) : Int) - 1) = (q.length : Int) := by
            rw [w64 (by simp at hl ⊢; omega)]; simp
          rw [g1, ctl_true, g2, getE_ens (by simp at hl; omega)]
          have g3 : b.getD (q.length : Int).toNat default = a := by rw [Int.toNat_natCast, ← hb, List.append_assoc]; exact getD_mid q a (e :: l) default
          rw [g3]
          have g4 : okCs [Sh.int IntKind.i64, Sh.int IntKind.i64, Sh.sl 1] (enK a) = true := rfl
          rw [g4, ctl_true]
          have g5 : (nth PV.nilp (enK a) 0).toInt = a.t := rfl
          rw [g5]
          by_cases hlt : e.t < a.t
          · have : ¬ a.t ≤ e.t := by omega
            simp [ltB, hlt, this]
          · have : a.t ≤ e.t := by omega
            simp [ltB, hlt, this]
      simp only [bnd_some, ctl_true, ctl_false, ctl_and, ctl_or', ctl_or2, x_toPV, x_toCs, x_toCs2, x_toEs, x_bEs, x_bCs, x_aPV, x_aCs, x_int, x_bool, x_str, x_es, x_esn, nth_0, nth_1, nth_2, nth_3, nth_4, nth_5, nth_6, nth_7, nth_8, nth_9, y_nil, y_int, y_bool, y_str, y_sl, y_nils, y_agg, y_ownp, y_own, z_nil, z_int, z_bool, z_str, z_sl, z_nils, b_nil, b_arr, b_box1, b_box2, b_box3, b_box4, List.map_cons, List.map_nil, Bool.and_self, Bool.and_true, Bool.true_and, Bool.not_true, Bool.not_false, Bool.or_false, Bool.false_or, cond_true, cond_false, okPack, okPut, okPutBlks, okPutCells, q_isP, q_isAg, q_isBox, q_isArr, q_int, q_bool, q_str, q_sl, q_nils, e_exit, e_ret, e_nrm, e_ret_exit, e_exit_ret, e_nrm_exit, e_nrm_ret, e_exit_nrm, e_ret_nrm, Nat.zero_add, Nat.reduceAdd, noslR, noslP, noslB, noslA, List.all_cons, List.all_nil]
      rw [hq]
      by_cases hpe : p ≤ e.t
      · have hr : runB s p (e :: l) = runB (sumB s (lineP e.t e.k e.ws)) e.t l := by simp only [runB, hv, hpe, and_self, if_true]
        rw [hr, decide_eq_true hpe]
        simp only [Bool.not_true, bnd_some, ctl_true, ctl_false, ctl_and, ctl_or', ctl_or2, x_toPV, x_toCs, x_toCs2, x_toEs, x_bEs, x_bCs, x_aPV, x_aCs, x_int, x_bool, x_str, x_es, x_esn, nth_0, nth_1, nth_2, nth_3, nth_4, nth_5, nth_6, nth_7, nth_8, nth_9, y_nil, y_int, y_bool, y_str, y_sl, y_nils, y_agg, y_ownp, y_own, z_nil, z_int, z_bool, z_str, z_sl, z_nils, b_nil, b_arr, b_box1, b_box2, b_box3, b_box4, List.map_cons, List.map_nil, Bool.and_self, Bool.and_true, Bool.true_and, Bool.not_true, Bool.not_false, Bool.or_false, Bool.false_or, cond_true, cond_false, okPack, okPut, okPutBlks, okPutCells, q_isP, q_isAg, q_isBox, q_isArr, q_int, q_bool, q_str, q_sl, q_nils, e_exit, e_ret, e_nrm, e_ret_exit, e_exit_ret, e_nrm_exit, e_nrm_ret, e_exit_nrm, e_ret_nrm, Nat.zero_add, Nat.reduceAdd, noslR, noslP, noslB, noslA, List.all_cons, List.all_nil]
        rw [c_lineE e.t e.k e.ws v2 v3 v4 (by omega) (by omega)]
        simp only [bnd_some, ctl_true, ctl_false, ctl_and, ctl_or', ctl_or2, x_toPV, x_toCs, x_toCs2, x_toEs, x_bEs, x_bCs, x_aPV, x_aCs, x_int, x_bool, x_str, x_es, x_esn, nth_0, nth_1, nth_2, nth_3, nth_4, nth_5, nth_6, nth_7, nth_8, nth_9, y_nil, y_int, y_bool, y_str, y_sl, y_nils, y_agg, y_ownp, y_own, z_nil, z_int, z_bool, z_str, z_sl, z_nils, b_nil, b_arr, b_box1, b_box2, b_box3, b_box4, List.map_cons, List.map_nil, Bool.and_self, Bool.and_true, Bool.true_and, Bool.not_true, Bool.not_false, Bool.or_false, Bool.false_or, cond_true, cond_false, okPack, okPut, okPutBlks, okPutCells, q_isP, q_isAg, q_isBox, q_isArr, q_int, q_bool, q_str, q_sl, q_nils, e_exit, e_ret, e_nrm, e_ret_exit, e_exit_ret, e_nrm_exit, e_nrm_ret, e_exit_nrm, e_ret_nrm, Nat.zero_add, Nat.reduceAdd, noslR, noslP, noslB, noslA, List.all_cons, List.all_nil]
        have hll : (lineP e.t e.k e.ws).length ≤ 9223372036854775807 := by unfold lineP; simp only [List.length_append, List.length_cons, List.length_nil]; omega
        rw [c_SumL s (lineP e.t e.k e.ws) hll]
        simp only [bnd_some, ctl_true, ctl_false, ctl_and, ctl_or', ctl_or2, x_toPV, x_toCs, x_toCs2, x_toEs, x_bEs, x_bCs, x_aPV, x_aCs, x_int, x_bool, x_str, x_es, x_esn, nth_0, nth_1, nth_2, nth_3, nth_4, nth_5, nth_6, nth_7, nth_8, nth_9, y_nil, y_int, y_bool, y_str, y_sl, y_nils, y_agg, y_ownp, y_own, z_nil, z_int, z_bool, z_str, z_sl, z_nils, b_nil, b_arr, b_box1, b_box2, b_box3, b_box4, List.map_cons, List.map_nil, Bool.and_self, Bool.and_true, Bool.true_and, Bool.not_true, Bool.not_false, Bool.or_false, Bool.false_or, cond_true, cond_false, okPack, okPut, okPutBlks, okPutCells, q_isP, q_isAg, q_isBox, q_isArr, q_int, q_bool, q_str, q_sl, q_nils, e_exit, e_ret, e_nrm, e_ret_exit, e_exit_ret, e_nrm_exit, e_nrm_ret, e_exit_nrm, e_ret_nrm, Nat.zero_add, Nat.reduceAdd, noslR, noslP, noslB, noslA, List.all_cons, List.all_nil]
        rw [w64 (n := (pre.length : Int) + 1) (by omega), len_snoc pre e]
        exact ih (pre ++ [e]) e.t _ (by rw [← hb]; simp) (.inr ⟨pre, e, rfl, rfl⟩)
      · have hr : runB s p (e :: l) = none := by simp only [runB, hpe, and_false, if_false]
        rw [hr, decide_eq_false hpe]
        rfl

theorem lp_CheckD (b : List En) (bs : Int) (hlen : b.length ≤ 200) (hws : ∀ e ∈ b, e.ws.length ≤ 1000000) : ∀ (l pre : List En) (p s : Int), pre ++ l = b → ((pre = [] ∧ p = 0) ∨ ∃ q a, pre = q ++ [a] ∧ a.t = p) →
    lp E (denC E) 46 0 [] 0 { vals := [AV.int .u64 s, AV.sl 3 (ensK b), AV.int .i64 b.length, AV.int .i64 pre.length], blks := [Blk.box [AV.sl 3 (ensK b), AV.int .u64 bs]] } =
      some (match runB s p l with
        | some x => (.exit 0, { vals := [AV.int .u64 x], blks := [Blk.box [AV.sl 3 (ensK b), AV.int .u64 bs]] })
        | none => (.ret, { vals := [AV.int .i64 72], blks := [] })) := by
  intro l
  induction l with
  | nil =>
    intro pre p s hb hp
    rw [r46_0]
    have h1 : ltB (pre.length : Int) (b.length : Int) = false := by rw [← hb]; simp [ltB]
    rw [h1, ctl_false]
    rfl
  | cons e l ih =>
    intro pre p s hb hp
    rw [r46_0]
    have hl : 0 ≤ (pre.length : Int) ∧ (pre.length : Int) < (b.length : Int) := by rw [← hb]; exact mid_lt pre e l
    have h1 : ltB (pre.length : Int) (b.length : Int) = true := by simp [ltB]; omega
    rw [h1, ctl_true, getE_ens hl]
    have e1 : b.getD (pre.length : Int).toNat default = e := by rw [Int.toNat_natCast, ← hb, getD_mid]
    rw [e1]
    have e2 : okCs [Sh.int IntKind.i64, Sh.int IntKind.i64, Sh.sl 1] (enK e) = true := rfl
    rw [e2, ctl_true]
    have hw := hws e (by rw [← hb]; simp)
    have c1 : (nth PV.nilp (enK e) 0).toInt = e.t := rfl
    have c2 : (nth PV.nilp (enK e) 1).toInt = e.k := rfl
    have c3 : (nth PV.nilp (enK e) 2).toEs = intsK .i64 e.ws := rfl
    rw [c1, c2, c3, c_ValidD e.t e.k e.ws (by omega)]
    cases hv : validP e.t e.k e.ws with
    | false =>
      have hr : runB s p (e :: l) = none := by simp only [runB, hv]; rfl
      rw [hr]
      rfl
    | true =>
      obtain ⟨v1, v2, v3, v4, v5, v6, v7⟩ := validP_all hv
      have hq : ctl (ltB 0 (pre.length : Int)) (getE (ensK b) (IntKind.i64.wrap ((pre.length : Int) - 1)) fun c_1 => ctl (okCs [Sh.int IntKind.i64, Sh.int IntKind.i64, Sh.sl 1] c_1) (some (ltB e.t (nth PV.nilp c_1 0).toInt)) none) (some false) = some (!decide (p ≤ e.t)) := by
        rcases hp with ⟨rfl, rfl⟩ | ⟨q, a, rfl, rfl⟩
        · have : decide ((0 : Int) ≤ e.t) = true := decide_eq_true v1
          rw [this]; rfl
        · have g1 : ltB 0 (((q ++ [a]).length : Nat) : Int) = true := by simp [ltB] <;> omega
          have g2 : IntKind.i64.wrap ((((q ++ [a]).length : Nat) : Int) - 1) = (q.length : Int) := by
            rw [w64 (by simp at hl ⊢; omega)]; simp
          rw [g1, ctl_true, g2, getE_ens (by simp at hl; omega)]
          have g3 : b.getD (q.length : Int).toNat default = a := by rw [Int.toNat_natCast, ← hb, List.append_assoc]; exact getD_mid q a (e :: l) default
          rw [g3]
          have g4 : okCs [Sh.int IntKind.i64, Sh.int IntKind.i64, Sh.sl 1] (enK a) = true := rfl
          rw [g4, ctl_true]
          have g5 : (nth PV.nilp (enK a) 0).toInt = a.t := rfl
          rw [g5]
          by_cases hlt : e.t < a.t
          · have : ¬ a.t ≤ e.t := by omega
            simp [ltB, hlt, this]
          · have : a.t ≤ e.t := by omega
            simp [ltB, hlt, this]
      simp only [bnd_some, ctl_true, ctl_false, ctl_and, ctl_or', ctl_or2, x_toPV, x_toCs, x_toCs2, x_toEs, x_bEs, x_bCs, x_aPV, x_aCs, x_int, x_bool, x_str, x_es, x_esn, nth_0, nth_1, nth_2, nth_3, nth_4, nth_5, nth_6, nth_7, nth_8, nth_9, y_nil, y_int, y_bool, y_str, y_sl, y_nils, y_agg, y_ownp, y_own, z_nil, z_int, z_bool, z_str, z_sl, z_nils, b_nil, b_arr, b_box1, b_box2, b_box3, b_box4, List.map_cons, List.map_nil, Bool.and_self, Bool.and_true, Bool.true_and, Bool.not_true, Bool.not_false, Bool.or_false, Bool.false_or, cond_true, cond_false, okPack, okPut, okPutBlks, okPutCells, q_isP, q_isAg, q_isBox, q_isArr, q_int, q_bool, q_str, q_sl, q_nils, e_exit, e_ret, e_nrm, e_ret_exit, e_exit_ret, e_nrm_exit, e_nrm_ret, e_exit_nrm, e_ret_nrm, Nat.zero_add, Nat.reduceAdd, noslR, noslP, noslB, noslA, List.all_cons, List.all_nil]
      rw [hq]
      by_cases hpe : p ≤ e.t
      · have hr : runB s p (e :: l) = runB (sumB s (lineP e.t e.k e.ws)) e.t l := by simp only [runB, hv, hpe, and_self, if_true]
        rw [hr, decide_eq_true hpe]
        simp only [Bool.not_true, bnd_some, ctl_true, ctl_false, ctl_and, ctl_or', ctl_or2, x_toPV, x_toCs, x_toCs2, x_toEs, x_bEs, x_bCs, x_aPV, x_aCs, x_int, x_bool, x_str, x_es, x_esn, nth_0, nth_1, nth_2, nth_3, nth_4, nth_5, nth_6, nth_7, nth_8, nth_9, y_nil, y_int, y_bool, y_str, y_sl, y_nils, y_agg, y_ownp, y_own, z_nil, z_int, z_bool, z_str, z_sl, z_nils, b_nil, b_arr, b_box1, b_box2, b_box3, b_box4, List.map_cons, List.map_nil, Bool.and_self, Bool.and_true, Bool.true_and, Bool.not_true, Bool.not_false, Bool.or_false, Bool.false_or, cond_true, cond_false, okPack, okPut, okPutBlks, okPutCells, q_isP, q_isAg, q_isBox, q_isArr, q_int, q_bool, q_str, q_sl, q_nils, e_exit, e_ret, e_nrm, e_ret_exit, e_exit_ret, e_nrm_exit, e_nrm_ret, e_exit_nrm, e_ret_nrm, Nat.zero_add, Nat.reduceAdd, noslR, noslP, noslB, noslA, List.all_cons, List.all_nil]
        rw [c_lineD e.t e.k e.ws v2 v3 v4 (by omega) (by omega)]
        simp only [bnd_some, ctl_true, ctl_false, ctl_and, ctl_or', ctl_or2, x_toPV, x_toCs, x_toCs2, x_toEs, x_bEs, x_bCs, x_aPV, x_aCs, x_int, x_bool, x_str, x_es, x_esn, nth_0, nth_1, nth_2, nth_3, nth_4, nth_5, nth_6, nth_7, nth_8, nth_9, y_nil, y_int, y_bool, y_str, y_sl, y_nils, y_agg, y_ownp, y_own, z_nil, z_int, z_bool, z_str, z_sl, z_nils, b_nil, b_arr, b_box1, b_box2, b_box3, b_box4, List.map_cons, List.map_nil, Bool.and_self, Bool.and_true, Bool.true_and, Bool.not_true, Bool.not_false, Bool.or_false, Bool.false_or, cond_true, cond_false, okPack, okPut, okPutBlks, okPutCells, q_isP, q_isAg, q_isBox, q_isArr, q_int, q_bool, q_str, q_sl, q_nils, e_exit, e_ret, e_nrm, e_ret_exit, e_exit_ret, e_nrm_exit, e_nrm_ret, e_exit_nrm, e_ret_nrm, Nat.zero_add, Nat.reduceAdd, noslR, noslP, noslB, noslA, List.all_cons, List.all_nil]
        have hll : (lineP e.t e.k e.ws).length ≤ 9223372036854775807 := by unfold lineP; simp only [List.length_append, List.length_cons, List.length_nil]; omega
        rw [c_SumD s (lineP e.t e.k e.ws) hll]
        simp only [bnd_some, ctl_true, ctl_false, ctl_and, ctl_or', ctl_or2, x_toPV, x_toCs, x_toCs2, x_toEs, x_bEs, x_bCs, x_aPV, x_aCs, x_int, x_bool, x_str, x_es, x_esn, nth_0, nth_1, nth_2, nth_3, nth_4, nth_5, nth_6, nth_7, nth_8, nth_9, y_nil, y_int, y_bool, y_str, y_sl, y_nils, y_agg, y_ownp, y_own, z_nil, z_int, z_bool, z_str, z_sl, z_nils, b_nil, b_arr, b_box1, b_box2, b_box3, b_box4, List.map_cons, List.map_nil, Bool.and_self, Bool.and_true, Bool.true_and, Bool.not_true, Bool.not_false, Bool.or_false, Bool.false_or, cond_true, cond_false, okPack, okPut, okPutBlks, okPutCells, q_isP, q_isAg, q_isBox, q_isArr, q_int, q_bool, q_str, q_sl, q_nils, e_exit, e_ret, e_nrm, e_ret_exit, e_exit_ret, e_nrm_exit, e_nrm_ret, e_exit_nrm, e_ret_nrm, Nat.zero_add, Nat.reduceAdd, noslR, noslP, noslB, noslA, List.all_cons, List.all_nil]
        rw [w64 (n := (pre.length : Int) + 1) (by omega), len_snoc pre e]
        exact ih (pre ++ [e]) e.t _ (by rw [← hb]; simp) (.inr ⟨pre, e, rfl, rfl⟩)
      · have hr : runB s p (e :: l) = none := by simp only [runB, hpe, and_false, if_false]
        rw [hr, decide_eq_false hpe]
        rfl

theorem c_CheckE (b : List En) (bs : Int) (hws : ∀ e ∈ b, e.ws.length ≤ 1000000) : denC E 15 [AV.agg [PV.sl 3 (ensK b), PV.int .u64 bs]] [] = some ([RV.p (PV.int .i64 (checkP b bs))], []) := by
  rw [denC_eq, r15, ensK_len]
  unfold checkP
  by_cases hl : 200 < b.length
  · have h1 : ltB 200 (b.length : Int) = true := by simp [ltB]; omega
    rw [h1, ctl_true, if_pos hl]
  · have h1 : ltB 200 (b.length : Int) = false := by simp [ltB]; omega
    rw [h1, ctl_false, if_neg hl]
    have hlp := lp_CheckE b bs (by omega) hws b [] 0 begin36 rfl (.inl ⟨rfl, rfl⟩)
    simp only [List.length_nil, Int.ofNat_zero] at hlp
    rw [c_Begin]
    simp only [bnd_some, ctl_true, ctl_false, ctl_and, ctl_or', ctl_or2, x_toPV, x_toCs, x_toCs2, x_toEs, x_bEs, x_bCs, x_aPV, x_aCs, x_int, x_bool, x_str, x_es, x_esn, nth_0, nth_1, nth_2, nth_3, nth_4, nth_5, nth_6, nth_7, nth_8, nth_9, y_nil, y_int, y_bool, y_str, y_sl, y_nils, y_agg, y_ownp, y_own, z_nil, z_int, z_bool, z_str, z_sl, z_nils, b_nil, b_arr, b_box1, b_box2, b_box3, b_box4, List.map_cons, List.map_nil, Bool.and_self, Bool.and_true, Bool.true_and, Bool.not_true, Bool.not_false, Bool.or_false, Bool.false_or, cond_true, cond_false, okPack, okPut, okPutBlks, okPutCells, q_isP, q_isAg, q_isBox, q_isArr, q_int, q_bool, q_str, q_sl, q_nils, e_exit, e_ret, e_nrm, e_ret_exit, e_exit_ret, e_nrm_exit, e_nrm_ret, e_exit_nrm, e_ret_nrm, Nat.zero_add, Nat.reduceAdd, noslR, noslP, noslB, noslA, List.all_cons, List.all_nil]
    rw [hlp]
    cases hr : runB begin36 0 b with
    | none => rfl
    | some x =>
      simp only [bnd_some, ctl_true, ctl_false, ctl_and, ctl_or', ctl_or2, x_toPV, x_toCs, x_toCs2, x_toEs, x_bEs, x_bCs, x_aPV, x_aCs, x_int, x_bool, x_str, x_es, x_esn, nth_0, nth_1, nth_2, nth_3, nth_4, nth_5, nth_6, nth_7, nth_8, nth_9, y_nil, y_int, y_bool, y_str, y_sl, y_nils, y_agg, y_ownp, y_own, z_nil, z_int, z_bool, z_str, z_sl, z_nils, b_nil, b_arr, b_box1, b_box2, b_box3, b_box4, List.map_cons, List.map_nil, Bool.and_self, Bool.and_true, Bool.true_and, Bool.not_true, Bool.not_false, Bool.or_false, Bool.false_or, cond_true, cond_false, okPack, okPut, okPutBlks, okPutCells, q_isP, q_isAg, q_isBox, q_isArr, q_int, q_bool, q_str, q_sl, q_nils, e_exit, e_ret, e_nrm, e_ret_exit, e_exit_ret, e_nrm_exit, e_nrm_ret, e_exit_nrm, e_ret_nrm, Nat.zero_add, Nat.reduceAdd, noslR, noslP, noslB, noslA, List.all_cons, List.all_nil]
      by_cases hx : x = bs
      · subst hx
        rw [if_pos rfl]
        have : (x != x) = false := by simp
        rw [this]
        rfl
      · have h2 : (x != bs) = true := by simpa using hx
        rw [if_neg (by simpa using hx), h2]
        rfl

theorem c_CheckD (b : List En) (bs : Int) (hws : ∀ e ∈ b, e.ws.length ≤ 1000000) : denC E 46 [AV.agg [PV.sl 3 (ensK b), PV.int .u64 bs]] [] = some ([RV.p (PV.int .i64 (checkP b bs))], []) := by
  rw [denC_eq, r46, ensK_len]
  unfold checkP
  by_cases hl : 200 < b.length
  · have h1 : ltB 200 (b.length : Int) = true := by simp [ltB]; omega
    rw [h1, ctl_true, if_pos hl]
  · have h1 : ltB 200 (b.length : Int) = false := by simp [ltB]; omega
    rw [h1, ctl_false, if_neg hl]
    have hlp := lp_CheckD b bs (by omega) hws b [] 0 begin36 rfl (.inl ⟨rfl, rfl⟩)
    simp only [List.length_nil, Int.ofNat_zero] at hlp
    rw [show (14695981039346656037 : Int) = begin36 from rfl]
    rw [hlp]
    cases hr : runB begin36 0 b with
    | none => rfl
    | some x =>
      simp only [bnd_some, ctl_true, ctl_false, ctl_and, ctl_or', ctl_or2, x_toPV, x_toCs, x_toCs2, x_toEs, x_bEs, x_bCs, x_aPV, x_aCs, x_int, x_bool, x_str, x_es, x_esn, nth_0, nth_1, nth_2, nth_3, nth_4, nth_5, nth_6, nth_7, nth_8, nth_9, y_nil, y_int, y_bool, y_str, y_sl, y_nils, y_agg, y_ownp, y_own, z_nil, z_int, z_bool, z_str, z_sl, z_nils, b_nil, b_arr, b_box1, b_box2, b_box3, b_box4, List.map_cons, List.map_nil, Bool.and_self, Bool.and_true, Bool.true_and, Bool.not_true, Bool.not_false, Bool.or_false, Bool.false_or, cond_true, cond_false, okPack, okPut, okPutBlks, okPutCells, q_isP, q_isAg, q_isBox, q_isArr, q_int, q_bool, q_str, q_sl, q_nils, e_exit, e_ret, e_nrm, e_ret_exit, e_exit_ret, e_nrm_exit, e_nrm_ret, e_exit_nrm, e_ret_nrm, Nat.zero_add, Nat.reduceAdd, noslR, noslP, noslB, noslA, List.all_cons, List.all_nil]
      by_cases hx : x = bs
      · subst hx
        rw [if_pos rfl]
        have : (x != x) = false := by simp
        rw [this]
        rfl
      · have h2 : (x != bs) = true := by simpa using hx
        rw [if_neg (by simpa using hx), h2]
        rfl

theorem rCI_nil (F : Fun) : funK E F 56 [AV.sl 1 []] [] = both (some ([RV.p (PV.sl 1 [])], [])) (some ([RV.p (PV.sl 1 [])], [])) := by kernel_rfl

theorem rCI_cons (F : Fun) (e : List PV) (l : List (List PV)) : funK E F 56 [AV.sl 1 (e :: l)] [] = ctl (leN ((0 + (e :: l).length) * 8) 140737488355328) (some ([RV.p (PV.sl 1 ([] ++ e :: l))], [])) none := by kernel_rfl

theorem c_CloneI {ws : List Int} (h : ws.length ≤ 1000000) : denC E 56 [AV.sl 1 (intsK .i64 ws)] [] = some ([RV.p (PV.sl 1 (intsK .i64 ws))], []) := by
  rw [denC_eq]
  cases ws with
  | nil =>
    have : intsK .i64 [] = [] := rfl
    rw [this, rCI_nil, both_same]
  | cons x l =>
    have : intsK .i64 (x :: l) = [PV.int .i64 x] :: intsK .i64 l := rfl
    rw [this, rCI_cons, List.nil_append, Nat.zero_add]
    have e : leN (([PV.int .i64 x] :: intsK .i64 l).length * 8) 140737488355328 = true := by
      simp only [List.length_cons, intsK_len] at h ⊢
      simp [leN]; omega
    rw [e]
    rfl

theorem c_copyEntry (e : En) (h : e.ws.length ≤ 1000000) : denC E 31 [AV.agg (enK e)] [] = some ([RV.agg (enK e)], []) := by
  unfold enK
  rw [denC_eq, r31, c_CloneI h]
  rfl

def lateP (b : List En) (t : Int) : Bool := match b.getLast? with | some a => decide (a.t ≤ t) | none => true

theorem c_late (b : List En) (bs : Int) (e : En) (h : b.length ≤ 1000000) : denC E 30 [AV.agg [PV.sl 3 (ensK b), PV.int .u64 bs], AV.agg (enK e)] [] = some ([RV.p (PV.bool (lateP b e.t))], []) := by
  unfold enK
  rw [denC_eq, r30, ensK_len]
  rcases List.eq_nil_or_concat b with rfl | ⟨q, a, rfl⟩
  · rfl
  · have h1 : ((((q.concat a).length : Nat) : Int) == 0) = false := by
      rw [beq_eq_false_iff_ne]; simp; omega
    have g2 : IntKind.i64.wrap ((((q.concat a).length : Nat) : Int) - 1) = (q.length : Int) := by
      rw [w64 (by simp at h ⊢; omega)]; simp
    rw [h1, g2, getE_ens (by simp; omega)]
    have g3 : (q.concat a).getD (q.length : Int).toNat default = a := by rw [Int.toNat_natCast, List.concat_eq_append]; exact getD_mid q a [] default
    rw [g3]
    have g4 : lateP (q.concat a) e.t = decide (a.t ≤ e.t) := by simp [lateP, List.concat_eq_append]
    rw [g4]
    rfl

def appE (b : List En) (bs : Int) (e : En) : Int := if checkP b bs ≠ 0 ∨ validP e.t e.k e.ws = false then 72 else if lateP b e.t = false then 16 else if b.length = 200 then 2 else 0

def appR (b : List En) (bs : Int) (e : En) : List RV :=
  if appE b bs e = 0 then [RV.agg [PV.sl 3 (ensK (b ++ [e])), PV.int .u64 (sumB bs (lineP e.t e.k e.ws))], RV.p (PV.int .i64 0)]
  else [RV.agg [PV.nils, PV.int .u64 0], RV.p (PV.int .i64 (appE b bs e))]

theorem checkP_len {b : List En} {bs : Int} (h : checkP b bs = 0) : b.length ≤ 200 := by
  unfold checkP at h
  split at h
  · omega
  · omega

theorem c_AppendD (b : List En) (bs : Int) (e : En) (hws : ∀ e ∈ b, e.ws.length ≤ 1000000) (he : e.ws.length ≤ 1000000) : denC E 26 [AV.agg [PV.sl 3 (ensK b), PV.int .u64 bs], AV.agg (enK e)] [] = some (appR b bs e, []) := by
  have hv := c_ValidD e.t e.k e.ws (by omega)
  unfold enK
  rw [denC_eq, r26, c_CheckD b bs hws, hv, ensK_len]
  simp only [bnd_some, ctl_true, ctl_false, ctl_and, ctl_or', ctl_or2, x_toPV, x_toCs, x_toCs2, x_toEs, x_bEs, x_bCs, x_aPV, x_aCs, x_int, x_bool, x_str, x_es, x_esn, nth_0, nth_1, nth_2, nth_3, nth_4, nth_5, nth_6, nth_7, nth_8, nth_9, y_nil, y_int, y_bool, y_str, y_sl, y_nils, y_agg, y_ownp, y_own, z_nil, z_int, z_bool, z_str, z_sl, z_nils, b_nil, b_arr, b_box1, b_box2, b_box3, b_box4, List.map_cons, List.map_nil, Bool.and_self, Bool.and_true, Bool.true_and, Bool.not_true, Bool.not_false, Bool.or_false, Bool.false_or, cond_true, cond_false, okPack, okPut, okPutBlks, okPutCells, q_isP, q_isAg, q_isBox, q_isArr, q_int, q_bool, q_str, q_sl, q_nils, e_exit, e_ret, e_nrm, e_ret_exit, e_exit_ret, e_nrm_exit, e_nrm_ret, e_exit_nrm, e_ret_nrm, Nat.zero_add, Nat.reduceAdd, noslR, noslP, noslB, noslA, List.all_cons, List.all_nil]
  by_cases hc : checkP b bs = 0
  · have h1 : (checkP b bs != 0) = false := by simp [hc]
    rw [h1]
    have hl := checkP_len hc
    cases hve : validP e.t e.k e.ws with
    | false =>
      have : appE b bs e = 72 := by unfold appE; rw [if_pos (.inr hve)]
      unfold appR
      rw [this]
      rfl
    | true =>
      obtain ⟨v1, v2, v3, v4, v5, v6, v7⟩ := validP_all hve
      have hq : ctl (ltB 0 (b.length : Int)) (getE (ensK b) (IntKind.i64.wrap ((b.length : Int) - 1)) fun c => ctl (okCs [Sh.int IntKind.i64, Sh.int IntKind.i64, Sh.sl 1] c) (some (ltB e.t (nth PV.nilp c 0).toInt)) none) (some false) = some (!lateP b e.t) := by
        rcases List.eq_nil_or_concat b with rfl | ⟨q, a, rfl⟩
        · rfl
        · have g1 : ltB 0 (((q.concat a).length : Nat) : Int) = true := by simp [ltB] <;> omega
          have g2 : IntKind.i64.wrap ((((q.concat a).length : Nat) : Int) - 1) = (q.length : Int) := by
            rw [w64 (by simp at hl ⊢; omega)]; simp
          rw [g1, ctl_true, g2, getE_ens (by simp; omega)]
          have g3 : (q.concat a).getD (q.length : Int).toNat default = a := by rw [Int.toNat_natCast, List.concat_eq_append]; exact getD_mid q a [] default
          rw [g3]
          have g4 : lateP (q.concat a) e.t = decide (a.t ≤ e.t) := by simp [lateP, List.concat_eq_append]
          have g5 : okCs [Sh.int IntKind.i64, Sh.int IntKind.i64, Sh.sl 1] (enK a) = true := rfl
          have g6 : (nth PV.nilp (enK a) 0).toInt = a.t := rfl
          rw [g4, g5, ctl_true, g6]
          by_cases hlt : e.t < a.t
          · have : ¬ a.t ≤ e.t := by omega
            simp [ltB, hlt, this]
          · have : a.t ≤ e.t := by omega
            simp [ltB, hlt, this]
      simp only [Bool.not_false, Bool.not_true, bnd_some, ctl_true, ctl_false, ctl_and, ctl_or', ctl_or2, x_toPV, x_toCs, x_toCs2, x_toEs, x_bEs, x_bCs, x_aPV, x_aCs, x_int, x_bool, x_str, x_es, x_esn, nth_0, nth_1, nth_2, nth_3, nth_4, nth_5, nth_6, nth_7, nth_8, nth_9, y_nil, y_int, y_bool, y_str, y_sl, y_nils, y_agg, y_ownp, y_own, z_nil, z_int, z_bool, z_str, z_sl, z_nils, b_nil, b_arr, b_box1, b_box2, b_box3, b_box4, List.map_cons, List.map_nil, Bool.and_self, Bool.and_true, Bool.true_and, Bool.not_true, Bool.not_false, Bool.or_false, Bool.false_or, cond_true, cond_false, okPack, okPut, okPutBlks, okPutCells, q_isP, q_isAg, q_isBox, q_isArr, q_int, q_bool, q_str, q_sl, q_nils, e_exit, e_ret, e_nrm, e_ret_exit, e_exit_ret, e_nrm_exit, e_nrm_ret, e_exit_nrm, e_ret_nrm, Nat.zero_add, Nat.reduceAdd, noslR, noslP, noslB, noslA, List.all_cons, List.all_nil]
      rw [hq]
      cases hla : lateP b e.t with
      | false =>
        have : appE b bs e = 16 := by unfold appE; rw [if_neg (by simp [hc, hve]), if_pos hla]
        unfold appR
        rw [this]
        rfl
      | true =>
        simp only [Bool.not_true, bnd_some, ctl_true, ctl_false, ctl_and, ctl_or', ctl_or2, x_toPV, x_toCs, x_toCs2, x_toEs, x_bEs, x_bCs, x_aPV, x_aCs, x_int, x_bool, x_str, x_es, x_esn, nth_0, nth_1, nth_2, nth_3, nth_4, nth_5, nth_6, nth_7, nth_8, nth_9, y_nil, y_int, y_bool, y_str, y_sl, y_nils, y_agg, y_ownp, y_own, z_nil, z_int, z_bool, z_str, z_sl, z_nils, b_nil, b_arr, b_box1, b_box2, b_box3, b_box4, List.map_cons, List.map_nil, Bool.and_self, Bool.and_true, Bool.true_and, Bool.not_true, Bool.not_false, Bool.or_false, Bool.false_or, cond_true, cond_false, okPack, okPut, okPutBlks, okPutCells, q_isP, q_isAg, q_isBox, q_isArr, q_int, q_bool, q_str, q_sl, q_nils, e_exit, e_ret, e_nrm, e_ret_exit, e_exit_ret, e_nrm_exit, e_nrm_ret, e_exit_nrm, e_ret_nrm, Nat.zero_add, Nat.reduceAdd, noslR, noslP, noslB, noslA, List.all_cons, List.all_nil]
        by_cases h200 : b.length = 200
        · have : appE b bs e = 2 := by unfold appE; rw [if_neg (by simp [hc, hve]), if_neg (by simp [hla]), if_pos h200]
          unfold appR
          rw [this]
          have h2 : (((b.length : Nat) : Int) == 200) = true := by rw [h200]; rfl
          rw [h2]
          rfl
        · have : appE b bs e = 0 := by unfold appE; rw [if_neg (by simp [hc, hve]), if_neg (by simp [hla]), if_neg h200]
          unfold appR
          rw [this, if_pos rfl]
          have h2 : (((b.length : Nat) : Int) == 200) = false := by rw [beq_eq_false_iff_ne]; omega
          have h3 : leN (b.length * 40) 140737488355328 = true := by simp [leN]; omega
          have h4 : leN ((b.length + 1) * 40) 140737488355328 = true := by simp [leN]; omega
          have hll : (lineP e.t e.k e.ws).length ≤ 9223372036854775807 := by unfold lineP; simp only [List.length_append, List.length_cons, List.length_nil]; omega
          rw [h2, h3, h4, c_lineD e.t e.k e.ws v2 v3 v4 (by omega) (by omega)]
          simp only [bnd_some, ctl_true, ctl_false, ctl_and, ctl_or', ctl_or2, x_toPV, x_toCs, x_toCs2, x_toEs, x_bEs, x_bCs, x_aPV, x_aCs, x_int, x_bool, x_str, x_es, x_esn, nth_0, nth_1, nth_2, nth_3, nth_4, nth_5, nth_6, nth_7, nth_8, nth_9, y_nil, y_int, y_bool, y_str, y_sl, y_nils, y_agg, y_ownp, y_own, z_nil, z_int, z_bool, z_str, z_sl, z_nils, b_nil, b_arr, b_box1, b_box2, b_box3, b_box4, List.map_cons, List.map_nil, Bool.and_self, Bool.and_true, Bool.true_and, Bool.not_true, Bool.not_false, Bool.or_false, Bool.false_or, cond_true, cond_false, okPack, okPut, okPutBlks, okPutCells, q_isP, q_isAg, q_isBox, q_isArr, q_int, q_bool, q_str, q_sl, q_nils, e_exit, e_ret, e_nrm, e_ret_exit, e_exit_ret, e_nrm_exit, e_nrm_ret, e_exit_nrm, e_ret_nrm, Nat.zero_add, Nat.reduceAdd, noslR, noslP, noslB, noslA, List.all_cons, List.all_nil]
          rw [c_SumD bs _ hll]
          simp only [ensK, List.map_append, List.map_cons, List.map_nil]
          rfl
  · have h1 : (checkP b bs != 0) = true := by simpa using hc
    rw [h1]
    have : appE b bs e = 72 := by unfold appE; rw [if_pos (.inl hc)]
    unfold appR
    rw [this]
    rfl

def trip (e : En) : Int × Int × Int := (e.t, e.k, e.ws.headD 0)

theorem entsE_ens : ∀ {b : List En}, (∀ e ∈ b, e.ws ≠ []) → entsE (ensK b) = some (b.map trip)
  | [], _ => rfl
  | e :: b, h => by
    have h1 := entsE_ens (b := b) fun x hx => h x (.tail _ hx)
    have h2 : entE (enK e) = some (trip e) := by
      have := h e (.head _)
      unfold enK trip
      cases hw : e.ws with
      | nil => exact absurd hw this
      | cons x l => rfl
    have e1 : ensK (e :: b) = enK e :: ensK b := rfl
    rw [e1]
    simp only [entsE, h2, h1, List.map_cons]

theorem c_atE (b : List En) (bs kind time : Int) (hw : ∀ e ∈ b, e.ws ≠ []) (hl : b.length ≤ 100000) : denC E 61 [AV.agg [PV.sl 3 (ensK b), PV.int .u64 bs], AV.int .i64 kind, AV.int .i64 time] [] =
    some ([RV.p (PV.int .i64 (atL kind time (b.map trip)).1), RV.p (PV.bool (atL kind time (b.map trip)).2)], []) := by
  rw [denC_eq]
  have : funK E (denC E) 61 [AV.agg [PV.sl 3 (ensK b), PV.int .u64 bs], AV.int .i64 kind, AV.int .i64 time] [] = match pAt [AV.agg [PV.sl 3 (ensK b), PV.int .u64 bs], AV.int .i64 kind, AV.int .i64 time] with | some rs => some (rs, []) | none => none := by kernel_rfl
  rw [this]
  unfold pAt
  simp only [entsE_ens hw, List.length_map, hl, if_true]

theorem runB_ok : ∀ {l : List En} {s p x : Int}, runB s p l = some x → ∀ e ∈ l, validP e.t e.k e.ws = true
  | [], _, _, _, _, e, he => by cases he
  | a :: l, s, p, x, h, e, he => by
    simp only [runB] at h
    split at h
    · rename_i hq
      rcases List.mem_cons.1 he with rfl | he
      · exact hq.1
      · exact runB_ok h e he
    · cases h

theorem checkP_run {b : List En} {bs : Int} (h : checkP b bs = 0) : runB begin36 0 b = some bs := by
  unfold checkP at h
  split at h
  · cases h
  · split at h
    · assumption
    · cases h

theorem checkP_ok {b : List En} {bs : Int} (h : checkP b bs = 0) : ∀ e ∈ b, e.ws ≠ [] := fun e he hn => by
  have hv := runB_ok (checkP_run h) e he
  obtain ⟨_, _, _, _, _, _, h7⟩ := validP_all hv
  rw [hn] at h7
  have := wordsP_kind (k := e.k) (by rw [← h7]; simp)
  have h8 : wordsP e.k = 0 := by rw [← h7]; rfl
  unfold wordsP at h8
  split at h8
  · cases h8
  · split at h8
    · cases h8
    · split at h8
      · cases h8
      · split at h8 <;> cases h8

def lastP (bs : Int) : List UInt8 := [61, 32] ++ Lib.itoa bs ++ [10]

theorem itoaU_len {n : Int} (h : 0 ≤ n ∧ n ≤ 18446744073709551615) : (Lib.itoa n).length ≤ 21 := by
  have h3 := dec_len36 20 n.toNat (by omega)
  unfold Lib.itoa
  rw [if_neg (by omega)]
  exact h3

theorem c_lastE (es : List (List PV)) (bs : Int) (h : 0 ≤ bs ∧ bs ≤ 18446744073709551615) : denC E 23 [AV.agg [PV.sl 3 es, PV.int .u64 bs]] [] = some ([RV.p (PV.str (lastP bs))], []) := by
  rw [denC_eq, r23, c_FormatUint bs h]
  have hl := itoaU_len h
  have e1 : leN (2 + (Lib.itoa bs).length) 9223372036854775807 = true := by simp [leN]; omega
  have e2 : leN (([61, 32] ++ Lib.itoa bs).length + 1) 9223372036854775807 = true := by simp [leN]; omega
  simp only [bnd_some, ctl_true, ctl_false, ctl_and, ctl_or', ctl_or2, x_toPV, x_toCs, x_toCs2, x_toEs, x_bEs, x_bCs, x_aPV, x_aCs, x_int, x_bool, x_str, x_es, x_esn, nth_0, nth_1, nth_2, nth_3, nth_4, nth_5, nth_6, nth_7, nth_8, nth_9, y_nil, y_int, y_bool, y_str, y_sl, y_nils, y_agg, y_ownp, y_own, z_nil, z_int, z_bool, z_str, z_sl, z_nils, b_nil, b_arr, b_box1, b_box2, b_box3, b_box4, List.map_cons, List.map_nil, Bool.and_self, Bool.and_true, Bool.true_and, Bool.not_true, Bool.not_false, Bool.or_false, Bool.false_or, cond_true, cond_false, okPack, okPut, okPutBlks, okPutCells, q_isP, q_isAg, q_isBox, q_isArr, q_int, q_bool, q_str, q_sl, q_nils, e_exit, e_ret, e_nrm, e_ret_exit, e_exit_ret, e_nrm_exit, e_nrm_ret, e_exit_nrm, e_ret_nrm, Nat.zero_add, Nat.reduceAdd, noslR, noslP, noslB, noslA, List.all_cons, List.all_nil]
  rw [e1, e2]
  rfl

theorem c_lastD (es : List (List PV)) (bs : Int) (h : 0 ≤ bs ∧ bs ≤ 18446744073709551615) : denC E 34 [AV.agg [PV.sl 3 es, PV.int .u64 bs]] [] = some ([RV.p (PV.str (lastP bs))], []) := by
  rw [denC_eq, r34, c_FormatUint bs h]
  have hl := itoaU_len h
  have e1 : leN (2 + (Lib.itoa bs).length) 9223372036854775807 = true := by simp [leN]; omega
  have e2 : leN (([61, 32] ++ Lib.itoa bs).length + 1) 9223372036854775807 = true := by simp [leN]; omega
  simp only [bnd_some, ctl_true, ctl_false, ctl_and, ctl_or', ctl_or2, x_toPV, x_toCs, x_toCs2, x_toEs, x_bEs, x_bCs, x_aPV, x_aCs, x_int, x_bool, x_str, x_es, x_esn, nth_0, nth_1, nth_2, nth_3, nth_4, nth_5, nth_6, nth_7, nth_8, nth_9, y_nil, y_int, y_bool, y_str, y_sl, y_nils, y_agg, y_ownp, y_own, z_nil, z_int, z_bool, z_str, z_sl, z_nils, b_nil, b_arr, b_box1, b_box2, b_box3, b_box4, List.map_cons, List.map_nil, Bool.and_self, Bool.and_true, Bool.true_and, Bool.not_true, Bool.not_false, Bool.or_false, Bool.false_or, cond_true, cond_false, okPack, okPut, okPutBlks, okPutCells, q_isP, q_isAg, q_isBox, q_isArr, q_int, q_bool, q_str, q_sl, q_nils, e_exit, e_ret, e_nrm, e_ret_exit, e_exit_ret, e_nrm_exit, e_nrm_ret, e_exit_nrm, e_ret_nrm, Nat.zero_add, Nat.reduceAdd, noslR, noslP, noslB, noslA, List.all_cons, List.all_nil]
  rw [e1, e2]
  rfl

end Go.Proofs.YtiijghkfinkphaaGreatDoor.Vm

/- Contracts of chapter 36: appending, texts, equality. -/
namespace Go.Proofs.YtiijghkfinkphaaGreatDoor.Vm
set_option linter.unusedVariables false
set_option linter.unusedSimpArgs false

theorem c_New36 : denC E 17 [] [] = some ([RV.agg [PV.nils, PV.int .u64 begin36]], []) := by
  rw [denC_eq, r17]
  rfl

theorem c_NewD : denC E 24 [] [] = some ([RV.agg [PV.nils, PV.int .u64 begin36]], []) := by
  rw [denC_eq, r24]
  rfl

theorem l_IntsR (pre l : List Int) (h : (pre ++ l).length ≤ 1000000) :
    lp E (denC E) 35 0 [] 0 { vals := [AV.sl 1 (intsK .i64 (pre ++ l)), AV.sl 1 (intsK .i64 (pre ++ l)), AV.int .i64 (pre ++ l).length, AV.int .i64 pre.length], blks := [] } = some (.exit 0, { vals := [], blks := [] }) := by
  induction l generalizing pre with
  | nil =>
    rw [r35_0]
    have h1 : ltB (pre.length : Int) (((pre ++ []).length : Nat) : Int) = false := by simp [ltB]
    rw [h1, ctl_false]
  | cons b l ih =>
    rw [r35_0]
    have hl := mid_lt pre b l
    have h1 : ltB (pre.length : Int) (((pre ++ b :: l).length : Nat) : Int) = true := by simp [ltB]; omega
    rw [h1, ctl_true, getE_ints hl, getE_ints hl]
    have e1 : (pre ++ b :: l).getD (pre.length : Int).toNat 0 = b := by rw [Int.toNat_natCast, getD_mid]
    rw [e1]
    simp only [bne_self_eq_false, bnd_some, ctl_true, ctl_false, ctl_and, ctl_or', ctl_or2, x_toPV, x_toCs, x_toCs2, x_toEs, x_bEs, x_bCs, x_aPV, x_aCs, x_int, x_bool, x_str, x_es, x_esn, nth_0, nth_1, nth_2, nth_3, nth_4, nth_5, nth_6, nth_7, nth_8, nth_9, y_nil, y_int, y_bool, y_str, y_sl, y_nils, y_agg, y_ownp, y_own, z_nil, z_int, z_bool, z_str, z_sl, z_nils, b_nil, b_arr, b_box1, b_box2, b_box3, b_box4, List.map_cons, List.map_nil, Bool.and_self, Bool.and_true, Bool.true_and, Bool.not_true, Bool.not_false, Bool.or_false, Bool.false_or, cond_true, cond_false, okPack, okPut, okPutBlks, okPutCells, q_isP, q_isAg, q_isBox, q_isArr, q_int, q_bool, q_str, q_sl, q_nils, e_exit, e_ret, e_nrm, e_ret_exit, e_exit_ret, e_nrm_exit, e_nrm_ret, e_exit_nrm, e_ret_nrm, Nat.zero_add, Nat.reduceAdd, noslR, noslP, noslB, noslA, List.all_cons, List.all_nil]
    rw [w64 (n := (pre.length : Int) + 1) (by omega), len_snoc pre b, app_cons pre b l]
    exact ih (pre ++ [b]) (by simpa using h)

theorem c_IntsR (l : List Int) (h : l.length ≤ 1000000) : denC E 35 [AV.sl 1 (intsK .i64 l), AV.sl 1 (intsK .i64 l)] [] = some ([RV.p (PV.bool true)], []) := by
  rw [denC_eq, r35, intsK_len]
  have hlp := l_IntsR [] l h
  simp only [List.nil_append, List.length_nil, Int.ofNat_zero] at hlp
  rw [hlp]
  simp only [bne_self_eq_false, bnd_some, ctl_true, ctl_false, ctl_and, ctl_or', ctl_or2, x_toPV, x_toCs, x_toCs2, x_toEs, x_bEs, x_bCs, x_aPV, x_aCs, x_int, x_bool, x_str, x_es, x_esn, nth_0, nth_1, nth_2, nth_3, nth_4, nth_5, nth_6, nth_7, nth_8, nth_9, y_nil, y_int, y_bool, y_str, y_sl, y_nils, y_agg, y_ownp, y_own, z_nil, z_int, z_bool, z_str, z_sl, z_nils, b_nil, b_arr, b_box1, b_box2, b_box3, b_box4, List.map_cons, List.map_nil, Bool.and_self, Bool.and_true, Bool.true_and, Bool.not_true, Bool.not_false, Bool.or_false, Bool.false_or, cond_true, cond_false, okPack, okPut, okPutBlks, okPutCells, q_isP, q_isAg, q_isBox, q_isArr, q_int, q_bool, q_str, q_sl, q_nils, e_exit, e_ret, e_nrm, e_ret_exit, e_exit_ret, e_nrm_exit, e_nrm_ret, e_exit_nrm, e_ret_nrm, Nat.zero_add, Nat.reduceAdd, noslR, noslP, noslB, noslA, List.all_cons, List.all_nil]

theorem l_EntR (b : List En) (hb : b.length ≤ 1000000) (hws : ∀ e ∈ b, e.ws.length ≤ 1000000) : ∀ (l pre : List En), pre ++ l = b →
    lp E (denC E) 14 0 [] 0 { vals := [AV.sl 3 (ensK b), AV.sl 3 (ensK b), AV.int .i64 b.length, AV.int .i64 pre.length], blks := [] } = some (.exit 0, { vals := [], blks := [] }) := by
  intro l
  induction l with
  | nil =>
    intro pre hbb
    rw [r14_0]
    have h1 : ltB (pre.length : Int) (b.length : Int) = false := by rw [← hbb]; simp [ltB]
    rw [h1, ctl_false]
  | cons e l ih =>
    intro pre hbb
    rw [r14_0]
    have hl : 0 ≤ (pre.length : Int) ∧ (pre.length : Int) < (b.length : Int) := by rw [← hbb]; exact mid_lt pre e l
    have h1 : ltB (pre.length : Int) (b.length : Int) = true := by simp [ltB]; omega
    have e1 : b.getD (pre.length : Int).toNat default = e := by rw [Int.toNat_natCast, ← hbb, getD_mid]
    have e2 : okCs [Sh.int IntKind.i64, Sh.int IntKind.i64, Sh.sl 1] (enK e) = true := rfl
    have c1 : (nth PV.nilp (enK e) 0).toInt = e.t := rfl
    have c2 : (nth PV.nilp (enK e) 1).toInt = e.k := rfl
    have c3 : (nth PV.nilp (enK e) 2).toEs = intsK .i64 e.ws := rfl
    rw [h1, ctl_true]
    simp only [getE_ens hl, e1, e2, c1, c2, c3, bne_self_eq_false, bnd_some, ctl_true, ctl_false, ctl_and, ctl_or', ctl_or2, x_toPV, x_toCs, x_toCs2, x_toEs, x_bEs, x_bCs, x_aPV, x_aCs, x_int, x_bool, x_str, x_es, x_esn, nth_0, nth_1, nth_2, nth_3, nth_4, nth_5, nth_6, nth_7, nth_8, nth_9, y_nil, y_int, y_bool, y_str, y_sl, y_nils, y_agg, y_ownp, y_own, z_nil, z_int, z_bool, z_str, z_sl, z_nils, b_nil, b_arr, b_box1, b_box2, b_box3, b_box4, List.map_cons, List.map_nil, Bool.and_self, Bool.and_true, Bool.true_and, Bool.not_true, Bool.not_false, Bool.or_false, Bool.false_or, cond_true, cond_false, okPack, okPut, okPutBlks, okPutCells, q_isP, q_isAg, q_isBox, q_isArr, q_int, q_bool, q_str, q_sl, q_nils, e_exit, e_ret, e_nrm, e_ret_exit, e_exit_ret, e_nrm_exit, e_nrm_ret, e_exit_nrm, e_ret_nrm, Nat.zero_add, Nat.reduceAdd, noslR, noslP, noslB, noslA, List.all_cons, List.all_nil]
    rw [c_IntsR e.ws (hws e (by rw [← hbb]; simp))]
    simp only [bnd_some, ctl_true, ctl_false, ctl_and, ctl_or', ctl_or2, x_toPV, x_toCs, x_toCs2, x_toEs, x_bEs, x_bCs, x_aPV, x_aCs, x_int, x_bool, x_str, x_es, x_esn, nth_0, nth_1, nth_2, nth_3, nth_4, nth_5, nth_6, nth_7, nth_8, nth_9, y_nil, y_int, y_bool, y_str, y_sl, y_nils, y_agg, y_ownp, y_own, z_nil, z_int, z_bool, z_str, z_sl, z_nils, b_nil, b_arr, b_box1, b_box2, b_box3, b_box4, List.map_cons, List.map_nil, Bool.and_self, Bool.and_true, Bool.true_and, Bool.not_true, Bool.not_false, Bool.or_false, Bool.false_or, cond_true, cond_false, okPack, okPut, okPutBlks, okPutCells, q_isP, q_isAg, q_isBox, q_isArr, q_int, q_bool, q_str, q_sl, q_nils, e_exit, e_ret, e_nrm, e_ret_exit, e_exit_ret, e_nrm_exit, e_nrm_ret, e_exit_nrm, e_ret_nrm, Nat.zero_add, Nat.reduceAdd, noslR, noslP, noslB, noslA, List.all_cons, List.all_nil]
    rw [w64 (n := (pre.length : Int) + 1) (by omega), len_snoc pre e]
    exact ih (pre ++ [e]) (by rw [← hbb]; simp)

theorem c_EntR (b : List En) (hb : b.length ≤ 1000000) (hws : ∀ e ∈ b, e.ws.length ≤ 1000000) : denC E 14 [AV.sl 3 (ensK b), AV.sl 3 (ensK b)] [] = some ([RV.p (PV.bool true)], []) := by
  rw [denC_eq, r14, ensK_len]
  have hlp := l_EntR b hb hws b [] rfl
  simp only [List.nil_append, List.length_nil, Int.ofNat_zero] at hlp
  rw [hlp]
  simp only [bne_self_eq_false, bnd_some, ctl_true, ctl_false, ctl_and, ctl_or', ctl_or2, x_toPV, x_toCs, x_toCs2, x_toEs, x_bEs, x_bCs, x_aPV, x_aCs, x_int, x_bool, x_str, x_es, x_esn, nth_0, nth_1, nth_2, nth_3, nth_4, nth_5, nth_6, nth_7, nth_8, nth_9, y_nil, y_int, y_bool, y_str, y_sl, y_nils, y_agg, y_ownp, y_own, z_nil, z_int, z_bool, z_str, z_sl, z_nils, b_nil, b_arr, b_box1, b_box2, b_box3, b_box4, List.map_cons, List.map_nil, Bool.and_self, Bool.and_true, Bool.true_and, Bool.not_true, Bool.not_false, Bool.or_false, Bool.false_or, cond_true, cond_false, okPack, okPut, okPutBlks, okPutCells, q_isP, q_isAg, q_isBox, q_isArr, q_int, q_bool, q_str, q_sl, q_nils, e_exit, e_ret, e_nrm, e_ret_exit, e_exit_ret, e_nrm_exit, e_nrm_ret, e_exit_nrm, e_ret_nrm, Nat.zero_add, Nat.reduceAdd, noslR, noslP, noslB, noslA, List.all_cons, List.all_nil]

theorem c_SameR (b : List En) (s : Int) (hb : b.length ≤ 1000000) (hws : ∀ e ∈ b, e.ws.length ≤ 1000000) : denC E 13 [AV.agg [PV.sl 3 (ensK b), PV.int .u64 s], AV.agg [PV.sl 3 (ensK b), PV.int .u64 s]] [] = some ([RV.p (PV.bool true)], []) := by
  rw [denC_eq, r13]
  simp only [beq_self_eq_true, bnd_some, ctl_true, ctl_false, ctl_and, ctl_or', ctl_or2, x_toPV, x_toCs, x_toCs2, x_toEs, x_bEs, x_bCs, x_aPV, x_aCs, x_int, x_bool, x_str, x_es, x_esn, nth_0, nth_1, nth_2, nth_3, nth_4, nth_5, nth_6, nth_7, nth_8, nth_9, y_nil, y_int, y_bool, y_str, y_sl, y_nils, y_agg, y_ownp, y_own, z_nil, z_int, z_bool, z_str, z_sl, z_nils, b_nil, b_arr, b_box1, b_box2, b_box3, b_box4, List.map_cons, List.map_nil, Bool.and_self, Bool.and_true, Bool.true_and, Bool.not_true, Bool.not_false, Bool.or_false, Bool.false_or, cond_true, cond_false, okPack, okPut, okPutBlks, okPutCells, q_isP, q_isAg, q_isBox, q_isArr, q_int, q_bool, q_str, q_sl, q_nils, e_exit, e_ret, e_nrm, e_ret_exit, e_exit_ret, e_nrm_exit, e_nrm_ret, e_exit_nrm, e_ret_nrm, Nat.zero_add, Nat.reduceAdd, noslR, noslP, noslB, noslA, List.all_cons, List.all_nil]
  rw [c_EntR b hb hws]
  simp only [bnd_some, ctl_true, ctl_false, ctl_and, ctl_or', ctl_or2, x_toPV, x_toCs, x_toCs2, x_toEs, x_bEs, x_bCs, x_aPV, x_aCs, x_int, x_bool, x_str, x_es, x_esn, nth_0, nth_1, nth_2, nth_3, nth_4, nth_5, nth_6, nth_7, nth_8, nth_9, y_nil, y_int, y_bool, y_str, y_sl, y_nils, y_agg, y_ownp, y_own, z_nil, z_int, z_bool, z_str, z_sl, z_nils, b_nil, b_arr, b_box1, b_box2, b_box3, b_box4, List.map_cons, List.map_nil, Bool.and_self, Bool.and_true, Bool.true_and, Bool.not_true, Bool.not_false, Bool.or_false, Bool.false_or, cond_true, cond_false, okPack, okPut, okPutBlks, okPutCells, q_isP, q_isAg, q_isBox, q_isArr, q_int, q_bool, q_str, q_sl, q_nils, e_exit, e_ret, e_nrm, e_ret_exit, e_exit_ret, e_nrm_exit, e_nrm_ret, e_exit_nrm, e_ret_nrm, Nat.zero_add, Nat.reduceAdd, noslR, noslP, noslB, noslA, List.all_cons, List.all_nil]

theorem l_AllR (b : List (Int × Int × Int)) (hb : b.length ≤ 1000000) : ∀ (l pre : List (Int × Int × Int)), pre ++ l = b →
    lp E (denC E) 19 0 [] 0 { vals := [AV.sl 3 (spanK b), AV.sl 3 (spanK b), AV.int .i64 b.length, AV.int .i64 pre.length], blks := [] } = some (.exit 0, { vals := [], blks := [] }) := by
  intro l
  induction l with
  | nil =>
    intro pre hbb
    rw [r19_0]
    have h1 : ltB (pre.length : Int) (b.length : Int) = false := by rw [← hbb]; simp [ltB]
    rw [h1, ctl_false]
  | cons e l ih =>
    intro pre hbb
    rw [r19_0]
    have hl : 0 ≤ (pre.length : Int) ∧ (pre.length : Int) < (b.length : Int) := by rw [← hbb]; exact mid_lt pre e l
    have h1 : ltB (pre.length : Int) (b.length : Int) = true := by simp [ltB]; omega
    rw [h1, ctl_true]
    have hg : ∀ K : List PV → Option (Ex × Pack), getE (spanK b) (pre.length : Int) K = K [PV.int .i64 e.1, PV.int .i64 e.2.1, PV.int .i64 e.2.2] := fun K => by
      unfold getE
      have q1 : leB 0 (pre.length : Int) = true := by simp [leB]
      have q2 : ltB (pre.length : Int) ((spanK b).length : Int) = true := by simp [ltB, spanK]; omega
      rw [q1, q2]
      simp only [Bool.and_self, ctl_true]
      have : nth [] (spanK b) (pre.length : Int).toNat = [PV.int .i64 e.1, PV.int .i64 e.2.1, PV.int .i64 e.2.2] := by
        rw [nth_eq, Int.toNat_natCast, ← hbb]
        simp [spanK, List.getD]
      rw [this]
    simp only [hg, beq_self_eq_true, bnd_some, ctl_true, ctl_false, ctl_and, ctl_or', ctl_or2, x_toPV, x_toCs, x_toCs2, x_toEs, x_bEs, x_bCs, x_aPV, x_aCs, x_int, x_bool, x_str, x_es, x_esn, nth_0, nth_1, nth_2, nth_3, nth_4, nth_5, nth_6, nth_7, nth_8, nth_9, y_nil, y_int, y_bool, y_str, y_sl, y_nils, y_agg, y_ownp, y_own, z_nil, z_int, z_bool, z_str, z_sl, z_nils, b_nil, b_arr, b_box1, b_box2, b_box3, b_box4, List.map_cons, List.map_nil, Bool.and_self, Bool.and_true, Bool.true_and, Bool.not_true, Bool.not_false, Bool.or_false, Bool.false_or, cond_true, cond_false, okPack, okPut, okPutBlks, okPutCells, q_isP, q_isAg, q_isBox, q_isArr, q_int, q_bool, q_str, q_sl, q_nils, e_exit, e_ret, e_nrm, e_ret_exit, e_exit_ret, e_nrm_exit, e_nrm_ret, e_exit_nrm, e_ret_nrm, Nat.zero_add, Nat.reduceAdd, noslR, noslP, noslB, noslA, List.all_cons, List.all_nil]
    rw [w64 (n := (pre.length : Int) + 1) (by omega), len_snoc pre e]
    exact ih (pre ++ [e]) (by rw [← hbb]; simp)

theorem spanK_len (b : List (Int × Int × Int)) : (spanK b).length = b.length := by simp [spanK]

theorem c_AllR (b : List (Int × Int × Int)) (hb : b.length ≤ 1000000) : denC E 19 [AV.sl 3 (spanK b), AV.sl 3 (spanK b)] [] = some ([RV.p (PV.bool true)], []) := by
  rw [denC_eq, r19, spanK_len]
  have hlp := l_AllR b hb b [] rfl
  simp only [List.nil_append, List.length_nil, Int.ofNat_zero] at hlp
  rw [hlp]
  simp only [bne_self_eq_false, bnd_some, ctl_true, ctl_false, ctl_and, ctl_or', ctl_or2, x_toPV, x_toCs, x_toCs2, x_toEs, x_bEs, x_bCs, x_aPV, x_aCs, x_int, x_bool, x_str, x_es, x_esn, nth_0, nth_1, nth_2, nth_3, nth_4, nth_5, nth_6, nth_7, nth_8, nth_9, y_nil, y_int, y_bool, y_str, y_sl, y_nils, y_agg, y_ownp, y_own, z_nil, z_int, z_bool, z_str, z_sl, z_nils, b_nil, b_arr, b_box1, b_box2, b_box3, b_box4, List.map_cons, List.map_nil, Bool.and_self, Bool.and_true, Bool.true_and, Bool.not_true, Bool.not_false, Bool.or_false, Bool.false_or, cond_true, cond_false, okPack, okPut, okPutBlks, okPutCells, q_isP, q_isAg, q_isBox, q_isArr, q_int, q_bool, q_str, q_sl, q_nils, e_exit, e_ret, e_nrm, e_ret_exit, e_exit_ret, e_nrm_exit, e_nrm_ret, e_exit_nrm, e_ret_nrm, Nat.zero_add, Nat.reduceAdd, noslR, noslP, noslB, noslA, List.all_cons, List.all_nil]

theorem a_int {F : Fun} {f : Nat} {a : List AV} {n : Int} (h : F f a [] = some ([.p (.int .i64 n)], [])) (K : Int → Ask) : (Ask.int f a K).run F = (K n).run F := by
  simp only [Ask.int, Ask.run, h]

theorem a_u64 {F : Fun} {f : Nat} {a : List AV} {n : Int} (h : F f a [] = some ([.p (.int .u64 n)], [])) (K : Int → Ask) : (Ask.u64 f a K).run F = (K n).run F := by
  simp only [Ask.u64, Ask.run, h]

theorem a_bool {F : Fun} {f : Nat} {a : List AV} {n : Bool} (h : F f a [] = some ([.p (.bool n)], [])) (K : Bool → Ask) : (Ask.bool f a K).run F = (K n).run F := by
  simp only [Ask.bool, Ask.run, h]

theorem a_str {F : Fun} {f : Nat} {a : List AV} {n : List UInt8} (h : F f a [] = some ([.p (.str n)], [])) (K : List UInt8 → Ask) : (Ask.str f a K).run F = (K n).run F := by
  simp only [Ask.str, Ask.run, h]

theorem a_entry (e : En) (h : e.ws.length ≤ 1000000) (K : List PV → Ask) : (Ask.entry 31 e.t e.k 1 (intsK .i64 e.ws) K).run (denC E) = (K (enK e)).run (denC E) := by
  have hc := c_copyEntry e h
  have : denC E 31 [AV.t (.agg [.int .i64 e.t, .int .i64 e.k, .sl 1 (intsK .i64 e.ws)])] [] = some ([RV.agg (enK e)], []) := hc
  unfold Ask.entry
  simp only [Ask.run, this]
  unfold enK
  simp only [beq_self_eq_true, Bool.and_self, cond_true]

theorem a_copies : ∀ (b : List En) (hws : ∀ e ∈ b, e.ws.length ≤ 1000000) (K : List (List PV) → Ask), (askCopies 31 (ensK b) K).run (denC E) = (K (ensK b)).run (denC E)
  | [], _, _ => rfl
  | e :: b, hws, K => by
    have h1 := a_copies b (fun x hx => hws x (.tail _ hx))
    have e1 : ensK (e :: b) = enK e :: ensK b := rfl
    rw [e1]
    show (Ask.entry 31 e.t e.k 1 (intsK .i64 e.ws) fun x => askCopies 31 (ensK b) fun r => K (x :: r)).run (denC E) = _
    rw [a_entry e (hws e (.head _)), h1]

theorem c_AppendE (b : List En) (bs : Int) (e : En) (hws : ∀ e ∈ b, e.ws.length ≤ 1000000) (he : e.ws.length ≤ 1000000) : denC E 16 [AV.agg [PV.sl 3 (ensK b), PV.int .u64 bs], AV.agg (enK e)] [] = some (appR b bs e, []) := by
  rw [denC_eq]
  have : funK E (denC E) 16 [AV.agg [PV.sl 3 (ensK b), PV.int .u64 bs], AV.agg (enK e)] [] =
    match (appT 15 37 30 31 21 32 [AV.agg [PV.sl 3 (ensK b), PV.int .u64 bs], AV.agg (enK e)]).run (denC E) with | some rs => some (rs, []) | none => none := by kernel_rfl
  rw [this]
  have key : (appT 15 37 30 31 21 32 [AV.agg [PV.sl 3 (ensK b), PV.int .u64 bs], AV.agg (enK e)]).run (denC E) = some (appR b bs e) := by
    unfold enK
    simp only [appT]
    rw [a_int (c_CheckE b bs hws)]
    by_cases hc : checkP b bs = 0
    · have hl := checkP_len hc
      have h1 : (checkP b bs != 0) = false := by simp [hc]
      rw [h1, cond_false, a_bool (c_ValidE e.t e.k e.ws (by omega))]
      cases hve : validP e.t e.k e.ws with
      | false =>
        have : appE b bs e = 72 := by unfold appE; rw [if_pos (.inr hve)]
        unfold appR
        rw [this]
        rfl
      | true =>
        obtain ⟨v1, v2, v3, v4, v5, v6, v7⟩ := validP_all hve
        have hlt := c_late b bs e (by omega)
        unfold enK at hlt
        rw [cond_true, a_bool hlt]
        cases hla : lateP b e.t with
        | false =>
          have : appE b bs e = 16 := by unfold appE; rw [if_neg (by simp [hc, hve]), if_pos hla]
          unfold appR
          rw [this]
          rfl
        | true =>
          rw [cond_true, ensK_len]
          by_cases h200 : b.length = 200
          · have : appE b bs e = 2 := by unfold appE; rw [if_neg (by simp [hc, hve]), if_neg (by simp [hla]), if_pos h200]
            unfold appR
            rw [this, h200]
            rfl
          · have : appE b bs e = 0 := by unfold appE; rw [if_neg (by simp [hc, hve]), if_neg (by simp [hla]), if_neg h200]
            unfold appR
            rw [this, if_pos rfl]
            have h2 : Nat.beq b.length 200 = false := by
              cases hb : Nat.beq b.length 200 with
              | false => rfl
              | true => exact absurd (Nat.eq_of_beq_eq_true hb) h200
            have h3 : Nat.ble b.length 100000 = true := Nat.ble_eq_true_of_le (by omega)
            have hll : (lineP e.t e.k e.ws).length ≤ 9223372036854775807 := by unfold lineP; simp only [List.length_append, List.length_cons, List.length_nil]; omega
            rw [h2, h3, cond_false, cond_true, a_copies b hws, a_entry e he, a_str (c_lineE e.t e.k e.ws v2 v3 v4 (by omega) (by omega)), a_u64 (c_SumL bs _ hll)]
            simp only [Ask.run, ensK, List.map_append, List.map_cons, List.map_nil]
    · have h1 : (checkP b bs != 0) = true := by simpa using hc
      have : appE b bs e = 72 := by unfold appE; rw [if_pos (.inl hc)]
      unfold appR
      rw [h1, this]
      rfl
  rw [key]

def linesP (b : List En) : List UInt8 := (b.map fun e => lineP e.t e.k e.ws).flatten

theorem linesP_len : ∀ {b : List En}, (∀ e ∈ b, validP e.t e.k e.ws = true) → (linesP b).length ≤ 201 * b.length
  | [], _ => by simp [linesP]
  | e :: b, h => by
    have h1 := linesP_len (b := b) fun x hx => h x (.tail _ hx)
    obtain ⟨_, _, _, _, _, v6, _⟩ := validP_all (h e (.head _))
    have h2 : (lineP e.t e.k e.ws).length ≤ 201 := by unfold lineP; simp only [List.length_append, List.length_cons, List.length_nil]; omega
    have e1 : linesP (e :: b) = lineP e.t e.k e.ws ++ linesP b := rfl
    rw [e1]
    simp only [List.length_append, List.length_cons]
    omega

theorem linesF_E : ∀ {b : List En}, (∀ e ∈ b, validP e.t e.k e.ws = true) → linesF (denC E) 21 (ensK b) = some (linesP b)
  | [], _ => rfl
  | e :: b, h => by
    have h1 := linesF_E (b := b) fun x hx => h x (.tail _ hx)
    obtain ⟨v1, v2, v3, v4, v5, v6, v7⟩ := validP_all (h e (.head _))
    have hl := c_lineE e.t e.k e.ws v2 v3 v4 (by omega) (by omega)
    have e1 : ensK (e :: b) = [PV.int .i64 e.t, PV.int .i64 e.k, PV.sl 1 (intsK .i64 e.ws)] :: ensK b := rfl
    rw [e1]
    simp only [linesF, h1]
    have : denC E 21 [AV.t (.agg [.int .i64 e.t, .int .i64 e.k, .sl 1 (intsK .i64 e.ws)])] [] = _ := hl
    rw [this]
    rfl

def textR (b : List En) (bs : Int) : List RV := if checkP b bs = 0 then [RV.p (PV.str (linesP b ++ lastP bs)), RV.p (PV.int .i64 0)] else [RV.p (PV.str []), RV.p (PV.int .i64 (checkP b bs))]

theorem lastP_len {n : Int} (h : 0 ≤ n ∧ n ≤ 18446744073709551615) : (lastP n).length ≤ 24 := by
  have := itoaU_len h
  unfold lastP
  simp only [List.length_append, List.length_cons, List.length_nil]
  omega

theorem c_TextE (b : List En) (bs : Int) (hbs : 0 ≤ bs ∧ bs ≤ 18446744073709551615) (hws : ∀ e ∈ b, e.ws.length ≤ 1000000) : denC E 7 [AV.agg [PV.sl 3 (ensK b), PV.int .u64 bs]] [] = some (textR b bs, []) := by
  rw [denC_eq]
  have : funK E (denC E) 7 [AV.agg [PV.sl 3 (ensK b), PV.int .u64 bs]] [] = match bookRun 15 21 23 (denC E) [AV.agg [PV.sl 3 (ensK b), PV.int .u64 bs]] with | some rs => some (rs, []) | none => none := by kernel_rfl
  rw [this]
  unfold bookRun
  have hc := c_CheckE b bs hws
  simp only [hc, intR]
  unfold textR
  by_cases h0 : checkP b bs = 0
  · have hv := runB_ok (checkP_run h0)
    have hl := checkP_len h0
    have h1 := linesP_len hv
    have h2 := lastP_len hbs
    rw [if_pos h0, if_pos h0]
    have hla := c_lastE (ensK b) bs hbs
    simp only [linesF_E hv, hla, strR]
    rw [if_pos (by rw [ensK_len]; omega)]
  · rw [if_neg h0, if_neg h0]

end Go.Proofs.YtiijghkfinkphaaGreatDoor.Vm

/- Plain laws of spans: a list of spans covers a time without gaps, each with the value that holds in it, and there is one such list only. -/
namespace Go.Proofs.YtiijghkfinkphaaGreatDoor.Vm
set_option linter.unusedVariables false
set_option linter.unusedSimpArgs false

abbrev Sp := Int × Int × Int

def gl (A : Int → Int) : Int → Int → List Sp → Prop
  | s, e, [] => s = e
  | s, e, x :: r => x.1 = s ∧ s < x.2.1 ∧ (∀ k, s ≤ k → k < x.2.1 → A k = x.2.2) ∧ (∀ y, r.head? = some y → y.2.2 ≠ x.2.2) ∧ gl A x.2.1 e r

theorem gl_le {A : Int → Int} : ∀ {l : List Sp} {s e : Int}, gl A s e l → s ≤ e
  | [], s, e, h => by unfold gl at h; omega
  | x :: r, s, e, h => by have := gl_le h.2.2.2.2; have := h.2.1; omega

theorem gl_one {A : Int → Int} {s e v : Int} (h : s < e) (hc : ∀ k, s ≤ k → k < e → A k = v) : gl A s e [(s, e, v)] := ⟨rfl, h, hc, fun y hy => by simp at hy, rfl⟩

theorem gl_lastv {A : Int → Int} : ∀ {q : List Sp} {s e a v : Int}, gl A s e (q ++ [(a, e, v)]) → a < e ∧ s ≤ a ∧ ∀ k, a ≤ k → k < e → A k = v
  | [], s, e, a, v, h => by
    obtain ⟨h1, h2, h3, _, _⟩ := h
    simp only at h1 h2 h3
    subst h1
    exact ⟨h2, Int.le_refl _, h3⟩
  | x :: q, s, e, a, v, h => by
    obtain ⟨h1, h2, h3, h4, h5⟩ := h
    obtain ⟨i1, i2, i3⟩ := gl_lastv h5
    exact ⟨i1, by omega, i3⟩

theorem gl_ext {A : Int → Int} : ∀ {q : List Sp} {s e a v e' : Int}, gl A s e (q ++ [(a, e, v)]) → e ≤ e' → (∀ k, e ≤ k → k < e' → A k = v) → gl A s e' (q ++ [(a, e', v)])
  | [], s, e, a, v, e', h, he, hc => by
    obtain ⟨h1, h2, h3, _, _⟩ := h
    refine ⟨h1, by simp only at h2 ⊢; omega, fun k h4 h5 => ?_, fun y hy => by simp at hy, rfl⟩
    simp only at h5 h3 ⊢
    by_cases hk : k < e
    · exact h3 k h4 hk
    · exact hc k (by omega) h5
  | x :: q, s, e, a, v, e', h, he, hc => by
    obtain ⟨h1, h2, h3, h4, h5⟩ := h
    refine ⟨h1, h2, h3, fun y hy => ?_, gl_ext h5 he hc⟩
    cases q with
    | nil => simp at hy; subst hy; exact h4 (a, e, v) rfl
    | cons z q => exact h4 y hy

theorem gl_app {A : Int → Int} : ∀ {q : List Sp} {s e a v w e' : Int}, gl A s e (q ++ [(a, e, v)]) → w ≠ v → e < e' → (∀ k, e ≤ k → k < e' → A k = w) → gl A s e' (q ++ [(a, e, v)] ++ [(e, e', w)])
  | [], s, e, a, v, w, e', h, hw, he, hc => by
    obtain ⟨h1, h2, h3, _, _⟩ := h
    exact ⟨h1, h2, h3, fun y hy => by simp at hy; subst hy; exact hw, gl_one he hc⟩
  | x :: q, s, e, a, v, w, e', h, hw, he, hc => by
    obtain ⟨h1, h2, h3, h4, h5⟩ := h
    refine ⟨h1, h2, h3, fun y hy => ?_, gl_app h5 hw he hc⟩
    cases q with
    | nil => simp at hy; subst hy; exact h4 (a, e, v) rfl
    | cons z q => exact h4 y hy

theorem gl_uniq {A : Int → Int} : ∀ {l l' : List Sp} {s e : Int}, gl A s e l → gl A s e l' → l = l'
  | [], [], _, _, _, _ => rfl
  | [], x :: r, s, e, h, h' => by
    have h1 := gl_le h'.2.2.2.2
    have h2 := h'.2.1
    unfold gl at h
    omega
  | x :: r, [], s, e, h, h' => by
    have h1 := gl_le h.2.2.2.2
    have h2 := h.2.1
    unfold gl at h'
    omega
  | x :: r, y :: r', s, e, h, h' => by
    obtain ⟨x0, x1, x2⟩ := x
    obtain ⟨y0, y1, y2⟩ := y
    obtain ⟨a1, a2, a3, a4, a5⟩ := h
    obtain ⟨b1, b2, b3, b4, b5⟩ := h'
    simp only at a1 a2 a3 a4 a5 b1 b2 b3 b4 b5
    have hv : x2 = y2 := by rw [← a3 s (Int.le_refl _) a2, ← b3 s (Int.le_refl _) b2]
    have key : ∀ {c d v : Int} {t t' : List Sp}, c < d → s < c → (∀ k, s ≤ k → k < d → A k = v) → (∀ y, t.head? = some y → y.2.2 ≠ v) → gl A c e t → gl A d e t' → False := by
      intro c d v t t' hcd hsc hc ht h h'
      have h1 := gl_le h'
      cases t with
      | nil => unfold gl at h; omega
      | cons z t =>
        obtain ⟨z1, z2, z3, _, _⟩ := h
        exact ht z rfl ((z3 c (Int.le_refl _) z2).symm.trans (hc c (by omega) hcd))
    rcases Int.lt_trichotomy x1 y1 with h | h | h
    · exact (key h a2 (v := x2) (by rw [hv]; exact b3) a4 a5 b5).elim
    · subst h
      subst hv
      subst a1
      subst b1
      rw [gl_uniq a5 b5]
    · exact (key h b2 (v := y2) (by rw [← hv]; exact a3) b4 b5 a5).elim

open Classical in
noncomputable def spP (A : Int → Int) (s e : Int) : List Sp := if h : ∃ l, gl A s e l then Classical.choose h else []

theorem spP_eq {A : Int → Int} {s e : Int} {l : List Sp} (h : gl A s e l) : spP A s e = l := by
  unfold spP
  rw [dif_pos ⟨l, h⟩]
  exact gl_uniq (Classical.choose_spec _) h

theorem atL_same {kind p k : Int} : ∀ {l : List (Int × Int × Int)}, (∀ x ∈ l, x.2.1 = kind → (x.1 ≤ p ↔ x.1 ≤ k)) → atL kind k l = atL kind p l
  | [], _ => rfl
  | x :: l, h => by
    have h1 := atL_same (l := l) fun y hy => h y (.tail _ hy)
    simp only [atL, h1]
    by_cases hk : x.2.1 = kind
    · have := h x (.head _) hk
      have e : decide (x.1 ≤ k) = decide (x.1 ≤ p) := by simp only [this]
      rw [e]
    · have : decide (x.2.1 = kind) = false := by simpa using hk
      rw [this]
      simp

end Go.Proofs.YtiijghkfinkphaaGreatDoor.Vm

/- Contracts of chapter 36: spans. -/
namespace Go.Proofs.YtiijghkfinkphaaGreatDoor.Vm
set_option linter.unusedVariables false
set_option linter.unusedSimpArgs false

def aF (b : List En) (kind k : Int) : Int := (atL kind k (b.map trip)).1

theorem aF_same {b : List En} {kind p k : Int} (h : ∀ x ∈ b, x.k = kind → (x.t ≤ p ↔ x.t ≤ k)) : aF b kind k = aF b kind p := by
  unfold aF
  rw [atL_same (p := p)]
  intro x hx hk
  obtain ⟨e, he, rfl⟩ := List.mem_map.1 hx
  exact h e he hk

theorem runB_sorted : ∀ {l : List En} {s p x : Int}, runB s p l = some x → (∀ e ∈ l, p ≤ e.t) ∧ l.Pairwise (fun a c => a.t ≤ c.t)
  | [], _, _, _, _ => ⟨fun e he => (List.not_mem_nil he).elim, List.Pairwise.nil⟩
  | a :: l, s, p, x, h => by
    simp only [runB] at h
    split at h
    · rename_i hq
      obtain ⟨h1, h2⟩ := runB_sorted h
      refine ⟨fun e he => ?_, .cons h1 h2⟩
      rcases List.mem_cons.1 he with rfl | he
      · exact hq.2
      · have := h1 e he
        omega
    · cases h

theorem nth_last {q : List Sp} {a b v : Int} : nth [] (spanK (q ++ [(a, b, v)])) q.length = [PV.int .i64 a, PV.int .i64 b, PV.int .i64 v] := by
  rw [nth_eq]
  simp [spanK, List.getD]

theorem setEs_last {q : List Sp} {a b v c : Int} : setEs (spanK (q ++ [(a, b, v)])) q.length 1 [PV.int .i64 c] = spanK (q ++ [(a, c, v)]) := by
  unfold setEs
  rw [nth_last, upd_eq]
  have : lay [PV.int .i64 a, PV.int .i64 b, PV.int .i64 v] 1 [PV.int .i64 c] = [PV.int .i64 a, PV.int .i64 c, PV.int .i64 v] := rfl
  rw [this]
  simp [spanK]

theorem last_ix {q : List Sp} {x : Sp} (h : q.length ≤ 1000000) : IntKind.i64.wrap (((spanK (q ++ [x])).length : Int) - 1) = (q.length : Int) := by
  rw [spanK_len, w64 (by simp; omega)]
  simp

theorem last_in {q : List Sp} {x : Sp} : (leB 0 (q.length : Int) && ltB (q.length : Int) ((spanK (q ++ [x])).length : Int)) = true := by
  rw [spanK_len]
  simp [leB, ltB] <;> omega

theorem spanK_snoc (q : List Sp) (x : Sp) : spanK q ++ [[PV.int .i64 x.1, PV.int .i64 x.2.1, PV.int .i64 x.2.2]] = spanK (q ++ [x]) := by simp [spanK]

set_option maxHeartbeats 1000000 in
theorem l_SpE (b : List En) (bs kind frm to : Int) (hw : ∀ e ∈ b, e.ws ≠ []) (hb : b.length ≤ 100000) (hs : b.Pairwise (fun a c => a.t ≤ c.t)) : ∀ (l pre : List En) (q : List Sp) (a v p : Int), pre ++ l = b → frm ≤ p → p < to →
    (∀ x ∈ pre, x.k = kind → x.t ≤ p ∨ to ≤ x.t) → (∀ x ∈ l, frm < x.t → p ≤ x.t) → gl (aF b kind) frm (p + 1) (q ++ [(a, p + 1, v)]) → q.length ≤ pre.length →
    lp E (denC E) 39 0 [] 0 { vals := [AV.int .i64 kind, AV.int .i64 frm, AV.int .i64 to, AV.sl 3 (ensK b), AV.int .i64 b.length, AV.int .i64 pre.length], blks := [Blk.box [AV.sl 3 (ensK b), AV.int .u64 bs], Blk.arr 3 (spanK (q ++ [(a, to, v)]))] } =
      some (.exit 0, { vals := [], blks := [Blk.arr 3 (spanK (spP (aF b kind) frm to))] }) := by
  intro l
  induction l with
  | nil =>
    intro pre q a v p hbb h1 h2 h3 h4 h5 h6
    rw [r39_0]
    have h7 : ltB (pre.length : Int) (b.length : Int) = false := by rw [← hbb]; simp [ltB]
    rw [h7, ctl_false]
    have hpre : pre = b := by rw [← hbb]; simp
    obtain ⟨g1, g2, g3⟩ := gl_lastv h5
    have hg : gl (aF b kind) frm to (q ++ [(a, to, v)]) := gl_ext h5 (by omega) fun k hk1 hk2 => by
      rw [aF_same (p := p) fun x hx hxk => ?_]
      · exact g3 p (by omega) (by omega)
      · rcases h3 x (by rw [hpre]; exact hx) hxk with h | h <;> omega
    rw [spP_eq hg]
  | cons e l ih =>
    intro pre q a v p hbb h1 h2 h3 h4 h5 h6
    rw [r39_0]
    have hl : 0 ≤ (pre.length : Int) ∧ (pre.length : Int) < (b.length : Int) := by rw [← hbb]; exact mid_lt pre e l
    have h7 : ltB (pre.length : Int) (b.length : Int) = true := by simp [ltB]; omega
    rw [h7, ctl_true, getE_ens hl]
    have e1 : b.getD (pre.length : Int).toNat default = e := by rw [Int.toNat_natCast, ← hbb, getD_mid]
    have e2 : okCs [Sh.int IntKind.i64, Sh.int IntKind.i64, Sh.sl 1] (enK e) = true := rfl
    have c1 : (nth PV.nilp (enK e) 0).toInt = e.t := rfl
    have c2 : (nth PV.nilp (enK e) 1).toInt = e.k := rfl
    have hi : IntKind.i64.wrap ((pre.length : Int) + 1) = ((pre ++ [e]).length : Int) := by
      rw [w64 (by omega)]; simp
    have hpl : pre.length ≤ 100000 := by rw [← hbb] at hb; simp at hb; omega
    have hlate : ∀ x ∈ l, e.t ≤ x.t := by
      have : (pre ++ e :: l).Pairwise (fun a c => a.t ≤ c.t) := by rw [hbb]; exact hs
      exact (List.pairwise_cons.1 (List.pairwise_append.1 this).2.1).1
    have hbb' : (pre ++ [e]) ++ l = b := by rw [← hbb]; simp
    have hskip : ∀ q' a' v' p', frm ≤ p' → p' < to → p ≤ p' → (e.k = kind → e.t ≤ p' ∨ to ≤ e.t) → (∀ x ∈ l, frm < x.t → p' ≤ x.t) → gl (aF b kind) frm (p' + 1) (q' ++ [(a', p' + 1, v')]) → q'.length ≤ pre.length + 1 →
        lp E (denC E) 39 0 [] 0 { vals := [AV.int .i64 kind, AV.int .i64 frm, AV.int .i64 to, AV.sl 3 (ensK b), AV.int .i64 b.length, AV.int .i64 (IntKind.i64.wrap ((pre.length : Int) + 1))], blks := [Blk.box [AV.sl 3 (ensK b), AV.int .u64 bs], Blk.arr 3 (spanK (q' ++ [(a', to, v')]))] } =
          some (.exit 0, { vals := [], blks := [Blk.arr 3 (spanK (spP (aF b kind) frm to))] }) := by
      intro q' a' v' p' k1 k2 k3 k4 k5 k6 k7
      rw [hi]
      refine ih (pre ++ [e]) q' a' v' p' hbb' k1 k2 (fun x hx hxk => ?_) k5 k6 (by simpa using k7)
      rcases List.mem_append.1 hx with hx | hx
      · rcases h3 x hx hxk with h | h
        · exact .inl (by omega)
        · exact .inr h
      · simp at hx
        subst hx
        exact k4 hxk
    rw [e1, e2, ctl_true, c1, c2]
    have ht : (bnd (ctl (!e.k != kind) (some (leB e.t frm)) (some true)) fun v : Bool => bnd (ctl (!v) (some (leB to e.t)) (some true)) fun v : Bool => some v) = some (!(decide (e.k = kind) && (decide (frm < e.t) && decide (e.t < to)))) := by
      by_cases hk : e.k = kind
      · have : (!e.k != kind) = true := by simp [hk]
        rw [this]
        by_cases h8 : frm < e.t
        · have : ¬ e.t ≤ frm := by omega
          by_cases h9 : e.t < to
          · have h9' : ¬ to ≤ e.t := by omega
            simp [hk, h8, h9, this, h9', leB, ctl, bnd]
          · have h9' : to ≤ e.t := by omega
            simp [hk, h8, h9, this, h9', leB, ctl, bnd]
        · have : e.t ≤ frm := by omega
          simp [hk, h8, this, leB, ctl, bnd]
      · have : (!e.k != kind) = false := by simpa using hk
        rw [this]
        simp [hk, ctl, bnd]
    have hbnd : ∀ (K : Bool → Option (Ex × Pack)), (bnd (ctl (!e.k != kind) (some (leB e.t frm)) (some true)) fun v : Bool => bnd (ctl (!v) (some (leB to e.t)) (some true)) K) = K (!(decide (e.k = kind) && (decide (frm < e.t) && decide (e.t < to)))) := by
      intro K
      by_cases hk : e.k = kind
      · have : (!e.k != kind) = true := by simp [hk]
        rw [this]
        by_cases h8 : frm < e.t
        · have : ¬ e.t ≤ frm := by omega
          by_cases h9 : e.t < to
          · have h9' : ¬ to ≤ e.t := by omega
            simp [hk, h8, h9, this, h9', leB, ctl, bnd]
          · have h9' : to ≤ e.t := by omega
            simp [hk, h8, h9, this, h9', leB, ctl, bnd]
        · have : e.t ≤ frm := by omega
          simp [hk, h8, this, leB, ctl, bnd]
      · have : (!e.k != kind) = false := by simpa using hk
        rw [this]
        simp [hk, ctl, bnd]
    rw [hbnd]
    by_cases hq : e.k = kind ∧ frm < e.t ∧ e.t < to
    · obtain ⟨q1, q2, q3⟩ := hq
      have hd : (decide (e.k = kind) && (decide (frm < e.t) && decide (e.t < to))) = true := by simp [q1, q2, q3]
      rw [hd, Bool.not_true, ctl_false, last_ix (by omega), last_in, ctl_true, c_atE b bs kind e.t hw hb]
      simp only [bnd_some, ctl_true, ctl_false, ctl_and, ctl_or', ctl_or2, x_toPV, x_toCs, x_toCs2, x_toEs, x_bEs, x_bCs, x_aPV, x_aCs, x_int, x_bool, x_str, x_es, x_esn, nth_0, nth_1, nth_2, nth_3, nth_4, nth_5, nth_6, nth_7, nth_8, nth_9, y_nil, y_int, y_bool, y_str, y_sl, y_nils, y_agg, y_ownp, y_own, z_nil, z_int, z_bool, z_str, z_sl, z_nils, b_nil, b_arr, b_box1, b_box2, b_box3, b_box4, List.map_cons, List.map_nil, Bool.and_self, Bool.and_true, Bool.true_and, Bool.not_true, Bool.not_false, Bool.or_false, Bool.false_or, cond_true, cond_false, okPack, okPut, okPutBlks, okPutCells, q_isP, q_isAg, q_isBox, q_isArr, q_int, q_bool, q_str, q_sl, q_nils, e_exit, e_ret, e_nrm, e_ret_exit, e_exit_ret, e_nrm_exit, e_nrm_ret, e_exit_nrm, e_ret_nrm, Nat.zero_add, Nat.reduceAdd, noslR, noslP, noslB, noslA, List.all_cons, List.all_nil]
      have hpe := h4 e (.head _) q2
      obtain ⟨g1, g2, g3⟩ := gl_lastv h5
      have hconst : ∀ k, p + 1 ≤ k → k < e.t → aF b kind k = v := fun k hk1 hk2 => by
        rw [aF_same (p := p) fun x hx hxk => ?_]
        · exact g3 p (by omega) (by omega)
        · rw [← hbb] at hx
          rcases List.mem_append.1 hx with hx | hx
          · rcases h3 x hx hxk with h | h <;> omega
          · rcases List.mem_cons.1 hx with rfl | hx
            · omega
            · have := hlate x hx; omega
      have et : ∀ n : Nat, ((n : Nat) : Int).toNat = n := fun n => Int.toNat_natCast n
      rw [et, nth_last]
      have e3 : okCs [Sh.int IntKind.i64] (List.take 1 (List.drop 2 [PV.int .i64 a, PV.int .i64 to, PV.int .i64 v])) = true := rfl
      have e4 : (nth PV.nilp [PV.int .i64 a, PV.int .i64 to, PV.int .i64 v] 2).toInt = v := rfl
      rw [e3, e4, ctl_true, setEs_last]
      show ctl (aF b kind e.t != v) _ _ = _
      by_cases hv : aF b kind e.t = v
      · have : (aF b kind e.t != v) = false := by simp [hv]
        rw [this, ctl_false]
        have hg : gl (aF b kind) frm (e.t + 1) (q ++ [(a, e.t + 1, v)]) := gl_ext h5 (by omega) fun k hk1 hk2 => by
          by_cases hke : k < e.t
          · exact hconst k hk1 hke
          · have : k = e.t := by omega
            rw [this]; exact hv
        exact hskip q a v e.t (by omega) q3 hpe (fun _ => .inl (Int.le_refl _)) (fun x hx _ => hlate x hx) hg (by omega)
      · have : (aF b kind e.t != v) = true := by simpa using hv
        have hlt : p < e.t := by
          rcases Int.lt_or_eq_of_le hpe with h | h
          · exact h
          · exact absurd (by rw [← h]; exact g3 p (by omega) (by omega)) hv
        have h8 : leN (((spanK (q ++ [(a, e.t, v)])).length + 1) * 24) 140737488355328 = true := by rw [spanK_len]; simp [leN]; omega
        rw [this, ctl_true, h8, ctl_true]
        have hg : gl (aF b kind) frm (e.t + 1) (q ++ [(a, e.t, v)] ++ [(e.t, e.t + 1, aF b kind e.t)]) := gl_app (gl_ext h5 (by omega) hconst) hv (by omega) fun k hk1 hk2 => by
          have : k = e.t := by omega
          rw [this]
        have e5 := spanK_snoc (q ++ [(a, e.t, v)]) (e.t, to, aF b kind e.t)
        simp only at e5
        have e6 : (atL kind e.t (b.map trip)).1 = aF b kind e.t := rfl
        rw [e6, e5]
        exact hskip (q ++ [(a, e.t, v)]) e.t (aF b kind e.t) e.t (by omega) q3 hpe (fun _ => .inl (Int.le_refl _)) (fun x hx _ => hlate x hx) hg (by simp; omega)
    · have hd : (decide (e.k = kind) && (decide (frm < e.t) && decide (e.t < to))) = false := by
        rw [Bool.and_eq_false_iff, Bool.and_eq_false_iff]
        simp only [decide_eq_false_iff_not]
        by_cases hk : e.k = kind
        · by_cases h8 : frm < e.t
          · exact .inr (.inr fun h => hq ⟨hk, h8, h⟩)
          · exact .inr (.inl h8)
        · exact .inl hk
      rw [hd, Bool.not_false, ctl_true]
      refine hskip q a v p h1 h2 (Int.le_refl _) (fun hk => ?_) (fun x hx hf => h4 x (.tail _ hx) hf) h5 (by omega)
      by_cases h8 : frm < e.t
      · exact .inr (by
          by_cases h9 : e.t < to
          · exact absurd ⟨hk, h8, h9⟩ hq
          · omega)
      · exact .inl (by omega)

theorem range_b (kind frm to : Int) : (!(wordsP kind == 1) || ltB frm 0 || ltB to frm || ltB 2147483648 to) = !decide (wordsP kind = 1 ∧ 0 ≤ frm ∧ frm ≤ to ∧ to ≤ 2147483648) := by
  by_cases h1 : wordsP kind = 1
  · by_cases h2 : 0 ≤ frm
    · by_cases h3 : frm ≤ to
      · by_cases h4 : to ≤ 2147483648
        · have h2' : ¬ frm < 0 := by omega
          have h3' : ¬ to < frm := by omega
          have h4' : ¬ 2147483648 < to := by omega
          simp [h1, h2, h3, h4, h2', h3', h4', ltB]
        · have h2' : ¬ frm < 0 := by omega
          have h3' : ¬ to < frm := by omega
          have h4' : 2147483648 < to := by omega
          simp [h1, h2, h3, h4, h2', h3', h4', ltB]
      · have h2' : ¬ frm < 0 := by omega
        have h3' : to < frm := by omega
        simp [h1, h2, h3, h2', h3', ltB]
    · have h2' : frm < 0 := by omega
      simp [h1, h2, h2', ltB]
  · have : (wordsP kind == 1) = false := by simpa using h1
    rw [this]
    simp [h1]

def spanE' (b : List En) (bs kind frm to : Int) : Int := if checkP b bs ≠ 0 then checkP b bs else if wordsP kind = 1 ∧ 0 ≤ frm ∧ frm ≤ to ∧ to ≤ 2147483648 then 0 else 1

noncomputable def spanL (b : List En) (bs kind frm to : Int) : List Sp := if spanE' b bs kind frm to = 0 then spP (aF b kind) frm to else []

theorem c_SpansE (b : List En) (bs kind frm to : Int) (hws : ∀ e ∈ b, e.ws.length ≤ 1000000) : denC E 39 [AV.agg [PV.sl 3 (ensK b), PV.int .u64 bs], AV.int .i64 kind, AV.int .i64 frm, AV.int .i64 to] [] =
    some ([RV.own 3 (spanK (spanL b bs kind frm to)), RV.p (PV.int .i64 (spanE' b bs kind frm to))], []) := by
  rw [denC_eq, r39, c_CheckE b bs hws, ensK_len]
  simp only [bnd_some, ctl_true, ctl_false, ctl_and, ctl_or', ctl_or2, x_toPV, x_toCs, x_toCs2, x_toEs, x_bEs, x_bCs, x_aPV, x_aCs, x_int, x_bool, x_str, x_es, x_esn, nth_0, nth_1, nth_2, nth_3, nth_4, nth_5, nth_6, nth_7, nth_8, nth_9, y_nil, y_int, y_bool, y_str, y_sl, y_nils, y_agg, y_ownp, y_own, z_nil, z_int, z_bool, z_str, z_sl, z_nils, b_nil, b_arr, b_box1, b_box2, b_box3, b_box4, List.map_cons, List.map_nil, Bool.and_self, Bool.and_true, Bool.true_and, Bool.not_true, Bool.not_false, Bool.or_false, Bool.false_or, cond_true, cond_false, okPack, okPut, okPutBlks, okPutCells, q_isP, q_isAg, q_isBox, q_isArr, q_int, q_bool, q_str, q_sl, q_nils, e_exit, e_ret, e_nrm, e_ret_exit, e_exit_ret, e_nrm_exit, e_nrm_ret, e_exit_nrm, e_ret_nrm, Nat.zero_add, Nat.reduceAdd, noslR, noslP, noslB, noslA, List.all_cons, List.all_nil]
  by_cases hc : checkP b bs = 0
  · have hne : (checkP b bs != 0) = false := by simp [hc]
    rw [hne, ctl_false, c_state]
    simp only [bnd_some, ctl_true, ctl_false, ctl_and, ctl_or', ctl_or2, x_toPV, x_toCs, x_toCs2, x_toEs, x_bEs, x_bCs, x_aPV, x_aCs, x_int, x_bool, x_str, x_es, x_esn, nth_0, nth_1, nth_2, nth_3, nth_4, nth_5, nth_6, nth_7, nth_8, nth_9, y_nil, y_int, y_bool, y_str, y_sl, y_nils, y_agg, y_ownp, y_own, z_nil, z_int, z_bool, z_str, z_sl, z_nils, b_nil, b_arr, b_box1, b_box2, b_box3, b_box4, List.map_cons, List.map_nil, Bool.and_self, Bool.and_true, Bool.true_and, Bool.not_true, Bool.not_false, Bool.or_false, Bool.false_or, cond_true, cond_false, okPack, okPut, okPutBlks, okPutCells, q_isP, q_isAg, q_isBox, q_isArr, q_int, q_bool, q_str, q_sl, q_nils, e_exit, e_ret, e_nrm, e_ret_exit, e_exit_ret, e_nrm_exit, e_nrm_ret, e_exit_nrm, e_ret_nrm, Nat.zero_add, Nat.reduceAdd, noslR, noslP, noslB, noslA, List.all_cons, List.all_nil]
    have hok := checkP_ok hc
    have hlen := checkP_len hc
    obtain ⟨hs1, hs2⟩ := runB_sorted (checkP_run hc)
    have hbnd : (!(wordsP kind == 1) || ltB frm 0 || ltB to frm || ltB 2147483648 to) = !decide (wordsP kind = 1 ∧ 0 ≤ frm ∧ frm ≤ to ∧ to ≤ 2147483648) := range_b _ _ _
    rw [hbnd]
    by_cases hq : wordsP kind = 1 ∧ 0 ≤ frm ∧ frm ≤ to ∧ to ≤ 2147483648
    · have he : spanE' b bs kind frm to = 0 := by unfold spanE'; rw [if_neg (by simp [hc]), if_pos hq]
      have hsl : spanL b bs kind frm to = spP (aF b kind) frm to := by unfold spanL; rw [if_pos he]
      rw [he, hsl, decide_eq_true hq, Bool.not_true, ctl_false]
      by_cases hft : frm = to
      · have : (frm == to) = true := by simp [hft]
        rw [this, ctl_true, spP_eq (l := []) (by unfold gl; exact hft)]
        rfl
      · have : (frm == to) = false := by simpa using hft
        rw [this, ctl_false, c_atE b bs kind frm hok (by omega)]
        simp only [bnd_some, ctl_true, ctl_false, ctl_and, ctl_or', ctl_or2, x_toPV, x_toCs, x_toCs2, x_toEs, x_bEs, x_bCs, x_aPV, x_aCs, x_int, x_bool, x_str, x_es, x_esn, nth_0, nth_1, nth_2, nth_3, nth_4, nth_5, nth_6, nth_7, nth_8, nth_9, y_nil, y_int, y_bool, y_str, y_sl, y_nils, y_agg, y_ownp, y_own, z_nil, z_int, z_bool, z_str, z_sl, z_nils, b_nil, b_arr, b_box1, b_box2, b_box3, b_box4, List.map_cons, List.map_nil, Bool.and_self, Bool.and_true, Bool.true_and, Bool.not_true, Bool.not_false, Bool.or_false, Bool.false_or, cond_true, cond_false, okPack, okPut, okPutBlks, okPutCells, q_isP, q_isAg, q_isBox, q_isArr, q_int, q_bool, q_str, q_sl, q_nils, e_exit, e_ret, e_nrm, e_ret_exit, e_exit_ret, e_nrm_exit, e_nrm_ret, e_exit_nrm, e_ret_nrm, Nat.zero_add, Nat.reduceAdd, noslR, noslP, noslB, noslA, List.all_cons, List.all_nil]
        have hlp := l_SpE b bs kind frm to hok (by omega) hs2 b [] [] frm (aF b kind frm) frm rfl (Int.le_refl _) (by omega) (fun x hx => by cases hx) (fun x hx h => by omega) (gl_one (by omega) fun k h1 h2 => by
          have : k = frm := by omega
          rw [this]) (by simp)
        simp only [List.length_nil, Int.ofNat_zero, List.nil_append] at hlp
        have e1 : spanK [(frm, to, aF b kind frm)] = [[PV.int .i64 frm, PV.int .i64 to, PV.int .i64 (atL kind frm (b.map trip)).1]] := rfl
        rw [← e1, hlp]
        simp only [bnd_some, ctl_true, ctl_false, ctl_and, ctl_or', ctl_or2, x_toPV, x_toCs, x_toCs2, x_toEs, x_bEs, x_bCs, x_aPV, x_aCs, x_int, x_bool, x_str, x_es, x_esn, nth_0, nth_1, nth_2, nth_3, nth_4, nth_5, nth_6, nth_7, nth_8, nth_9, y_nil, y_int, y_bool, y_str, y_sl, y_nils, y_agg, y_ownp, y_own, z_nil, z_int, z_bool, z_str, z_sl, z_nils, b_nil, b_arr, b_box1, b_box2, b_box3, b_box4, List.map_cons, List.map_nil, Bool.and_self, Bool.and_true, Bool.true_and, Bool.not_true, Bool.not_false, Bool.or_false, Bool.false_or, cond_true, cond_false, okPack, okPut, okPutBlks, okPutCells, q_isP, q_isAg, q_isBox, q_isArr, q_int, q_bool, q_str, q_sl, q_nils, e_exit, e_ret, e_nrm, e_ret_exit, e_exit_ret, e_nrm_exit, e_nrm_ret, e_exit_nrm, e_ret_nrm, Nat.zero_add, Nat.reduceAdd, noslR, noslP, noslB, noslA, List.all_cons, List.all_nil]
    · have he : spanE' b bs kind frm to = 1 := by unfold spanE'; rw [if_neg (by simp [hc]), if_neg hq]
      have hsl : spanL b bs kind frm to = [] := by unfold spanL; rw [if_neg (by rw [he]; decide)]
      rw [he, hsl, decide_eq_false hq, Bool.not_false, ctl_true]
      rfl
  · have hne : (checkP b bs != 0) = true := by simpa using hc
    have he : spanE' b bs kind frm to = checkP b bs := by unfold spanE'; rw [if_pos hc]
    have hsl : spanL b bs kind frm to = [] := by unfold spanL; rw [if_neg (by rw [he]; exact hc)]
    rw [hne, ctl_true, he, hsl]
    rfl

end Go.Proofs.YtiijghkfinkphaaGreatDoor.Vm

/- Contracts of chapter 36: the document's spans. -/
namespace Go.Proofs.YtiijghkfinkphaaGreatDoor.Vm
set_option linter.unusedVariables false
set_option linter.unusedSimpArgs false

theorem intsK_snoc (m : List Int) (x : Int) : intsK .i64 m ++ [[PV.int .i64 x]] = intsK .i64 (m ++ [x]) := by simp [intsK]

def low (l : List Sp) : List Sp := l.filter fun x => decide (x.2.2 < 3)

theorem spansE_K : ∀ l : List Sp, spansE (spanK l) = some l
  | [] => rfl
  | x :: l => by
    have e : spanK (x :: l) = [PV.int .i64 x.1, PV.int .i64 x.2.1, PV.int .i64 x.2.2] :: spanK l := rfl
    rw [e]
    simp only [spansE, spanE, spansE_K l]

end Go.Proofs.YtiijghkfinkphaaGreatDoor.Vm

/- Contracts of chapter 36: degraded spans, entries and books out of numbers, the example. -/
namespace Go.Proofs.YtiijghkfinkphaaGreatDoor.Vm
set_option linter.unusedVariables false
set_option linter.unusedSimpArgs false

noncomputable def degrL (b : List En) (bs frm to : Int) : List Sp := low (spanL b bs 1 frm to)

theorem spanL_bad {b : List En} {bs kind frm to : Int} (h : spanE' b bs kind frm to ≠ 0) : spanL b bs kind frm to = [] := by unfold spanL; rw [if_neg h]

theorem gl_cnt {b : List En} {kind : Int} : ∀ {l : List Sp} {s e : Int}, gl (aF b kind) s e l → ∀ T : List Int, T.Pairwise (· < ·) → (∀ x ∈ b, x.k = kind → s < x.t → x.t < e → x.t ∈ T) → l.length ≤ T.length + 1
  | [], _, _, _, _, _, _ => by simp
  | [x], _, _, _, _, _, _ => by simp
  | x :: y :: r, s, e, h, T, hT, hm => by
    obtain ⟨h1, h2, h3, h4, h5⟩ := h
    have h5' := h5
    obtain ⟨k1, k2, k3, k4, k5⟩ := h5
    have hne : y.2.2 ≠ x.2.2 := h4 y rfl
    -- the value changes at x's end: an entry stands there
    have hex : ∃ z ∈ b, z.k = kind ∧ z.t = x.2.1 := by
      by_cases hz : ∃ z ∈ b, z.k = kind ∧ z.t = x.2.1
      · exact hz
      · exfalso
        apply hne
        have a1 := k3 x.2.1 (Int.le_refl _) k2
        have a2 := h3 (x.2.1 - 1) (by omega) (by omega)
        rw [← a1, ← a2]
        refine aF_same fun z hzb hzk => ?_
        constructor
        · intro h; omega
        · intro h
          have : z.t ≠ x.2.1 := fun e => hz ⟨z, hzb, hzk, e⟩
          omega
    obtain ⟨z, hz1, hz2, hz3⟩ := hex
    have hle := gl_le h5'
    have hlt : x.2.1 < e := by
      have := gl_le k5; omega
    have hzT : x.2.1 ∈ T := hz3 ▸ hm z hz1 hz2 (by omega) (by omega)
    have := gl_cnt (l := y :: r) h5' (T.filter fun t => decide (x.2.1 < t)) (hT.filter _) (fun w hw hwk w1 w2 => by
      rw [List.mem_filter]
      exact ⟨hm w hw hwk (by omega) w2, by simpa using w1⟩)
    have hlen : (T.filter fun t => decide (x.2.1 < t)).length + 1 ≤ T.length := by
      have hs : ∀ (U : List Int), x.2.1 ∈ U → (U.filter fun t => decide (x.2.1 < t)).length + 1 ≤ U.length := fun U => by
        induction U with
        | nil => intro h; cases h
        | cons u U ih =>
          intro h
          have hle := List.length_filter_le (fun t => decide (x.2.1 < t)) U
          rcases List.mem_cons.1 h with rfl | h
          · rw [List.filter_cons_of_neg (by simp)]
            simp; omega
          · have := ih h
            by_cases hu : x.2.1 < u
            · rw [List.filter_cons_of_pos (by simpa using hu)]
              simp; omega
            · rw [List.filter_cons_of_neg (by simpa using hu)]
              simp; omega
      exact hs T hzT
    simp at this ⊢
    omega

theorem times_of : ∀ l : List En, l.Pairwise (fun a c => a.t ≤ c.t) → ∃ T : List Int, T.Pairwise (· < ·) ∧ (∀ x ∈ l, x.t ∈ T) ∧ (∀ t ∈ T, ∃ x ∈ l, x.t = t) ∧ T.length ≤ l.length
  | [], _ => ⟨[], List.Pairwise.nil, fun x hx => (List.not_mem_nil hx).elim, fun t ht => (List.not_mem_nil ht).elim, by simp⟩
  | e :: l, h => by
    obtain ⟨h1, h2⟩ := List.pairwise_cons.1 h
    obtain ⟨T, t1, t2, t3, t4⟩ := times_of l h2
    by_cases he : e.t ∈ T
    · exact ⟨T, t1, fun x hx => (List.mem_cons.1 hx).elim (fun h => h ▸ he) (t2 x), fun t ht => by obtain ⟨x, hx, hx2⟩ := t3 t ht; exact ⟨x, by simp [hx], hx2⟩, by simp; omega⟩
    · refine ⟨e.t :: T, List.pairwise_cons.2 ⟨fun t ht => ?_, t1⟩, fun x hx => (List.mem_cons.1 hx).elim (fun h => by simp [h]) (fun h => by simp [t2 x h]), fun t ht => ?_, by simp; omega⟩
      · obtain ⟨x, hx, rfl⟩ := t3 t ht
        have := h1 x hx
        rcases Int.lt_or_eq_of_le this with h | h
        · exact h
        · exact absurd (h ▸ ht) he
      · rcases List.mem_cons.1 ht with rfl | ht
        · exact ⟨e, by simp, rfl⟩
        · obtain ⟨x, hx, hx2⟩ := t3 t ht
          exact ⟨x, by simp [hx], hx2⟩

theorem spanL_cnt {b : List En} {bs kind frm to : Int} : (spanL b bs kind frm to).length ≤ 201 := by
  by_cases h : spanE' b bs kind frm to = 0
  · have hsl : spanL b bs kind frm to = spP (aF b kind) frm to := by unfold spanL; rw [if_pos h]
    have hc : checkP b bs = 0 := by
      unfold spanE' at h
      split at h
      · omega
      · rename_i hq; simpa using hq
    rw [hsl]
    unfold spP
    by_cases hx : ∃ l, gl (aF b kind) frm to l
    · rw [dif_pos hx]
      obtain ⟨_, hs⟩ := runB_sorted (checkP_run hc)
      obtain ⟨T, t1, t2, t3, t4⟩ := times_of b hs
      have := gl_cnt (Classical.choose_spec hx) T t1 (fun x hx _ _ _ => t2 x hx)
      have := checkP_len hc
      omega
    · rw [dif_neg hx]
      simp
  · rw [spanL_bad h]
    simp

theorem c_DegrE (b : List En) (bs frm to : Int) (hws : ∀ e ∈ b, e.ws.length ≤ 1000000) : denC E 18 [AV.agg [PV.sl 3 (ensK b), PV.int .u64 bs], AV.int .i64 frm, AV.int .i64 to] [] =
    some ([RV.p (PV.sl 3 (spanK (degrL b bs frm to))), RV.p (PV.int .i64 (spanE' b bs 1 frm to))], []) := by
  rw [denC_eq]
  have : funK E (denC E) 18 [AV.agg [PV.sl 3 (ensK b), PV.int .u64 bs], AV.int .i64 frm, AV.int .i64 to] [] = match degrRun 39 (denC E) [AV.agg [PV.sl 3 (ensK b), PV.int .u64 bs], AV.int .i64 frm, AV.int .i64 to] with | some rs => some (rs, []) | none => none := by kernel_rfl
  rw [this]
  unfold degrRun
  have hs := c_SpansE b bs 1 frm to hws
  simp only [hs, ownR]
  unfold degrL
  have hcnt := spanL_cnt (b := b) (bs := bs) (kind := 1) (frm := frm) (to := to)
  by_cases h : spanE' b bs 1 frm to = 0
  · rw [if_pos h]
    simp only [spansE_K]
    rw [if_pos (by rw [spanK_len]; omega), h]
    rfl
  · rw [if_neg h, spanL_bad h]
    rfl

end Go.Proofs.YtiijghkfinkphaaGreatDoor.Vm

/- Contracts of chapter 36: entries and books out of numbers. -/
namespace Go.Proofs.YtiijghkfinkphaaGreatDoor.Vm
set_option linter.unusedVariables false
set_option linter.unusedSimpArgs false

def okE (e : En) : Prop := (1 ≤ e.k ∧ e.k ≤ 8) ∧ (e.ws.length : Int) = wordsP e.k ∧ inside e.ws = true

theorem okE_valid {e : En} (h : okE e) (ht : 0 ≤ e.t ∧ e.t ≤ 2147483648) : validP e.t e.k e.ws = true := by
  unfold validP
  rw [decide_eq_true ht.1, decide_eq_true ht.2, decide_eq_true h.2.1, h.2.2]
  rfl

theorem okE_len {e : En} (h : okE e) : e.ws.length ≤ 4 := by
  have := h.2.1
  have := wordsP_le e.k
  omega

theorem inside_snoc (c : List Int) (x : Int) : inside (c ++ [x]) = (inside c && (decide (-1000000000 ≤ x) && decide (x ≤ 1000000000))) := by
  unfold inside
  rw [List.all_append]
  simp

theorem l_Entry {L : List Int} (hL : L.length ≤ 600) (t kd : Int) : ∀ (n k : Nat) (c : List Int), k ≤ 600 → n + c.length ≤ 100 → inside c = true → ∃ c' k', k' ≤ 600 ∧ c'.length = n + c.length ∧ inside c' = true ∧
    lp E (denC E) 27 1 [] 0 { vals := [AV.int .i64 (n : Int)], blks := [src L k, Blk.box [AV.int .i64 0, AV.int .i64 0, AV.sl 1 []], Blk.box [AV.int .i64 t, AV.int .i64 kd, AV.t (.hsl 3)], Blk.arr 1 (intsK .i64 c)] } =
      some (.exit 0, { vals := [], blks := [src L k', Blk.box [AV.int .i64 0, AV.int .i64 0, AV.sl 1 []], Blk.box [AV.int .i64 t, AV.int .i64 kd, AV.t (.hsl 3)], Blk.arr 1 (intsK .i64 c')] }) := by
  intro n
  induction n with
  | zero =>
    intro k c hk hc hi
    refine ⟨c, k, hk, by simp, hi, ?_⟩
    rw [r27_0]
    rfl
  | succ n ih =>
    intro k c hk hc hi
    have hp := c_Pick hL hk (l := [0, 1, 2, 3, -5, 1000000000, -1000000000]) (by simp)
    have hm := vPick_mem L k (l := [0, 1, 2, 3, -5, 1000000000, -1000000000]) (by simp)
    obtain ⟨c', k', h1, h2, h3, h4⟩ := ih (at' L k) (c ++ [vPick L k [0, 1, 2, 3, -5, 1000000000, -1000000000]]) (at'_le hL hk) (by simp; omega) (by
      rw [inside_snoc, hi]
      simp only [List.mem_cons, List.not_mem_nil, or_false] at hm
      have : -1000000000 ≤ vPick L k [0, 1, 2, 3, -5, 1000000000, -1000000000] ∧ vPick L k [0, 1, 2, 3, -5, 1000000000, -1000000000] ≤ 1000000000 := by omega
      simp [this.1, this.2])
    refine ⟨c', k', h1, by rw [h2]; simp; omega, h3, ?_⟩
    rw [r27_0]
    have hlt : ltB 0 ((n + 1 : Nat) : Int) = true := by simp [ltB] <;> omega
    have hw : IntKind.i64.wrap (((n + 1 : Nat) : Int) - 1) = (n : Int) := by rw [w64 (by omega)]; omega
    have e1 : intsK .i64 [0, 1, 2, 3, -5, 1000000000, -1000000000] = [[PV.int IntKind.i64 0], [PV.int IntKind.i64 1], [PV.int IntKind.i64 2], [PV.int IntKind.i64 3], [PV.int IntKind.i64 (-5)], [PV.int IntKind.i64 1000000000], [PV.int IntKind.i64 (-1000000000)]] := rfl
    rw [hlt, ctl_true, ← e1, hp]
    have h9 : leN (((intsK .i64 c).length + 1) * 8) 140737488355328 = true := by rw [intsK_len]; simp [leN]; omega
    simp only [bnd_some, ctl_true, ctl_false, ctl_and, ctl_or', ctl_or2, x_toPV, x_toCs, x_toCs2, x_toEs, x_bEs, x_bCs, x_aPV, x_aCs, x_int, x_bool, x_str, x_es, x_esn, nth_0, nth_1, nth_2, nth_3, nth_4, nth_5, nth_6, nth_7, nth_8, nth_9, y_nil, y_int, y_bool, y_str, y_sl, y_nils, y_agg, y_ownp, y_own, z_nil, z_int, z_bool, z_str, z_sl, z_nils, b_nil, b_arr, b_box1, b_box2, b_box3, b_box4, List.map_cons, List.map_nil, Bool.and_self, Bool.and_true, Bool.true_and, Bool.not_true, Bool.not_false, Bool.or_false, Bool.false_or, cond_true, cond_false, okPack, okPut, okPutBlks, okPutCells, q_isP, q_isAg, q_isBox, q_isArr, q_int, q_bool, q_str, q_sl, q_nils, e_exit, e_ret, e_nrm, e_ret_exit, e_exit_ret, e_nrm_exit, e_nrm_ret, e_exit_nrm, e_ret_nrm, Nat.zero_add, Nat.reduceAdd, noslR, noslP, noslB, noslA, List.all_cons, List.all_nil]
    rw [h9, ctl_true, hw, intsK_snoc]
    exact h4

theorem c_Entry {L : List Int} {k : Nat} (hL : L.length ≤ 600) (hk : k ≤ 600) (time : Int) : ∃ e k', k' ≤ 600 ∧ e.t = time ∧ okE e ∧
    denC E 27 [AV.t (.ptr 0 0), AV.int .i64 time] [src L k] = some ([RV.agg (enK e)], [src L k']) := by
  have hp := c_Pick hL hk (l := [1, 1, 2, 3, 4, 5, 6, 7, 8]) (by simp)
  have hm := vPick_mem L k (l := [1, 1, 2, 3, 4, 5, 6, 7, 8]) (by simp)
  generalize hx : vPick L k [1, 1, 2, 3, 4, 5, 6, 7, 8] = kd at *
  have h18 : 1 ≤ kd ∧ kd ≤ 8 := by
    simp only [List.mem_cons, List.not_mem_nil, or_false] at hm
    omega
  have e1 : intsK .i64 [1, 1, 2, 3, 4, 5, 6, 7, 8] = [[PV.int IntKind.i64 1], [PV.int IntKind.i64 1], [PV.int IntKind.i64 2], [PV.int IntKind.i64 3], [PV.int IntKind.i64 4], [PV.int IntKind.i64 5], [PV.int IntKind.i64 6], [PV.int IntKind.i64 7], [PV.int IntKind.i64 8]] := rfl
  obtain ⟨n, hn⟩ : ∃ n : Nat, wordsP kd = n := ⟨(wordsP kd).toNat, by
    have : kd = 1 ∨ kd = 2 ∨ kd = 3 ∨ kd = 4 ∨ kd = 5 ∨ kd = 6 ∨ kd = 7 ∨ kd = 8 := by omega
    rcases this with rfl | rfl | rfl | rfl | rfl | rfl | rfl | rfl <;> rfl⟩
  have hn4 : n ≤ 4 := by have := wordsP_le kd; omega
  obtain ⟨c', k', h1, h2, h3, h4⟩ := l_Entry hL time kd n (at' L k) [] (at'_le hL hk) (by simp; omega) rfl
  refine ⟨⟨time, kd, c'⟩, k', h1, rfl, ⟨h18, by rw [hn, h2]; simp, h3⟩, ?_⟩
  rw [denC_eq, r27, ← e1, hp]
  simp only [bnd_some, ctl_true, ctl_false, ctl_and, ctl_or', ctl_or2, x_toPV, x_toCs, x_toCs2, x_toEs, x_bEs, x_bCs, x_aPV, x_aCs, x_int, x_bool, x_str, x_es, x_esn, nth_0, nth_1, nth_2, nth_3, nth_4, nth_5, nth_6, nth_7, nth_8, nth_9, y_nil, y_int, y_bool, y_str, y_sl, y_nils, y_agg, y_ownp, y_own, z_nil, z_int, z_bool, z_str, z_sl, z_nils, b_nil, b_arr, b_box1, b_box2, b_box3, b_box4, List.map_cons, List.map_nil, Bool.and_self, Bool.and_true, Bool.true_and, Bool.not_true, Bool.not_false, Bool.or_false, Bool.false_or, cond_true, cond_false, okPack, okPut, okPutBlks, okPutCells, q_isP, q_isAg, q_isBox, q_isArr, q_int, q_bool, q_str, q_sl, q_nils, e_exit, e_ret, e_nrm, e_ret_exit, e_exit_ret, e_nrm_exit, e_nrm_ret, e_exit_nrm, e_ret_nrm, Nat.zero_add, Nat.reduceAdd, noslR, noslP, noslB, noslA, List.all_cons, List.all_nil]
  have e2 : (leB 0 kd && ltB kd 9) = true := by simp [leB, ltB]; omega
  have e3 : nth [] [[PV.int IntKind.i64 0], [PV.int IntKind.i64 1], [PV.int IntKind.i64 1], [PV.int IntKind.i64 1], [PV.int IntKind.i64 2], [PV.int IntKind.i64 2], [PV.int IntKind.i64 4], [PV.int IntKind.i64 2], [PV.int IntKind.i64 3]] kd.toNat = [PV.int .i64 (n : Int)] := by
    rw [← hn]
    have : kd = 1 ∨ kd = 2 ∨ kd = 3 ∨ kd = 4 ∨ kd = 5 ∨ kd = 6 ∨ kd = 7 ∨ kd = 8 := by omega
    rcases this with rfl | rfl | rfl | rfl | rfl | rfl | rfl | rfl <;> rfl
  have e4 : okCs [Sh.int IntKind.i64] (List.take 1 (List.drop 0 [PV.int .i64 (n : Int)])) = true := rfl
  have e5 : (nth PV.nilp [PV.int .i64 (n : Int)] 0).toInt = (n : Int) := rfl
  rw [e2, e3, e4, e5]
  have e6 : intsK .i64 [] = [] := rfl
  rw [e6] at h4
  simp only [bnd_some, ctl_true, ctl_false, ctl_and, ctl_or', ctl_or2, x_toPV, x_toCs, x_toCs2, x_toEs, x_bEs, x_bCs, x_aPV, x_aCs, x_int, x_bool, x_str, x_es, x_esn, nth_0, nth_1, nth_2, nth_3, nth_4, nth_5, nth_6, nth_7, nth_8, nth_9, y_nil, y_int, y_bool, y_str, y_sl, y_nils, y_agg, y_ownp, y_own, z_nil, z_int, z_bool, z_str, z_sl, z_nils, b_nil, b_arr, b_box1, b_box2, b_box3, b_box4, List.map_cons, List.map_nil, Bool.and_self, Bool.and_true, Bool.true_and, Bool.not_true, Bool.not_false, Bool.or_false, Bool.false_or, cond_true, cond_false, okPack, okPut, okPutBlks, okPutCells, q_isP, q_isAg, q_isBox, q_isArr, q_int, q_bool, q_str, q_sl, q_nils, e_exit, e_ret, e_nrm, e_ret_exit, e_exit_ret, e_nrm_exit, e_nrm_ret, e_exit_nrm, e_ret_nrm, Nat.zero_add, Nat.reduceAdd, noslR, noslP, noslB, noslA, List.all_cons, List.all_nil]
  rw [h4]
  simp only [bnd_some, ctl_true, ctl_false, ctl_and, ctl_or', ctl_or2, x_toPV, x_toCs, x_toCs2, x_toEs, x_bEs, x_bCs, x_aPV, x_aCs, x_int, x_bool, x_str, x_es, x_esn, nth_0, nth_1, nth_2, nth_3, nth_4, nth_5, nth_6, nth_7, nth_8, nth_9, y_nil, y_int, y_bool, y_str, y_sl, y_nils, y_agg, y_ownp, y_own, z_nil, z_int, z_bool, z_str, z_sl, z_nils, b_nil, b_arr, b_box1, b_box2, b_box3, b_box4, List.map_cons, List.map_nil, Bool.and_self, Bool.and_true, Bool.true_and, Bool.not_true, Bool.not_false, Bool.or_false, Bool.false_or, cond_true, cond_false, okPack, okPut, okPutBlks, okPutCells, q_isP, q_isAg, q_isBox, q_isArr, q_int, q_bool, q_str, q_sl, q_nils, e_exit, e_ret, e_nrm, e_ret_exit, e_exit_ret, e_nrm_exit, e_nrm_ret, e_exit_nrm, e_ret_nrm, Nat.zero_add, Nat.reduceAdd, noslR, noslP, noslB, noslA, List.all_cons, List.all_nil]
  rfl

theorem u64_rng (x : Int) : 0 ≤ IntKind.u64.wrap x ∧ IntKind.u64.wrap x ≤ 18446744073709551615 := by
  have h1 : IntKind.u64.wrap x = x % 18446744073709551616 := rfl
  rw [h1]
  omega

theorem sumB_rng : ∀ (s : List UInt8) (x : Int), 0 ≤ x ∧ x ≤ 18446744073709551615 → 0 ≤ sumB x s ∧ sumB x s ≤ 18446744073709551615
  | [], x, h => h
  | b :: s, x, h => by
    rw [sumB_cons]
    exact sumB_rng s _ (u64_rng _)

theorem runB_rng : ∀ {l : List En} {s p x : Int}, runB s p l = some x → 0 ≤ s ∧ s ≤ 18446744073709551615 → 0 ≤ x ∧ x ≤ 18446744073709551615
  | [], s, p, x, h, hs => by simp only [runB, Option.some.injEq] at h; omega
  | a :: l, s, p, x, h, hs => by
    simp only [runB] at h
    split at h
    · exact runB_rng h (sumB_rng _ _ hs)
    · cases h

theorem checkP_rng {b : List En} {s : Int} (h : checkP b s = 0) : 0 ≤ s ∧ s ≤ 18446744073709551615 := runB_rng (checkP_run h) (by decide)

theorem runB_snoc {e : En} (hv : validP e.t e.k e.ws = true) : ∀ {l : List En} {s p x : Int}, runB s p l = some x → p ≤ e.t → (∀ a ∈ l, a.t ≤ e.t) → runB s p (l ++ [e]) = some (sumB x (lineP e.t e.k e.ws))
  | [], s, p, x, h, hp, _ => by
    simp only [runB, Option.some.injEq] at h
    subst h
    simp [runB, hv, hp]
  | a :: l, s, p, x, h, hp, hl => by
    simp only [runB, List.cons_append] at h ⊢
    split at h
    · rename_i hq
      rw [if_pos hq]
      exact runB_snoc hv h (hl a (.head _)) (fun c hc => hl c (.tail _ hc))
    · cases h

theorem lateP_all {b : List En} {t : Int} (hs : b.Pairwise (fun a c => a.t ≤ c.t)) (h : lateP b t = true) : ∀ a ∈ b, a.t ≤ t := by
  rcases List.eq_nil_or_concat b with rfl | ⟨q, z, rfl⟩
  · intro a ha; cases ha
  · intro a ha
    have h1 : z.t ≤ t := by simpa [lateP, List.concat_eq_append] using h
    rw [List.concat_eq_append] at ha hs
    rcases List.mem_append.1 ha with ha | ha
    · have := (List.pairwise_append.1 hs).2.2 a ha z (by simp); omega
    · simp at ha; subst ha; exact h1

theorem checkP_snoc {b : List En} {s : Int} {e : En} (hc : checkP b s = 0) (hv : validP e.t e.k e.ws = true) (hl : lateP b e.t = true) (hn : b.length < 200) : checkP (b ++ [e]) (sumB s (lineP e.t e.k e.ws)) = 0 := by
  have hr := checkP_run hc
  obtain ⟨_, hs⟩ := runB_sorted hr
  have h0 : 0 ≤ e.t := (validP_all hv).1
  have := runB_snoc hv hr h0 (lateP_all hs hl)
  unfold checkP
  rw [if_neg (by simp; omega), if_pos this]

theorem checkP_nil : checkP [] begin36 = 0 := by decide

theorem appR_ok {b : List En} {s : Int} {e : En} (hc : checkP b s = 0) (hv : validP e.t e.k e.ws = true) (hl : lateP b e.t = true) (hn : b.length < 200) : appR b s e = [RV.agg [PV.sl 3 (ensK (b ++ [e])), PV.int .u64 (sumB s (lineP e.t e.k e.ws))], RV.p (PV.int .i64 0)] := by
  have : appE b s e = 0 := by unfold appE; rw [if_neg (by simp [hc, hv]), if_neg (by simp [hl]), if_neg (by omega)]
  unfold appR
  rw [if_pos this]

theorem lateP_of {b : List En} {t : Int} (h : ∀ a ∈ b, a.t ≤ t) : lateP b t = true := by
  unfold lateP
  split
  · rename_i a ha
    have := List.mem_of_getLast? ha
    simpa using h a this
  · rfl

theorem checkP_ws {b : List En} {s : Int} (h : checkP b s = 0) : ∀ e ∈ b, e.ws.length ≤ 1000000 := fun e he => by
  have := (validP_all (runB_ok (checkP_run h) e he)).2.2.2.2.1
  omega

theorem l_Book {L : List Int} (hL : L.length ≤ 600) (z0 : List (List PV)) (z1 : Int) : ∀ (n k : Nat) (b : List En) (s time : Int), k ≤ 600 → n + b.length ≤ 100 → checkP b s = 0 → 0 ≤ time → time + 3 * n ≤ 1000 → (∀ a ∈ b, a.t ≤ time) →
    ∃ b' s' k', k' ≤ 600 ∧ checkP b' s' = 0 ∧ b'.length = n + b.length ∧ (∀ a ∈ b', a.t ≤ time + 3 * n) ∧
    lp E (denC E) 8 1 [] 0 { vals := [AV.int .i64 time, AV.int .i64 (n : Int)], blks := [src L k, Blk.box [AV.sl 3 z0, AV.int .u64 z1], Blk.box [AV.sl 3 (ensK b), AV.int .u64 s]] } =
      some (.exit 0, { vals := [], blks := [src L k', Blk.box [AV.sl 3 z0, AV.int .u64 z1], Blk.box [AV.sl 3 (ensK b'), AV.int .u64 s']] }) := by
  intro n
  induction n with
  | zero =>
    intro k b s time hk hn hc ht0 ht1 hb
    refine ⟨b, s, k, hk, hc, by simp, by simpa using hb, ?_⟩
    rw [r8_0]
    rfl
  | succ n ih =>
    intro k b s time hk hn hc ht0 ht1 hb
    have hN := c_N hL hk 4 (by omega)
    have hbd := vN_bounds (L := L) (k := k) (n := 4) (by omega)
    obtain ⟨e, k1, hk1, het, hoe, hE⟩ := c_Entry hL (at'_le hL hk) (time + vN L k 4)
    have hv : validP e.t e.k e.ws = true := okE_valid hoe (by omega)
    have hla : lateP b e.t = true := lateP_of fun a ha => by have := hb a ha; omega
    have hA := c_AppendD b s e (checkP_ws hc) (by have := okE_len hoe; omega)
    rw [appR_ok hc hv hla (by omega)] at hA
    obtain ⟨b', s', k', h1, h2, h3, h4, h5⟩ := ih k1 (b ++ [e]) (sumB s (lineP e.t e.k e.ws)) (time + vN L k 4) hk1 (by simp; omega) (checkP_snoc hc hv hla (by omega)) (by omega) (by omega) (fun a ha => by
      rcases List.mem_append.1 ha with ha | ha
      · have := hb a ha; omega
      · simp at ha; subst ha; omega)
    refine ⟨b', s', k', h1, h2, by rw [h3]; simp; omega, fun a ha => by have := h4 a ha; omega, ?_⟩
    rw [r8_0]
    have hlt : ltB 0 ((n + 1 : Nat) : Int) = true := by simp [ltB] <;> omega
    have hw : IntKind.i64.wrap (((n + 1 : Nat) : Int) - 1) = (n : Int) := by rw [w64 (by omega)]; omega
    have hw2 : IntKind.i64.wrap (time + vN L k 4) = time + vN L k 4 := w64 (by omega)
    rw [hlt, ctl_true, hN]
    simp only [bnd_some, ctl_true, ctl_false, ctl_and, ctl_or', ctl_or2, x_toPV, x_toCs, x_toCs2, x_toEs, x_bEs, x_bCs, x_aPV, x_aCs, x_int, x_bool, x_str, x_es, x_esn, nth_0, nth_1, nth_2, nth_3, nth_4, nth_5, nth_6, nth_7, nth_8, nth_9, y_nil, y_int, y_bool, y_str, y_sl, y_nils, y_agg, y_ownp, y_own, z_nil, z_int, z_bool, z_str, z_sl, z_nils, b_nil, b_arr, b_box1, b_box2, b_box3, b_box4, List.map_cons, List.map_nil, Bool.and_self, Bool.and_true, Bool.true_and, Bool.not_true, Bool.not_false, Bool.or_false, Bool.false_or, cond_true, cond_false, okPack, okPut, okPutBlks, okPutCells, q_isP, q_isAg, q_isBox, q_isArr, q_int, q_bool, q_str, q_sl, q_nils, e_exit, e_ret, e_nrm, e_ret_exit, e_exit_ret, e_nrm_exit, e_nrm_ret, e_exit_nrm, e_ret_nrm, Nat.zero_add, Nat.reduceAdd, noslR, noslP, noslB, noslA, List.all_cons, List.all_nil]
    rw [hw2, hE]
    unfold enK at hA ⊢
    simp only [bnd_some, ctl_true, ctl_false, ctl_and, ctl_or', ctl_or2, x_toPV, x_toCs, x_toCs2, x_toEs, x_bEs, x_bCs, x_aPV, x_aCs, x_int, x_bool, x_str, x_es, x_esn, nth_0, nth_1, nth_2, nth_3, nth_4, nth_5, nth_6, nth_7, nth_8, nth_9, y_nil, y_int, y_bool, y_str, y_sl, y_nils, y_agg, y_ownp, y_own, z_nil, z_int, z_bool, z_str, z_sl, z_nils, b_nil, b_arr, b_box1, b_box2, b_box3, b_box4, List.map_cons, List.map_nil, Bool.and_self, Bool.and_true, Bool.true_and, Bool.not_true, Bool.not_false, Bool.or_false, Bool.false_or, cond_true, cond_false, okPack, okPut, okPutBlks, okPutCells, q_isP, q_isAg, q_isBox, q_isArr, q_int, q_bool, q_str, q_sl, q_nils, e_exit, e_ret, e_nrm, e_ret_exit, e_exit_ret, e_nrm_exit, e_nrm_ret, e_exit_nrm, e_ret_nrm, Nat.zero_add, Nat.reduceAdd, noslR, noslP, noslB, noslA, List.all_cons, List.all_nil]
    rw [hA]
    simp only [bnd_some, ctl_true, ctl_false, ctl_and, ctl_or', ctl_or2, x_toPV, x_toCs, x_toCs2, x_toEs, x_bEs, x_bCs, x_aPV, x_aCs, x_int, x_bool, x_str, x_es, x_esn, nth_0, nth_1, nth_2, nth_3, nth_4, nth_5, nth_6, nth_7, nth_8, nth_9, y_nil, y_int, y_bool, y_str, y_sl, y_nils, y_agg, y_ownp, y_own, z_nil, z_int, z_bool, z_str, z_sl, z_nils, b_nil, b_arr, b_box1, b_box2, b_box3, b_box4, List.map_cons, List.map_nil, Bool.and_self, Bool.and_true, Bool.true_and, Bool.not_true, Bool.not_false, Bool.or_false, Bool.false_or, cond_true, cond_false, okPack, okPut, okPutBlks, okPutCells, q_isP, q_isAg, q_isBox, q_isArr, q_int, q_bool, q_str, q_sl, q_nils, e_exit, e_ret, e_nrm, e_ret_exit, e_exit_ret, e_nrm_exit, e_nrm_ret, e_exit_nrm, e_ret_nrm, Nat.zero_add, Nat.reduceAdd, noslR, noslP, noslB, noslA, List.all_cons, List.all_nil]
    rw [hw]
    exact h5

theorem c_Book {L : List Int} {k : Nat} (hL : L.length ≤ 600) (hk : k ≤ 600) (most : Int) (hm : 0 ≤ most ∧ most ≤ 20) : ∃ b s k', k' ≤ 600 ∧ checkP b s = 0 ∧ (b.length : Int) ≤ most ∧ (∀ a ∈ b, a.t ≤ 60) ∧
    denC E 8 [AV.t (.ptr 0 0), AV.int .i64 most] [src L k] = some ([RV.agg [PV.sl 3 (ensK b), PV.int .u64 s]], [src L k']) := by
  have hN := c_N hL hk (most + 1) (by omega)
  have hbd := vN_bounds (L := L) (k := k) (n := most + 1) (by omega)
  obtain ⟨n, hn⟩ : ∃ n : Nat, vN L k (most + 1) = n := ⟨(vN L k (most + 1)).toNat, by omega⟩
  obtain ⟨b, s, k', h1, h2, h3, h4, h5⟩ := l_Book hL [] 0 n (at' L k) [] begin36 0 (at'_le hL hk) (by simp; omega) checkP_nil (by omega) (by omega) (fun a ha => (List.not_mem_nil ha).elim)
  refine ⟨b, s, k', h1, h2, by rw [h3]; simp; omega, fun a ha => by have := h4 a ha; omega, ?_⟩
  have e0 : ensK [] = [] := rfl
  rw [e0] at h5
  rw [denC_eq, r8, c_NewD]
  simp only [bnd_some, ctl_true, ctl_false, ctl_and, ctl_or', ctl_or2, x_toPV, x_toCs, x_toCs2, x_toEs, x_bEs, x_bCs, x_aPV, x_aCs, x_int, x_bool, x_str, x_es, x_esn, nth_0, nth_1, nth_2, nth_3, nth_4, nth_5, nth_6, nth_7, nth_8, nth_9, y_nil, y_int, y_bool, y_str, y_sl, y_nils, y_agg, y_ownp, y_own, z_nil, z_int, z_bool, z_str, z_sl, z_nils, b_nil, b_arr, b_box1, b_box2, b_box3, b_box4, List.map_cons, List.map_nil, Bool.and_self, Bool.and_true, Bool.true_and, Bool.not_true, Bool.not_false, Bool.or_false, Bool.false_or, cond_true, cond_false, okPack, okPut, okPutBlks, okPutCells, q_isP, q_isAg, q_isBox, q_isArr, q_int, q_bool, q_str, q_sl, q_nils, e_exit, e_ret, e_nrm, e_ret_exit, e_exit_ret, e_nrm_exit, e_nrm_ret, e_exit_nrm, e_ret_nrm, Nat.zero_add, Nat.reduceAdd, noslR, noslP, noslB, noslA, List.all_cons, List.all_nil]
  rw [w64 (n := most + 1) (by omega), hN]
  simp only [bnd_some, ctl_true, ctl_false, ctl_and, ctl_or', ctl_or2, x_toPV, x_toCs, x_toCs2, x_toEs, x_bEs, x_bCs, x_aPV, x_aCs, x_int, x_bool, x_str, x_es, x_esn, nth_0, nth_1, nth_2, nth_3, nth_4, nth_5, nth_6, nth_7, nth_8, nth_9, y_nil, y_int, y_bool, y_str, y_sl, y_nils, y_agg, y_ownp, y_own, z_nil, z_int, z_bool, z_str, z_sl, z_nils, b_nil, b_arr, b_box1, b_box2, b_box3, b_box4, List.map_cons, List.map_nil, Bool.and_self, Bool.and_true, Bool.true_and, Bool.not_true, Bool.not_false, Bool.or_false, Bool.false_or, cond_true, cond_false, okPack, okPut, okPutBlks, okPutCells, q_isP, q_isAg, q_isBox, q_isArr, q_int, q_bool, q_str, q_sl, q_nils, e_exit, e_ret, e_nrm, e_ret_exit, e_exit_ret, e_nrm_exit, e_nrm_ret, e_exit_nrm, e_ret_nrm, Nat.zero_add, Nat.reduceAdd, noslR, noslP, noslB, noslA, List.all_cons, List.all_nil]
  rw [hn, h5]
  simp only [bnd_some, ctl_true, ctl_false, ctl_and, ctl_or', ctl_or2, x_toPV, x_toCs, x_toCs2, x_toEs, x_bEs, x_bCs, x_aPV, x_aCs, x_int, x_bool, x_str, x_es, x_esn, nth_0, nth_1, nth_2, nth_3, nth_4, nth_5, nth_6, nth_7, nth_8, nth_9, y_nil, y_int, y_bool, y_str, y_sl, y_nils, y_agg, y_ownp, y_own, z_nil, z_int, z_bool, z_str, z_sl, z_nils, b_nil, b_arr, b_box1, b_box2, b_box3, b_box4, List.map_cons, List.map_nil, Bool.and_self, Bool.and_true, Bool.true_and, Bool.not_true, Bool.not_false, Bool.or_false, Bool.false_or, cond_true, cond_false, okPack, okPut, okPutBlks, okPutCells, q_isP, q_isAg, q_isBox, q_isArr, q_int, q_bool, q_str, q_sl, q_nils, e_exit, e_ret, e_nrm, e_ret_exit, e_exit_ret, e_nrm_exit, e_nrm_ret, e_exit_nrm, e_ret_nrm, Nat.zero_add, Nat.reduceAdd, noslR, noslP, noslB, noslA, List.all_cons, List.all_nil]

end Go.Proofs.YtiijghkfinkphaaGreatDoor.Vm

/- Chapter 36: the example. -/
namespace Go.Proofs.YtiijghkfinkphaaGreatDoor.Vm
set_option linter.unusedVariables false
set_option linter.unusedSimpArgs false

def sE0 : En := ⟨0, 1, [3]⟩

def sE1 : En := ⟨5, 1, [2]⟩

def sS1 : Int := sumB begin36 (lineP 0 1 [3])

def sS2 : Int := sumB sS1 (lineP 5 1 [2])

theorem s_ok1 : checkP [sE0] sS1 = 0 := checkP_snoc (b := []) (e := sE0) checkP_nil (by decide) rfl (by decide)

theorem s_ok2 : checkP [sE0, sE1] sS2 = 0 := checkP_snoc (b := [sE0]) (e := sE1) s_ok1 (by decide) (by decide) (by decide)

theorem s_gl : gl (aF [sE0, sE1] 1) 0 10 [(0, 5, 3), (5, 10, 2)] := by
  have h : ∀ k, aF [sE0, sE1] 1 k = if 5 ≤ k then 2 else if 0 ≤ k then 3 else 0 := fun k => by
    by_cases h1 : 5 ≤ k
    · have h2 : 0 ≤ k := by omega
      simp [aF, trip, atL, sE0, sE1, h1, h2]
    · by_cases h2 : 0 ≤ k <;> simp [aF, trip, atL, sE0, sE1, h1, h2]
  refine ⟨rfl, by decide, fun k h1 h2 => ?_, fun y hy => ?_, rfl, by decide, fun k h1 h2 => ?_, fun y hy => ?_, rfl⟩
  · simp only at h2
    rw [h, if_neg (by omega), if_pos h1]
  · simp at hy; subst hy; decide
  · simp only at h1
    rw [h, if_pos h1]
  · simp at hy

theorem s_degr : degrL [sE0, sE1] sS2 0 10 = [(5, 10, 2)] := by
  have he : spanE' [sE0, sE1] sS2 1 0 10 = 0 := by
    unfold spanE'
    rw [if_neg (by rw [s_ok2]; decide), if_pos (by decide)]
  unfold degrL spanL
  rw [if_pos he, spP_eq s_gl]
  rfl

theorem c_sane36 : denC E 5 [] [] = some ([RV.p (PV.bool true)], []) := by
  have hA1 := c_AppendE [] begin36 sE0 (fun e he => (List.not_mem_nil he).elim) (by decide)
  rw [appR_ok checkP_nil (by decide) rfl (by decide)] at hA1
  have hA2 := c_AppendE [sE0] sS1 sE1 (fun e he => by simp at he; subst he; decide) (by decide)
  rw [appR_ok s_ok1 (by decide) (by decide) (by decide)] at hA2
  have hD := c_DegrE [sE0, sE1] sS2 0 10 (checkP_ws s_ok2)
  have he : spanE' [sE0, sE1] sS2 1 0 10 = 0 := by
    unfold spanE'
    rw [if_neg (by rw [s_ok2]; decide), if_pos (by decide)]
  rw [s_degr, he] at hD
  have hT := c_TextE [] begin36 (by decide) (fun e he => (List.not_mem_nil he).elim)
  have ht : textR [] begin36 = [RV.p (PV.str (lastP begin36)), RV.p (PV.int .i64 0)] := rfl
  rw [ht] at hT
  have hL := c_AllR [(5, 10, 2)] (by decide)
  have hla : (lastP begin36 == [61, 32, 49, 52, 54, 57, 53, 57, 56, 49, 48, 51, 57, 51, 52, 54, 54, 53, 54, 48, 51, 55, 10]) = true := by decide +kernel
  have e1 : enK sE0 = [PV.int IntKind.i64 0, PV.int IntKind.i64 1, PV.sl 1 [[PV.int IntKind.i64 3]]] := rfl
  have e2 : enK sE1 = [PV.int IntKind.i64 5, PV.int IntKind.i64 1, PV.sl 1 [[PV.int IntKind.i64 2]]] := rfl
  have e3 : ensK [] = [] := rfl
  have e4 : spanK [(5, 10, 2)] = [[PV.int IntKind.i64 5, PV.int IntKind.i64 10, PV.int IntKind.i64 2]] := rfl
  have e5 : sumB begin36 (lineP sE0.t sE0.k sE0.ws) = sS1 := rfl
  have e6 : sumB sS1 (lineP sE1.t sE1.k sE1.ws) = sS2 := rfl
  rw [e1, e3, e5, List.nil_append] at hA1
  rw [e2, e6] at hA2
  have e7 : [sE0] ++ [sE1] = [sE0, sE1] := rfl
  rw [e7] at hA2
  rw [e4] at hD hL
  rw [e3] at hT
  rw [denC_eq, r5, c_New36]
  simp only [bnd_some, ctl_true, ctl_false, ctl_and, ctl_or', ctl_or2, x_toPV, x_toCs, x_toCs2, x_toEs, x_bEs, x_bCs, x_aPV, x_aCs, x_int, x_bool, x_str, x_es, x_esn, nth_0, nth_1, nth_2, nth_3, nth_4, nth_5, nth_6, nth_7, nth_8, nth_9, y_nil, y_int, y_bool, y_str, y_sl, y_nils, y_agg, y_ownp, y_own, z_nil, z_int, z_bool, z_str, z_sl, z_nils, b_nil, b_arr, b_box1, b_box2, b_box3, b_box4, List.map_cons, List.map_nil, Bool.and_self, Bool.and_true, Bool.true_and, Bool.not_true, Bool.not_false, Bool.or_false, Bool.false_or, cond_true, cond_false, okPack, okPut, okPutBlks, okPutCells, q_isP, q_isAg, q_isBox, q_isArr, q_int, q_bool, q_str, q_sl, q_nils, e_exit, e_ret, e_nrm, e_ret_exit, e_exit_ret, e_nrm_exit, e_nrm_ret, e_exit_nrm, e_ret_nrm, Nat.zero_add, Nat.reduceAdd, noslR, noslP, noslB, noslA, List.all_cons, List.all_nil]
  rw [hA1]
  simp only [bnd_some, ctl_true, ctl_false, ctl_and, ctl_or', ctl_or2, x_toPV, x_toCs, x_toCs2, x_toEs, x_bEs, x_bCs, x_aPV, x_aCs, x_int, x_bool, x_str, x_es, x_esn, nth_0, nth_1, nth_2, nth_3, nth_4, nth_5, nth_6, nth_7, nth_8, nth_9, y_nil, y_int, y_bool, y_str, y_sl, y_nils, y_agg, y_ownp, y_own, z_nil, z_int, z_bool, z_str, z_sl, z_nils, b_nil, b_arr, b_box1, b_box2, b_box3, b_box4, List.map_cons, List.map_nil, Bool.and_self, Bool.and_true, Bool.true_and, Bool.not_true, Bool.not_false, Bool.or_false, Bool.false_or, cond_true, cond_false, okPack, okPut, okPutBlks, okPutCells, q_isP, q_isAg, q_isBox, q_isArr, q_int, q_bool, q_str, q_sl, q_nils, e_exit, e_ret, e_nrm, e_ret_exit, e_exit_ret, e_nrm_exit, e_nrm_ret, e_exit_nrm, e_ret_nrm, Nat.zero_add, Nat.reduceAdd, noslR, noslP, noslB, noslA, List.all_cons, List.all_nil]
  rw [hA2]
  simp only [bnd_some, ctl_true, ctl_false, ctl_and, ctl_or', ctl_or2, x_toPV, x_toCs, x_toCs2, x_toEs, x_bEs, x_bCs, x_aPV, x_aCs, x_int, x_bool, x_str, x_es, x_esn, nth_0, nth_1, nth_2, nth_3, nth_4, nth_5, nth_6, nth_7, nth_8, nth_9, y_nil, y_int, y_bool, y_str, y_sl, y_nils, y_agg, y_ownp, y_own, z_nil, z_int, z_bool, z_str, z_sl, z_nils, b_nil, b_arr, b_box1, b_box2, b_box3, b_box4, List.map_cons, List.map_nil, Bool.and_self, Bool.and_true, Bool.true_and, Bool.not_true, Bool.not_false, Bool.or_false, Bool.false_or, cond_true, cond_false, okPack, okPut, okPutBlks, okPutCells, q_isP, q_isAg, q_isBox, q_isArr, q_int, q_bool, q_str, q_sl, q_nils, e_exit, e_ret, e_nrm, e_ret_exit, e_exit_ret, e_nrm_exit, e_nrm_ret, e_exit_nrm, e_ret_nrm, Nat.zero_add, Nat.reduceAdd, noslR, noslP, noslB, noslA, List.all_cons, List.all_nil]
  rw [hD]
  simp only [bnd_some, ctl_true, ctl_false, ctl_and, ctl_or', ctl_or2, x_toPV, x_toCs, x_toCs2, x_toEs, x_bEs, x_bCs, x_aPV, x_aCs, x_int, x_bool, x_str, x_es, x_esn, nth_0, nth_1, nth_2, nth_3, nth_4, nth_5, nth_6, nth_7, nth_8, nth_9, y_nil, y_int, y_bool, y_str, y_sl, y_nils, y_agg, y_ownp, y_own, z_nil, z_int, z_bool, z_str, z_sl, z_nils, b_nil, b_arr, b_box1, b_box2, b_box3, b_box4, List.map_cons, List.map_nil, Bool.and_self, Bool.and_true, Bool.true_and, Bool.not_true, Bool.not_false, Bool.or_false, Bool.false_or, cond_true, cond_false, okPack, okPut, okPutBlks, okPutCells, q_isP, q_isAg, q_isBox, q_isArr, q_int, q_bool, q_str, q_sl, q_nils, e_exit, e_ret, e_nrm, e_ret_exit, e_exit_ret, e_nrm_exit, e_nrm_ret, e_exit_nrm, e_ret_nrm, Nat.zero_add, Nat.reduceAdd, noslR, noslP, noslB, noslA, List.all_cons, List.all_nil]
  rw [hT]
  simp only [beq_self_eq_true, bnd_some, ctl_true, ctl_false, ctl_and, ctl_or', ctl_or2, x_toPV, x_toCs, x_toCs2, x_toEs, x_bEs, x_bCs, x_aPV, x_aCs, x_int, x_bool, x_str, x_es, x_esn, nth_0, nth_1, nth_2, nth_3, nth_4, nth_5, nth_6, nth_7, nth_8, nth_9, y_nil, y_int, y_bool, y_str, y_sl, y_nils, y_agg, y_ownp, y_own, z_nil, z_int, z_bool, z_str, z_sl, z_nils, b_nil, b_arr, b_box1, b_box2, b_box3, b_box4, List.map_cons, List.map_nil, Bool.and_self, Bool.and_true, Bool.true_and, Bool.not_true, Bool.not_false, Bool.or_false, Bool.false_or, cond_true, cond_false, okPack, okPut, okPutBlks, okPutCells, q_isP, q_isAg, q_isBox, q_isArr, q_int, q_bool, q_str, q_sl, q_nils, e_exit, e_ret, e_nrm, e_ret_exit, e_exit_ret, e_nrm_exit, e_nrm_ret, e_exit_nrm, e_ret_nrm, Nat.zero_add, Nat.reduceAdd, noslR, noslP, noslB, noslA, List.all_cons, List.all_nil]
  rw [hL]
  simp only [hla, bnd_some, ctl_true, ctl_false, ctl_and, ctl_or', ctl_or2, x_toPV, x_toCs, x_toCs2, x_toEs, x_bEs, x_bCs, x_aPV, x_aCs, x_int, x_bool, x_str, x_es, x_esn, nth_0, nth_1, nth_2, nth_3, nth_4, nth_5, nth_6, nth_7, nth_8, nth_9, y_nil, y_int, y_bool, y_str, y_sl, y_nils, y_agg, y_ownp, y_own, z_nil, z_int, z_bool, z_str, z_sl, z_nils, b_nil, b_arr, b_box1, b_box2, b_box3, b_box4, List.map_cons, List.map_nil, Bool.and_self, Bool.and_true, Bool.true_and, Bool.not_true, Bool.not_false, Bool.or_false, Bool.false_or, cond_true, cond_false, okPack, okPut, okPutBlks, okPutCells, q_isP, q_isAg, q_isBox, q_isArr, q_int, q_bool, q_str, q_sl, q_nils, e_exit, e_ret, e_nrm, e_ret_exit, e_exit_ret, e_nrm_exit, e_nrm_ret, e_exit_nrm, e_ret_nrm, Nat.zero_add, Nat.reduceAdd, noslR, noslP, noslB, noslA, List.all_cons, List.all_nil]

end Go.Proofs.YtiijghkfinkphaaGreatDoor.Vm
