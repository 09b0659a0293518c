import Derived.Test.YtkpdiagdjplbiaaGreatDoorEnv
import Derived.KernelRfl
import Derived.Test.YtkpdiagdjplbiaaGreatDoorSentC
import Derived.Test.YtkpdiagdjplbiaaGreatDoorRaw
import Derived.Test.YtkpdiagdjplbiaaGreatDoorPrims
/- The raw theorems of the two functions Sum, by hand (the printing program's kernel questions are too deep at u64 products). -/
namespace Go.Proofs.YtkpdiagdjplbiaaGreatDoor.Vm
open Go
set_option maxRecDepth 100000
set_option linter.unusedVariables false

theorem r43_0 (F : Fun) (x0 : Int) (s : List UInt8) (x5 : Int) : lp E F 43 0 [] 0
  { vals := [AV.int IntKind.u64 x0, AV.str s, AV.int IntKind.i64 x5], blks := [] } =
  ctl (ltB x5 (s.length : Int))
    (ctl (leB 0 x5 && ltB x5 (s.length : Int))
      (lp E F 43 0 [] 0
        { vals := [AV.int IntKind.u64 (IntKind.u64.wrap (IntKind.u64.wrap (↑(BitVec.ofInt 64 x0 ^^^ BitVec.ofInt 64 (IntKind.u64.wrap (byteAt s x5))).toNat : Int) * 1099511628211)), AV.str s, AV.int IntKind.i64 (IntKind.i64.wrap (x5 + 1))], blks := [] })
      Option.none)
    (Option.some (Ex.exit 0, { vals := [AV.int IntKind.u64 x0], blks := [] })) := (lp_unfold ..).trans (by kernel_rfl)

theorem r43 (F : Fun) (sum : Int) (s : List UInt8) : funK E F 43 [AV.int IntKind.u64 sum, AV.str s] [] =
  bnd
    (lp E F 43 0 [] 0
      { vals := [AV.int IntKind.u64 sum, AV.str s, AV.int IntKind.i64 0], blks := [] })
    fun (p : Ex × Pack) =>
    ctl (p.fst.eqb (Ex.exit 0))
      (ctl (okPack { slots := [(0, Sum.inl (Sh.int IntKind.u64))], blks := [] } p.snd)
        (Option.some
          ([RV.p (PV.int IntKind.u64 (nth AV.undef p.snd.vals 0).toPV.toInt)],
            []))
        Option.none)
      Option.none := by kernel_rfl

theorem r64_0 (F : Fun) (x0 : Int) (es : List (List PV)) (x43 : Int) (x10 : Int) : lp E F 64 0 [] 0
  { vals := [AV.int IntKind.u64 x0, AV.sl 1 es, AV.int IntKind.i64 x43, AV.int IntKind.i64 x10], blks := [] } =
  ctl (ltB x10 x43)
    (getE es x10 fun (c : List PV) =>
      ctl (okCs [Sh.int IntKind.u8] c)
        (lp E F 64 0 [] 0
          { vals := [AV.int IntKind.u64 (IntKind.u64.wrap (IntKind.u64.wrap (↑(BitVec.ofInt 64 x0 ^^^ BitVec.ofInt 64 (IntKind.u64.wrap (nth PV.nilp c 0).toInt)).toNat : Int) * 1099511628211)), AV.sl 1 es, AV.int IntKind.i64 x43, AV.int IntKind.i64 (IntKind.i64.wrap (x10 + 1))], blks := [] })
        Option.none)
    (Option.some (Ex.exit 0, { vals := [AV.int IntKind.u64 x0], blks := [] })) := (lp_unfold ..).trans (by kernel_rfl)

theorem r64 (F : Fun) (sum : Int) (text : List UInt8) : funK E F 64 [AV.int IntKind.u64 sum, AV.str text] [] =
  bnd
    (lp E F 64 0 [] 0
      {
        vals :=
          [AV.int IntKind.u64 sum, AV.sl 1 (byteEs text),
            AV.int IntKind.i64 (↑(byteEs text).length : Int), AV.int IntKind.i64 0],
        blks := [] })
    fun (p : Ex × Pack) =>
    ctl (p.fst.eqb (Ex.exit 0))
      (ctl (okPack { slots := [(0, Sum.inl (Sh.int IntKind.u64))], blks := [] } p.snd)
        (Option.some
          ([RV.p (PV.int IntKind.u64 (nth AV.undef p.snd.vals 0).toPV.toInt)],
            []))
        Option.none)
      Option.none := by kernel_rfl

end Go.Proofs.YtkpdiagdjplbiaaGreatDoor.Vm

/- Contracts of chapter 36: sums, entries, lines. -/
namespace Go.Proofs.YtkpdiagdjplbiaaGreatDoor.Vm
set_option linter.unusedVariables false
set_option linter.unusedSimpArgs false

def sumStep (x : Int) (b : UInt8) : Int :=
  IntKind.u64.wrap (IntKind.u64.wrap (↑(BitVec.ofInt 64 x ^^^ BitVec.ofInt 64 (IntKind.u64.wrap (b.toNat : Int))).toNat : Int) * 1099511628211)

def sumB (x : Int) (s : List UInt8) : Int := s.foldl sumStep x

theorem sumB_cons (x : Int) (b : UInt8) (s : List UInt8) : sumB x (b :: s) = sumB (sumStep x b) s := rfl

theorem lp9 (pre l : List UInt8) (x : Int) (h : (pre ++ l).length ≤ 9223372036854775807) :
    lp E (denC E) 43 0 [] 0 { vals := [AV.int .u64 x, AV.str (pre ++ l), AV.int .i64 pre.length], blks := [] } = some (.exit 0, { vals := [AV.int .u64 (sumB x l)], blks := [] }) := by
  induction l generalizing pre x with
  | nil =>
    rw [r43_0]
    have h1 : ltB (pre.length : Int) (((pre ++ []).length : Nat) : Int) = false := by simp [ltB]
    rw [h1]
    rfl
  | cons b l ih =>
    rw [r43_0]
    have hl : pre.length < (pre ++ b :: l).length := by simp
    have h1 : ltB (pre.length : Int) (((pre ++ b :: l).length : Nat) : Int) = true := by simp [ltB]; omega
    have h0 : leB 0 (pre.length : Int) = true := by simp [leB]
    rw [h1, h0]
    simp only [Bool.and_self, ctl_true]
    have e1 : byteAt (pre ++ b :: l) (pre.length : Int) = (b.toNat : Int) := by
      unfold byteAt
      rw [nth_eq, Int.toNat_natCast, getD_mid]
    rw [e1, w64 (n := (pre.length : Int) + 1) (by omega), len_snoc pre b, app_cons pre b l]
    exact ih (pre ++ [b]) _ (by simpa using h)

theorem lp39 (pre l : List UInt8) (x : Int) (h : (pre ++ l).length ≤ 9223372036854775807) :
    lp E (denC E) 64 0 [] 0 { vals := [AV.int .u64 x, AV.sl 1 (byteEs (pre ++ l)), AV.int .i64 (pre ++ l).length, AV.int .i64 pre.length], blks := [] } = some (.exit 0, { vals := [AV.int .u64 (sumB x l)], blks := [] }) := by
  induction l generalizing pre x with
  | nil =>
    rw [r64_0]
    have h1 : ltB (pre.length : Int) (((pre ++ []).length : Nat) : Int) = false := by simp [ltB]
    rw [h1]
    rfl
  | cons b l ih =>
    rw [r64_0]
    have hl : pre.length < (pre ++ b :: l).length := by simp
    have h1 : ltB (pre.length : Int) (((pre ++ b :: l).length : Nat) : Int) = true := by simp [ltB]; omega
    rw [h1, ctl_true, getE_bytes (by omega)]
    have e1 : (pre ++ b :: l).getD (pre.length : Int).toNat 0 = b := by rw [Int.toNat_natCast, getD_mid]
    rw [e1]
    have e2 : okCs [Sh.int IntKind.u8] [PV.int .u8 (b.toNat : Int)] = true := rfl
    rw [e2, ctl_true]
    show lp E (denC E) 64 0 [] 0 { vals := [AV.int .u64 (sumStep x b), AV.sl 1 (byteEs (pre ++ b :: l)), AV.int .i64 (pre ++ b :: l).length, AV.int .i64 (IntKind.i64.wrap ((pre.length : Int) + 1))], blks := [] } = _
    rw [w64 (n := (pre.length : Int) + 1) (by omega), len_snoc pre b, app_cons pre b l]
    exact ih (pre ++ [b]) _ (by simpa using h)

theorem c_SumD (x : Int) (s : List UInt8) (h : s.length ≤ 9223372036854775807) : denC E 43 [AV.int .u64 x, AV.str s] [] = some ([RV.p (PV.int .u64 (sumB x s))], []) := by
  rw [denC_eq, r43]
  have := lp9 [] s x h
  simp only [List.nil_append, List.length_nil, Int.ofNat_zero] at this
  rw [this]
  rfl

theorem c_SumL (x : Int) (s : List UInt8) (h : s.length ≤ 9223372036854775807) : denC E 64 [AV.int .u64 x, AV.str s] [] = some ([RV.p (PV.int .u64 (sumB x s))], []) := by
  rw [denC_eq, r64, byteEs_length]
  have := lp39 [] s x h
  simp only [List.nil_append, List.length_nil, Int.ofNat_zero] at this
  rw [this]
  rfl

def wordsP (k : Int) : Int := if k = 1 ∨ k = 2 ∨ k = 3 then 1 else if k = 4 ∨ k = 5 ∨ k = 7 then 2 else if k = 6 then 4 else if k = 8 then 3 else -1

theorem c_words (k : Int) : denC E 66 [AV.int .i64 k] [] = some ([RV.p (PV.int .i64 (wordsP k))], []) := by
  rw [denC_eq, r66]
  by_cases h : 1 ≤ k ∧ k ≤ 8
  · have : k = 1 ∨ k = 2 ∨ k = 3 ∨ k = 4 ∨ k = 5 ∨ k = 6 ∨ k = 7 ∨ k = 8 := by omega
    rcases this with rfl | rfl | rfl | rfl | rfl | rfl | rfl | rfl <;> rfl
  · have e : ∀ n : Int, 1 ≤ n → n ≤ 8 → (k == n) = false := fun n h1 h2 => by
      rw [beq_eq_false_iff_ne]; omega
    rw [e 1 (by omega) (by omega), e 2 (by omega) (by omega), e 3 (by omega) (by omega), e 4 (by omega) (by omega), e 5 (by omega) (by omega), e 6 (by omega) (by omega), e 7 (by omega) (by omega), e 8 (by omega) (by omega)]
    have : wordsP k = -1 := by
      unfold wordsP
      rw [if_neg (by omega), if_neg (by omega), if_neg (by omega), if_neg (by omega)]
    rw [this]
    rfl

theorem c_wordsD (k : Int) : denC E 61 [AV.int .i64 k] [] = some ([RV.p (PV.int .i64 (wordsP k))], []) := by
  rw [denC_eq, r61]
  by_cases h : 1 ≤ k ∧ k ≤ 8
  · have : k = 1 ∨ k = 2 ∨ k = 3 ∨ k = 4 ∨ k = 5 ∨ k = 6 ∨ k = 7 ∨ k = 8 := by omega
    rcases this with rfl | rfl | rfl | rfl | rfl | rfl | rfl | rfl <;> rfl
  · have e1 : bnd (ctl (!ltB k 1) (some (ltB 8 k)) (some true)) (fun v : Bool => some v) = some true := by
      by_cases h1 : k < 1
      · simp [ltB, h1, ctl, bnd]
      · have : 8 < k := by omega
        simp [ltB, h1, this, ctl, bnd]
    have : wordsP k = -1 := by
      unfold wordsP
      rw [if_neg (by omega), if_neg (by omega), if_neg (by omega), if_neg (by omega)]
    rw [this]
    have e2 : ctl (!ltB k 1) (some (ltB 8 k)) (some true) = some true := by
      by_cases h1 : k < 1
      · simp [ltB, h1, ctl]
      · have : 8 < k := by omega
        simp [ltB, h1, this, ctl]
    rw [e2]
    rfl

def inside (ws : List Int) : Bool := ws.all fun x => decide (-1000000000 ≤ x) && decide (x ≤ 1000000000)

theorem out_of (x : Int) : ctl (!ltB x (-1000000000)) (some (ltB 1000000000 x)) (some true) = some (!(decide (-1000000000 ≤ x) && decide (x ≤ 1000000000))) := by
  by_cases h1 : x < -1000000000
  · have : ¬ -1000000000 ≤ x := by omega
    simp [ltB, h1, ctl, this]
  · have h2 : -1000000000 ≤ x := by omega
    by_cases h3 : 1000000000 < x
    · have : ¬ x ≤ 1000000000 := by omega
      simp [ltB, h1, h3, ctl, this]
    · have : x ≤ 1000000000 := by omega
      simp [ltB, h1, h3, ctl, this, h2]

theorem inside_cons (x : Int) (l : List Int) : inside (x :: l) = ((decide (-1000000000 ≤ x) && decide (x ≤ 1000000000)) && inside l) := rfl

theorem mid_lt {α : Type} (pre : List α) (b : α) (l : List α) : 0 ≤ (pre.length : Int) ∧ (pre.length : Int) < ((pre ++ b :: l).length : Int) := by simp; omega

theorem lp_Within (pre l : List Int) (h : (pre ++ l).length ≤ 9223372036854775807) :
    lp E (denC E) 83 0 [] 0 { vals := [AV.int .i64 1000000000, AV.sl 1 (intsK .i64 (pre ++ l)), AV.int .i64 (pre ++ l).length, AV.int .i64 pre.length], blks := [] } =
      some (if inside l then (.exit 0, { vals := [], blks := [] }) else (.ret, { vals := [AV.bool false], blks := [] })) := by
  induction l generalizing pre with
  | nil =>
    rw [r83_0]
    have h1 : ltB (pre.length : Int) (((pre ++ []).length : Nat) : Int) = false := by simp [ltB]
    rw [h1]
    rfl
  | cons b l ih =>
    rw [r83_0]
    have hl := mid_lt pre b l
    have h1 : ltB (pre.length : Int) (((pre ++ b :: l).length : Nat) : Int) = true := by simp [ltB]; omega
    rw [h1, ctl_true, getE_ints hl]
    have e1 : (pre ++ b :: l).getD (pre.length : Int).toNat 0 = b := by rw [Int.toNat_natCast, getD_mid]
    rw [e1]
    have e2 : okCs [Sh.int IntKind.i64] [PV.int .i64 b] = true := rfl
    rw [e2, ctl_true]
    have e3 : (nth PV.nilp [PV.int .i64 b] 0).toInt = b := rfl
    have e4 : IntKind.i64.wrap (0 - 1000000000) = -1000000000 := by decide +kernel
    rw [e3, e4, out_of, inside_cons]
    cases hb : (decide (-1000000000 ≤ b) && decide (b ≤ 1000000000)) with
    | false => rfl
    | true =>
      simp only [Bool.not_true, Bool.true_and]
      show lp E (denC E) 83 0 [] 0 { vals := [AV.int .i64 1000000000, AV.sl 1 (intsK .i64 (pre ++ b :: l)), AV.int .i64 (pre ++ b :: l).length, AV.int .i64 (IntKind.i64.wrap ((pre.length : Int) + 1))], blks := [] } = _
      rw [w64 (n := (pre.length : Int) + 1) (by omega), len_snoc pre b, app_cons pre b l]
      exact ih (pre ++ [b]) (by simpa using h)

theorem intsK_len (k : IntKind) (l : List Int) : (intsK k l).length = l.length := by simp [intsK]

theorem c_Within (ws : List Int) (h : ws.length ≤ 9223372036854775807) : denC E 83 [AV.int .i64 1000000000, AV.sl 1 (intsK .i64 ws)] [] = some ([RV.p (PV.bool (inside ws))], []) := by
  rw [denC_eq, r83, intsK_len]
  have := lp_Within [] ws h
  simp only [List.nil_append, List.length_nil, Int.ofNat_zero] at this
  rw [this]
  cases hb : inside ws <;> rfl

def validP (t k : Int) (ws : List Int) : Bool := ((decide (0 ≤ t) && decide (t ≤ 2147483648)) && decide ((ws.length : Int) = wordsP k)) && inside ws

theorem c_ValidE (t k : Int) (ws : List Int) (h : ws.length ≤ 9223372036854775807) : denC E 63 [AV.agg [PV.int .i64 t, PV.int .i64 k, PV.sl 1 (intsK .i64 ws)]] [] = some ([RV.p (PV.bool (validP t k ws))], []) := by
  rw [denC_eq, r63, c_words, c_Within ws h, intsK_len]
  have e1 : ctl (leB 0 t) (some (leB t 2147483648)) (some false) = some (decide (0 ≤ t) && decide (t ≤ 2147483648)) := by
    by_cases h0 : 0 ≤ t <;> simp [leB, h0, ctl]
  rw [e1]
  unfold validP
  have e2 : ((ws.length : Int) == wordsP k) = decide ((ws.length : Int) = wordsP k) := by
    by_cases hq : (ws.length : Int) = wordsP k
    · rw [decide_eq_true hq]; simpa using hq
    · rw [decide_eq_false hq]; simpa using hq
  cases (decide (0 ≤ t) && decide (t ≤ 2147483648)) with
  | false => rfl
  | true =>
    simp only [SB, Nat.reduceAdd, e2]

theorem lp_ValidD (pre l : List Int) (h : (pre ++ l).length ≤ 9223372036854775807) :
    lp E (denC E) 42 0 [] 0 { vals := [AV.sl 1 (intsK .i64 (pre ++ l)), AV.int .i64 (pre ++ l).length, AV.int .i64 pre.length], blks := [] } =
      some (if inside l then (.exit 0, { vals := [], blks := [] }) else (.ret, { vals := [AV.bool false], blks := [] })) := by
  induction l generalizing pre with
  | nil =>
    rw [r42_0]
    have h1 : ltB (pre.length : Int) (((pre ++ []).length : Nat) : Int) = false := by simp [ltB]
    rw [h1]
    rfl
  | cons b l ih =>
    rw [r42_0]
    have hl := mid_lt pre b l
    have h1 : ltB (pre.length : Int) (((pre ++ b :: l).length : Nat) : Int) = true := by simp [ltB]; omega
    rw [h1, ctl_true, getE_ints hl]
    have e1 : (pre ++ b :: l).getD (pre.length : Int).toNat 0 = b := by rw [Int.toNat_natCast, getD_mid]
    rw [e1]
    have e2 : okCs [Sh.int IntKind.i64] [PV.int .i64 b] = true := rfl
    rw [e2, ctl_true]
    have e3 : (nth PV.nilp [PV.int .i64 b] 0).toInt = b := rfl
    rw [e3, out_of, inside_cons]
    cases hb : (decide (-1000000000 ≤ b) && decide (b ≤ 1000000000)) with
    | false => rfl
    | true =>
      simp only [Bool.not_true, Bool.true_and]
      show lp E (denC E) 42 0 [] 0 { vals := [AV.sl 1 (intsK .i64 (pre ++ b :: l)), AV.int .i64 (pre ++ b :: l).length, AV.int .i64 (IntKind.i64.wrap ((pre.length : Int) + 1))], blks := [] } = _
      rw [w64 (n := (pre.length : Int) + 1) (by omega), len_snoc pre b, app_cons pre b l]
      exact ih (pre ++ [b]) (by simpa using h)

theorem c_ValidD (t k : Int) (ws : List Int) (h : ws.length ≤ 9223372036854775807) : denC E 42 [AV.agg [PV.int .i64 t, PV.int .i64 k, PV.sl 1 (intsK .i64 ws)]] [] = some ([RV.p (PV.bool (validP t k ws))], []) := by
  rw [denC_eq, r42, c_wordsD, intsK_len]
  have hlp := lp_ValidD [] ws h
  simp only [List.nil_append, List.length_nil, Int.ofNat_zero] at hlp
  rw [hlp]
  have e1 : ctl (!ltB t 0) (some (ltB 2147483648 t)) (some true) = some (!(decide (0 ≤ t) && decide (t ≤ 2147483648))) := by
    by_cases h0 : t < 0
    · have : ¬ 0 ≤ t := by omega
      simp [ltB, h0, ctl, this]
    · have h1 : 0 ≤ t := by omega
      by_cases h2 : 2147483648 < t
      · have : ¬ t ≤ 2147483648 := by omega
        simp [ltB, h0, h2, ctl, this]
      · have : t ≤ 2147483648 := by omega
        simp [ltB, h0, h2, ctl, this, h1]
  rw [e1]
  unfold validP
  have e2 : ((ws.length : Int) != wordsP k) = !decide ((ws.length : Int) = wordsP k) := by
    by_cases hq : (ws.length : Int) = wordsP k
    · rw [decide_eq_true hq]; simpa using hq
    · rw [decide_eq_false hq]; simpa using hq
  have e3 : ltB (wordsP k) 0 = true → decide ((ws.length : Int) = wordsP k) = false := fun hw => by
    have : wordsP k < 0 := by simpa [ltB] using hw
    exact decide_eq_false (by omega)
  cases (decide (0 ≤ t) && decide (t ≤ 2147483648)) with
  | false => rfl
  | true =>
    simp only [SB, Nat.reduceAdd, e2]
    cases hw : ltB (wordsP k) 0 with
    | true => rw [e3 hw]; rfl
    | false =>
      cases decide ((ws.length : Int) = wordsP k) with
      | false => rfl
      | true => cases inside ws <;> rfl

theorem c_Itoa (n : Int) (h : -9223372036854775808 ≤ n ∧ n ≤ 9223372036854775807) : denC E 32 [AV.int .i64 n] [] = some ([RV.p (PV.str (Lib.itoa n))], []) := by
  rw [denC_eq]
  have : funK E (denC E) 32 [AV.int .i64 n] [] = match pItoa [AV.int .i64 n] with | some rs => some (rs, []) | none => none := by kernel_rfl
  rw [this]
  unfold pItoa
  simp only [h, and_self, if_true]

theorem strsK_snoc (c : List (List UInt8)) (s : List UInt8) : strsK c ++ [[PV.str s]] = strsK (c ++ [s]) := by simp [strsK]

theorem lp_line (pre l : List Int) (c : List (List UInt8)) (hb : ∀ x ∈ l, -9223372036854775808 ≤ x ∧ x ≤ 9223372036854775807) (h : (pre ++ l).length ≤ 1000000) (hc : c.length + l.length ≤ 2000000) :
    lp E (denC E) 65 0 [] 0 { vals := [AV.sl 1 (intsK .i64 (pre ++ l)), AV.int .i64 (pre ++ l).length, AV.int .i64 pre.length], blks := [Blk.arr 1 (strsK c)] } =
      some (.exit 0, { vals := [], blks := [Blk.arr 1 (strsK (c ++ l.map Lib.itoa))] }) := by
  induction l generalizing pre c with
  | nil =>
    rw [r65_0]
    have h1 : ltB (pre.length : Int) (((pre ++ []).length : Nat) : Int) = false := by simp [ltB]
    rw [h1, ctl_false, List.map_nil, List.append_nil]
  | cons b l ih =>
    rw [r65_0]
    have hl := mid_lt pre b l
    have h1 : ltB (pre.length : Int) (((pre ++ b :: l).length : Nat) : Int) = true := by simp [ltB]; omega
    rw [h1, ctl_true, getE_ints hl]
    have e1 : (pre ++ b :: l).getD (pre.length : Int).toNat 0 = b := by rw [Int.toNat_natCast, getD_mid]
    rw [e1]
    have e2 : okCs [Sh.int IntKind.i64] [PV.int .i64 b] = true := rfl
    rw [e2, ctl_true]
    have e3 : (nth PV.nilp [PV.int .i64 b] 0).toInt = b := rfl
    rw [e3, c_Itoa b (hb b (.head _))]
    have e4 : leN (((strsK c).length + 1) * 16) 140737488355328 = true := by
      rw [strsK_length]
      simp only [List.length_cons] at hc
      simp [leN]; omega
    show ctl (leN (((strsK c).length + 1) * 16) 140737488355328) (lp E (denC E) 65 0 [] 0 { vals := [AV.sl 1 (intsK .i64 (pre ++ b :: l)), AV.int .i64 (pre ++ b :: l).length, AV.int .i64 (IntKind.i64.wrap ((pre.length : Int) + 1))], blks := [Blk.arr 1 (strsK c ++ [[PV.str (Lib.itoa b)]])] }) none = _
    rw [e4, ctl_true, w64 (n := (pre.length : Int) + 1) (by omega), len_snoc pre b, app_cons pre b l, strsK_snoc]
    rw [ih (pre ++ [b]) (c ++ [Lib.itoa b]) (fun x hx => hb x (.tail _ hx)) (by simpa using h) (by simp at hc ⊢; omega)]
    simp

theorem c_JoinB (l : List (List UInt8)) (sep : List UInt8) (h : l.length ≤ 140737488355328 ∧ (Lib.join l sep).length ≤ 140737488355328) : denC E 84 [AV.sl 1 (strsK l), AV.str sep] [] = some ([RV.p (PV.str (Lib.join l sep))], []) := by
  rw [denC_eq]
  have hs : ∀ l : List (List UInt8), strsOf (strsK l) = some l := fun l => by
    induction l with
    | nil => rfl
    | cons x r ih =>
      unfold strsK at ih ⊢
      simp only [List.map_cons, strsOf, ih]
  have : funK E (denC E) 84 [AV.sl 1 (strsK l), AV.str sep] [] = match pJoin [AV.sl 1 (strsK l), AV.str sep] with | some rs => some (rs, []) | none => none := by kernel_rfl
  rw [this]
  unfold pJoin
  simp only [hs, h, and_self, if_true]

def lineP (t k : Int) (ws : List Int) : List UInt8 := Lib.join (Lib.itoa t :: Lib.itoa k :: ws.map Lib.itoa) [32] ++ [10]

def wordOk (x : Int) : Prop := -9223372036854775808 ≤ x ∧ x ≤ 9223372036854775807

theorem c_lineE (t k : Int) (ws : List Int) (ht : wordOk t) (hk : wordOk k) (hw : ∀ x ∈ ws, wordOk x) (hl : ws.length ≤ 1000000) (hj : (Lib.join (Lib.itoa t :: Lib.itoa k :: ws.map Lib.itoa) [32]).length ≤ 140737488355327) :
    denC E 65 [AV.agg [PV.int .i64 t, PV.int .i64 k, PV.sl 1 (intsK .i64 ws)]] [] = some ([RV.p (PV.str (lineP t k ws))], []) := by
  rw [denC_eq, r65, c_Itoa t ht, c_Itoa k hk, intsK_len]
  have hlp := lp_line [] ws [Lib.itoa t, Lib.itoa k] hw hl (by simp; omega)
  simp only [List.nil_append, List.length_nil, Int.ofNat_zero] at hlp
  have e1 : strsK [Lib.itoa t, Lib.itoa k] = [[PV.str (Lib.itoa t)], [PV.str (Lib.itoa k)]] := rfl
  rw [e1] at hlp
  simp only [SB, Nat.reduceAdd]
  rw [hlp]
  simp only [SB, Nat.reduceAdd]
  have hjj := c_JoinB ([Lib.itoa t, Lib.itoa k] ++ ws.map Lib.itoa) [32] ⟨by simp; omega, by simpa using Nat.le_succ_of_le hj⟩
  rw [hjj]
  simp only [SB, Nat.reduceAdd]
  have e2 : leN ((Lib.join ([Lib.itoa t, Lib.itoa k] ++ ws.map Lib.itoa) [32]).length + 1) 9223372036854775807 = true := by
    simp only [List.cons_append, List.nil_append]
    simp [leN]; omega
  rw [e2]
  rfl

theorem lp_lineD (pre l : List Int) (s : List UInt8) (hb : ∀ x ∈ l, wordOk x) (h : (pre ++ l).length ≤ 1000000) (hs : (s ++ Lib.joinTail [32] (l.map Lib.itoa)).length ≤ 9223372036854775807) :
    lp E (denC E) 44 0 [] 0 { vals := [AV.str s, AV.sl 1 (intsK .i64 (pre ++ l)), AV.int .i64 (pre ++ l).length, AV.int .i64 pre.length], blks := [] } =
      some (.exit 0, { vals := [AV.str (s ++ Lib.joinTail [32] (l.map Lib.itoa))], blks := [] }) := by
  induction l generalizing pre s with
  | nil =>
    rw [r44_0]
    have h1 : ltB (pre.length : Int) (((pre ++ []).length : Nat) : Int) = false := by simp [ltB]
    rw [h1, ctl_false]
    simp [Lib.joinTail]
  | cons b l ih =>
    rw [r44_0]
    have hl := mid_lt pre b l
    have h1 : ltB (pre.length : Int) (((pre ++ b :: l).length : Nat) : Int) = true := by simp [ltB]; omega
    rw [h1, ctl_true, getE_ints hl]
    have e1 : (pre ++ b :: l).getD (pre.length : Int).toNat 0 = b := by rw [Int.toNat_natCast, getD_mid]
    rw [e1]
    have e2 : okCs [Sh.int IntKind.i64] [PV.int .i64 b] = true := rfl
    rw [e2, ctl_true]
    have e3 : (nth PV.nilp [PV.int .i64 b] 0).toInt = b := rfl
    rw [e3, c_Itoa b (hb b (.head _))]
    have e6 : s ++ Lib.joinTail [32] ((b :: l).map Lib.itoa) = (s ++ ([32] ++ Lib.itoa b)) ++ Lib.joinTail [32] (l.map Lib.itoa) := by
      simp [Lib.joinTail]
    rw [e6] at hs ⊢
    have e4 : leN (1 + (Lib.itoa b).length) 9223372036854775807 = true := by simp at hs; simp [leN]; omega
    have e5 : leN (s.length + ([32] ++ Lib.itoa b).length) 9223372036854775807 = true := by simp at hs; simp [leN]; omega
    show ctl (leN (1 + (Lib.itoa b).length) 9223372036854775807) (ctl (leN (s.length + ([32] ++ Lib.itoa b).length) 9223372036854775807) (lp E (denC E) 44 0 [] 0 { vals := [AV.str (s ++ ([32] ++ Lib.itoa b)), AV.sl 1 (intsK .i64 (pre ++ b :: l)), AV.int .i64 (pre ++ b :: l).length, AV.int .i64 (IntKind.i64.wrap ((pre.length : Int) + 1))], blks := [] }) none) none = _
    rw [e4, e5, ctl_true, ctl_true, w64 (n := (pre.length : Int) + 1) (by omega), len_snoc pre b, app_cons pre b l]
    exact ih (pre ++ [b]) (s ++ ([32] ++ Lib.itoa b)) (fun x hx => hb x (.tail _ hx)) (by simpa using h) hs

theorem c_lineD (t k : Int) (ws : List Int) (ht : wordOk t) (hk : wordOk k) (hw : ∀ x ∈ ws, wordOk x) (hl : ws.length ≤ 1000000) (hj : (Lib.join (Lib.itoa t :: Lib.itoa k :: ws.map Lib.itoa) [32]).length ≤ 140737488355327) :
    denC E 44 [AV.agg [PV.int .i64 t, PV.int .i64 k, PV.sl 1 (intsK .i64 ws)]] [] = some ([RV.p (PV.str (lineP t k ws))], []) := by
  have ej : Lib.join (Lib.itoa t :: Lib.itoa k :: ws.map Lib.itoa) [32] = (Lib.itoa t ++ [32] ++ Lib.itoa k) ++ Lib.joinTail [32] (ws.map Lib.itoa) := by
    rw [Lib.join_cons]
    simp [Lib.joinTail]
  unfold lineP
  rw [ej] at hj ⊢
  rw [denC_eq, r44, c_Itoa t ht, c_Itoa k hk, intsK_len]
  have hlp := lp_lineD [] ws (Lib.itoa t ++ [32] ++ Lib.itoa k) hw hl (by omega)
  simp only [List.nil_append, List.length_nil, Int.ofNat_zero] at hlp
  simp only [SB, Nat.reduceAdd]
  rw [hlp]
  simp only [SB, Nat.reduceAdd]
  have e1 : leN ((Lib.itoa t).length + 1) 9223372036854775807 = true := by simp at hj; simp [leN]; omega
  have e2 : leN ((Lib.itoa t ++ [32]).length + (Lib.itoa k).length) 9223372036854775807 = true := by simp at hj; simp [leN]; omega
  have e3 : leN ((Lib.itoa t ++ [32] ++ Lib.itoa k ++ Lib.joinTail [32] (ws.map Lib.itoa)).length + 1) 9223372036854775807 = true := by simp at hj; simp [leN]; omega
  rw [e1, e2, e3]
  rfl

structure En where
  t : Int
  k : Int
  ws : List Int
  deriving Inhabited

def enK (e : En) : List PV := [PV.int .i64 e.t, PV.int .i64 e.k, PV.sl 1 (intsK .i64 e.ws)]

def ensK (l : List En) : List (List PV) := l.map enK

theorem ensK_len (l : List En) : (ensK l).length = l.length := by simp [ensK]

theorem getE_ens {α : Type} {l : List En} {i : Int} (hi : 0 ≤ i ∧ i < l.length) (K : List PV → Option α) : getE (ensK l) i K = K (enK (l.getD i.toNat default)) := by
  unfold getE
  rw [ensK_len]
  have h1 : leB 0 i = true := by simpa using hi.1
  have h2 : ltB i l.length = true := by simpa using hi.2
  rw [h1, h2]
  have hlt : i.toNat < l.length := by omega
  simp only [Bool.and_self, ctl_true]
  rw [nth_eq]
  simp [ensK, List.getD, hlt]

theorem c_state (k : Int) : denC E 46 [AV.int .i64 k] [] = some ([RV.p (PV.bool (wordsP k == 1))], []) := by
  rw [denC_eq, r46, c_words]
  rfl

theorem c_timed (k : Int) : denC E 48 [AV.int .i64 k] [] = some ([RV.p (PV.bool (wordsP k == 1))], []) := by
  rw [denC_eq, r48]
  by_cases h : k = 1 ∨ k = 2 ∨ k = 3
  · rcases h with rfl | rfl | rfl <;> rfl
  · have e : ∀ n : Int, 1 ≤ n → n ≤ 3 → (k == n) = false := fun n h1 h2 => by
      rw [beq_eq_false_iff_ne]; omega
    rw [e 1 (by omega) (by omega), e 2 (by omega) (by omega), e 3 (by omega) (by omega)]
    have : (wordsP k == 1) = false := by
      rw [beq_eq_false_iff_ne]
      unfold wordsP
      rw [if_neg (by omega)]
      split
      · omega
      · split
        · omega
        · split <;> omega
    rw [this]
    rfl

def begin36 : Int := 14695981039346656037

theorem c_Begin : denC E 62 [] [] = some ([RV.p (PV.int .u64 begin36)], []) := by
  rw [denC_eq, r62]
  rfl

theorem dec_small36 {u : Nat} (h : u < 10) : (Lib.decDigits u).length = 1 := by rw [Lib.decDigits_length, Lib.nDigits_small h]

theorem dec_len36 (k : Nat) : ∀ u : Nat, u < 10 ^ (k + 1) → (Lib.decDigits u).length ≤ k + 1 := by
  induction k with
  | zero => intro u h; rw [dec_small36 (by simpa using h)]; omega
  | succ k ih =>
    intro u h
    by_cases hu : u < 10
    · rw [dec_small36 hu]; omega
    · have := ih (u / 10) (by rw [Nat.pow_succ] at h; omega)
      rw [Lib.decDigits_length] at this ⊢
      rw [Lib.nDigits_big hu]; omega

theorem itoa_len36 {n : Int} (h : wordOk n) : (Lib.itoa n).length ≤ 20 := by
  unfold wordOk at h
  have h2 := dec_len36 18 n.natAbs (by omega)
  have h3 := dec_len36 18 n.toNat (by omega)
  unfold Lib.itoa
  split
  · simp; omega
  · omega

theorem tail_len (l : List Int) (h : ∀ x ∈ l, wordOk x) : (Lib.joinTail [32] (l.map Lib.itoa)).length ≤ 21 * l.length := by
  induction l with
  | nil => simp [Lib.joinTail]
  | cons x l ih =>
    have h1 := itoa_len36 (h x (.head _))
    have h2 := ih fun y hy => h y (.tail _ hy)
    simp only [Lib.joinTail, List.map_cons, List.flatten_cons, List.length_append, List.length_cons, List.length_nil] at h2 ⊢
    omega

theorem wordsP_le (k : Int) : wordsP k ≤ 4 := by
  unfold wordsP
  split
  · omega
  · split
    · omega
    · split
      · omega
      · split <;> omega

theorem wordsP_kind {k : Int} (h : 0 ≤ wordsP k) : 1 ≤ k ∧ k ≤ 8 := by
  unfold wordsP at h
  split at h
  · omega
  · split at h
    · omega
    · split at h
      · omega
      · split at h <;> omega

theorem validP_all {t k : Int} {ws : List Int} (h : validP t k ws = true) : 0 ≤ t ∧ wordOk t ∧ wordOk k ∧ (∀ x ∈ ws, wordOk x) ∧ ws.length ≤ 4 ∧ (Lib.join (Lib.itoa t :: Lib.itoa k :: ws.map Lib.itoa) [32]).length ≤ 200 ∧ (ws.length : Int) = wordsP k := by
  unfold validP at h
  simp only [Bool.and_eq_true, decide_eq_true_eq] at h
  obtain ⟨⟨⟨h1, h2⟩, h3⟩, h4⟩ := h
  have hk := wordsP_kind (k := k) (by omega)
  have h5 := wordsP_le k
  have hw : ∀ x ∈ ws, wordOk x := fun x hx => by
    have := List.all_eq_true.1 h4 x hx
    simp only [Bool.and_eq_true, decide_eq_true_eq] at this
    unfold wordOk
    omega
  have ht : wordOk t := by unfold wordOk; omega
  have hk' : wordOk k := by unfold wordOk; omega
  refine ⟨h1, ht, hk', hw, by omega, ?_, h3⟩
  have e : Lib.itoa t :: Lib.itoa k :: ws.map Lib.itoa = Lib.itoa t :: (k :: ws).map Lib.itoa := rfl
  rw [e, Lib.join_cons, List.length_append]
  have a1 := itoa_len36 ht
  have a2 := tail_len (k :: ws) (fun x hx => by
    rcases List.mem_cons.1 hx with rfl | hx
    · exact hk'
    · exact hw x hx)
  simp only [List.length_cons] at a2
  omega

def runB : Int → Int → List En → Option Int
  | s, _, [] => some s
  | s, p, e :: l => if validP e.t e.k e.ws = true ∧ p ≤ e.t then runB (sumB s (lineP e.t e.k e.ws)) e.t l else none

def checkP (l : List En) (s : Int) : Int := if 200 < l.length then 72 else if runB begin36 0 l = some s then 0 else 72

theorem lp_CheckE (b : List En) (bs : Int) (hlen : b.length ≤ 200) (hws : ∀ e ∈ b, e.ws.length ≤ 1000000) : ∀ (l pre : List En) (p s : Int), pre ++ l = b → ((pre = [] ∧ p = 0) ∨ ∃ q a, pre = q ++ [a] ∧ a.t = p) →
    lp E (denC E) 45 0 [] 0 { vals := [AV.int .u64 s, AV.sl 3 (ensK b), AV.int .i64 b.length, AV.int .i64 pre.length], blks := [Blk.box [AV.sl 3 (ensK b), AV.int .u64 bs]] } =
      some (match runB s p l with
        | some x => (.exit 0, { vals := [AV.int .u64 x], blks := [Blk.box [AV.sl 3 (ensK b), AV.int .u64 bs]] })
        | none => (.ret, { vals := [AV.int .i64 72], blks := [] })) := by
  intro l
  induction l with
  | nil =>
    intro pre p s hb hp
    rw [r45_0]
    have h1 : ltB (pre.length : Int) (b.length : Int) = false := by rw [← hb]; simp [ltB]
    rw [h1, ctl_false]
    rfl
  | cons e l ih =>
    intro pre p s hb hp
    rw [r45_0]
    have hl : 0 ≤ (pre.length : Int) ∧ (pre.length : Int) < (b.length : Int) := by rw [← hb]; exact mid_lt pre e l
    have h1 : ltB (pre.length : Int) (b.length : Int) = true := by simp [ltB]; omega
    rw [h1, ctl_true, getE_ens hl]
    have e1 : b.getD (pre.length : Int).toNat default = e := by rw [Int.toNat_natCast, ← hb, getD_mid]
    rw [e1]
    have e2 : okCs [Sh.int IntKind.i64, Sh.int IntKind.i64, Sh.sl 1] (enK e) = true := rfl
    rw [e2, ctl_true]
    have hw := hws e (by rw [← hb]; simp)
    have c1 : (nth PV.nilp (enK e) 0).toInt = e.t := rfl
    have c2 : (nth PV.nilp (enK e) 1).toInt = e.k := rfl
    have c3 : (nth PV.nilp (enK e) 2).toEs = intsK .i64 e.ws := rfl
    rw [c1, c2, c3, c_ValidE e.t e.k e.ws (by omega)]
    cases hv : validP e.t e.k e.ws with
    | false =>
      have hr : runB s p (e :: l) = none := by simp only [runB, hv]; rfl
      rw [hr]
      rfl
    | true =>
      obtain ⟨v1, v2, v3, v4, v5, v6, v7⟩ := validP_all hv
      have hq : ctl (ltB 0 (pre.length : Int)) (getE (ensK b) (IntKind.i64.wrap ((pre.length : Int) - 1)) fun c_1 => ctl (okCs [Sh.int IntKind.i64, Sh.int IntKind.i64, Sh.sl 1] c_1) (some (ltB e.t (nth PV.nilp c_1 0).toInt)) none) (some false) = some (!decide (p ≤ e.t)) := by
        rcases hp with ⟨rfl, rfl⟩ | ⟨q, a, rfl, rfl⟩
        · have : decide ((0 : Int) ≤ e.t) = true := decide_eq_true v1
          rw [this]; rfl
        · have g1 : ltB 0 (((q ++ [a]).length : Nat) : Int) = true := by simp [ltB] <;> omega
          have g2 : IntKind.i64.wrap ((((q ++ [a]).length : Nat) : Int) - 1) = (q.length : Int) := by
            rw [w64 (by simp at hl ⊢; omega)]; simp
          rw [g1, ctl_true, g2, getE_ens (by simp at hl; omega)]
          have g3 : b.getD (q.length : Int).toNat default = a := by rw [Int.toNat_natCast, ← hb, List.append_assoc]; exact getD_mid q a (e :: l) default
          rw [g3]
          have g4 : okCs [Sh.int IntKind.i64, Sh.int IntKind.i64, Sh.sl 1] (enK a) = true := rfl
          rw [g4, ctl_true]
          have g5 : (nth PV.nilp (enK a) 0).toInt = a.t := rfl
          rw [g5]
          by_cases hlt : e.t < a.t
          · have : ¬ a.t ≤ e.t := by omega
            simp [ltB, hlt, this]
          · have : a.t ≤ e.t := by omega
            simp [ltB, hlt, this]
      simp only [SB, Nat.reduceAdd]
      rw [hq]
      by_cases hpe : p ≤ e.t
      · have hr : runB s p (e :: l) = runB (sumB s (lineP e.t e.k e.ws)) e.t l := by simp only [runB, hv, hpe, and_self, if_true]
        rw [hr, decide_eq_true hpe]
        simp only [Bool.not_true, SB, Nat.reduceAdd]
        rw [c_lineE e.t e.k e.ws v2 v3 v4 (by omega) (by omega)]
        simp only [SB, Nat.reduceAdd]
        have hll : (lineP e.t e.k e.ws).length ≤ 9223372036854775807 := by unfold lineP; simp only [List.length_append, List.length_cons, List.length_nil]; omega
        rw [c_SumL s (lineP e.t e.k e.ws) hll]
        simp only [SB, Nat.reduceAdd]
        rw [w64 (n := (pre.length : Int) + 1) (by omega), len_snoc pre e]
        exact ih (pre ++ [e]) e.t _ (by rw [← hb]; simp) (.inr ⟨pre, e, rfl, rfl⟩)
      · have hr : runB s p (e :: l) = none := by simp only [runB, hpe, and_false, if_false]
        rw [hr, decide_eq_false hpe]
        rfl

theorem lp_CheckD (b : List En) (bs : Int) (hlen : b.length ≤ 200) (hws : ∀ e ∈ b, e.ws.length ≤ 1000000) : ∀ (l pre : List En) (p s : Int), pre ++ l = b → ((pre = [] ∧ p = 0) ∨ ∃ q a, pre = q ++ [a] ∧ a.t = p) →
    lp E (denC E) 41 0 [] 0 { vals := [AV.int .u64 s, AV.sl 3 (ensK b), AV.int .i64 b.length, AV.int .i64 pre.length], blks := [Blk.box [AV.sl 3 (ensK b), AV.int .u64 bs]] } =
      some (match runB s p l with
        | some x => (.exit 0, { vals := [AV.int .u64 x], blks := [Blk.box [AV.sl 3 (ensK b), AV.int .u64 bs]] })
        | none => (.ret, { vals := [AV.int .i64 72], blks := [] })) := by
  intro l
  induction l with
  | nil =>
    intro pre p s hb hp
    rw [r41_0]
    have h1 : ltB (pre.length : Int) (b.length : Int) = false := by rw [← hb]; simp [ltB]
    rw [h1, ctl_false]
    rfl
  | cons e l ih =>
    intro pre p s hb hp
    rw [r41_0]
    have hl : 0 ≤ (pre.length : Int) ∧ (pre.length : Int) < (b.length : Int) := by rw [← hb]; exact mid_lt pre e l
    have h1 : ltB (pre.length : Int) (b.length : Int) = true := by simp [ltB]; omega
    rw [h1, ctl_true, getE_ens hl]
    have e1 : b.getD (pre.length : Int).toNat default = e := by rw [Int.toNat_natCast, ← hb, getD_mid]
    rw [e1]
    have e2 : okCs [Sh.int IntKind.i64, Sh.int IntKind.i64, Sh.sl 1] (enK e) = true := rfl
    rw [e2, ctl_true]
    have hw := hws e (by rw [← hb]; simp)
    have c1 : (nth PV.nilp (enK e) 0).toInt = e.t := rfl
    have c2 : (nth PV.nilp (enK e) 1).toInt = e.k := rfl
    have c3 : (nth PV.nilp (enK e) 2).toEs = intsK .i64 e.ws := rfl
    rw [c1, c2, c3, c_ValidD e.t e.k e.ws (by omega)]
    cases hv : validP e.t e.k e.ws with
    | false =>
      have hr : runB s p (e :: l) = none := by simp only [runB, hv]; rfl
      rw [hr]
      rfl
    | true =>
      obtain ⟨v1, v2, v3, v4, v5, v6, v7⟩ := validP_all hv
      have hq : ctl (ltB 0 (pre.length : Int)) (getE (ensK b) (IntKind.i64.wrap ((pre.length : Int) - 1)) fun c_1 => ctl (okCs [Sh.int IntKind.i64, Sh.int IntKind.i64, Sh.sl 1] c_1) (some (ltB e.t (nth PV.nilp c_1 0).toInt)) none) (some false) = some (!decide (p ≤ e.t)) := by
        rcases hp with ⟨rfl, rfl⟩ | ⟨q, a, rfl, rfl⟩
        · have : decide ((0 : Int) ≤ e.t) = true := decide_eq_true v1
          rw [this]; rfl
        · have g1 : ltB 0 (((q ++ [a]).length : Nat) : Int) = true := by simp [ltB] <;> omega
          have g2 : IntKind.i64.wrap ((((q ++ [a]).length : Nat) : Int) - 1) = (q.length : Int) := by
            rw [w64 (by simp at hl ⊢; omega)]; simp
          rw [g1, ctl_true, g2, getE_ens (by simp at hl; omega)]
          have g3 : b.getD (q.length : Int).toNat default = a := by rw [Int.toNat_natCast, ← hb, List.append_assoc]; exact getD_mid q a (e :: l) default
          rw [g3]
          have g4 : okCs [Sh.int IntKind.i64, Sh.int IntKind.i64, Sh.sl 1] (enK a) = true := rfl
          rw [g4, ctl_true]
          have g5 : (nth PV.nilp (enK a) 0).toInt = a.t := rfl
          rw [g5]
          by_cases hlt : e.t < a.t
          · have : ¬ a.t ≤ e.t := by omega
            simp [ltB, hlt, this]
          · have : a.t ≤ e.t := by omega
            simp [ltB, hlt, this]
      simp only [SB, Nat.reduceAdd]
      rw [hq]
      by_cases hpe : p ≤ e.t
      · have hr : runB s p (e :: l) = runB (sumB s (lineP e.t e.k e.ws)) e.t l := by simp only [runB, hv, hpe, and_self, if_true]
        rw [hr, decide_eq_true hpe]
        simp only [Bool.not_true, SB, Nat.reduceAdd]
        rw [c_lineD e.t e.k e.ws v2 v3 v4 (by omega) (by omega)]
        simp only [SB, Nat.reduceAdd]
        have hll : (lineP e.t e.k e.ws).length ≤ 9223372036854775807 := by unfold lineP; simp only [List.length_append, List.length_cons, List.length_nil]; omega
        rw [c_SumD s (lineP e.t e.k e.ws) hll]
        simp only [SB, Nat.reduceAdd]
        rw [w64 (n := (pre.length : Int) + 1) (by omega), len_snoc pre e]
        exact ih (pre ++ [e]) e.t _ (by rw [← hb]; simp) (.inr ⟨pre, e, rfl, rfl⟩)
      · have hr : runB s p (e :: l) = none := by simp only [runB, hpe, and_false, if_false]
        rw [hr, decide_eq_false hpe]
        rfl

theorem c_CheckE (b : List En) (bs : Int) (hws : ∀ e ∈ b, e.ws.length ≤ 1000000) : denC E 45 [AV.agg [PV.sl 3 (ensK b), PV.int .u64 bs]] [] = some ([RV.p (PV.int .i64 (checkP b bs))], []) := by
  rw [denC_eq, r45, ensK_len]
  unfold checkP
  by_cases hl : 200 < b.length
  · have h1 : ltB 200 (b.length : Int) = true := by simp [ltB]; omega
    rw [h1, ctl_true, if_pos hl]
  · have h1 : ltB 200 (b.length : Int) = false := by simp [ltB]; omega
    rw [h1, ctl_false, if_neg hl]
    have hlp := lp_CheckE b bs (by omega) hws b [] 0 begin36 rfl (.inl ⟨rfl, rfl⟩)
    simp only [List.length_nil, Int.ofNat_zero] at hlp
    rw [c_Begin]
    simp only [SB, Nat.reduceAdd]
    rw [hlp]
    cases hr : runB begin36 0 b with
    | none => rfl
    | some x =>
      simp only [SB, Nat.reduceAdd]
      by_cases hx : x = bs
      · subst hx
        rw [if_pos rfl]
        have : (x != x) = false := by simp
        rw [this]
        rfl
      · have h2 : (x != bs) = true := by simpa using hx
        rw [if_neg (by simpa using hx), h2]
        rfl

theorem c_CheckD (b : List En) (bs : Int) (hws : ∀ e ∈ b, e.ws.length ≤ 1000000) : denC E 41 [AV.agg [PV.sl 3 (ensK b), PV.int .u64 bs]] [] = some ([RV.p (PV.int .i64 (checkP b bs))], []) := by
  rw [denC_eq, r41, ensK_len]
  unfold checkP
  by_cases hl : 200 < b.length
  · have h1 : ltB 200 (b.length : Int) = true := by simp [ltB]; omega
    rw [h1, ctl_true, if_pos hl]
  · have h1 : ltB 200 (b.length : Int) = false := by simp [ltB]; omega
    rw [h1, ctl_false, if_neg hl]
    have hlp := lp_CheckD b bs (by omega) hws b [] 0 begin36 rfl (.inl ⟨rfl, rfl⟩)
    simp only [List.length_nil, Int.ofNat_zero] at hlp
    rw [show (14695981039346656037 : Int) = begin36 from rfl]
    rw [hlp]
    cases hr : runB begin36 0 b with
    | none => rfl
    | some x =>
      simp only [SB, Nat.reduceAdd]
      by_cases hx : x = bs
      · subst hx
        rw [if_pos rfl]
        have : (x != x) = false := by simp
        rw [this]
        rfl
      · have h2 : (x != bs) = true := by simpa using hx
        rw [if_neg (by simpa using hx), h2]
        rfl

def lateP (b : List En) (t : Int) : Bool := match b.getLast? with | some a => decide (a.t ≤ t) | none => true

def appE (b : List En) (bs : Int) (e : En) : Int := if checkP b bs ≠ 0 ∨ validP e.t e.k e.ws = false then 72 else if lateP b e.t = false then 16 else if b.length = 200 then 2 else 0

def appR (b : List En) (bs : Int) (e : En) : List RV :=
  if appE b bs e = 0 then [RV.agg [PV.sl 3 (ensK (b ++ [e])), PV.int .u64 (sumB bs (lineP e.t e.k e.ws))], RV.p (PV.int .i64 0)]
  else [RV.agg [PV.nils, PV.int .u64 0], RV.p (PV.int .i64 (appE b bs e))]

theorem checkP_len {b : List En} {bs : Int} (h : checkP b bs = 0) : b.length ≤ 200 := by
  unfold checkP at h
  split at h
  · omega
  · omega

theorem c_AppendD (b : List En) (bs : Int) (e : En) (hws : ∀ e ∈ b, e.ws.length ≤ 1000000) (he : e.ws.length ≤ 1000000) : denC E 20 [AV.agg [PV.sl 3 (ensK b), PV.int .u64 bs], AV.agg (enK e)] [] = some (appR b bs e, []) := by
  have hv := c_ValidD e.t e.k e.ws (by omega)
  unfold enK
  rw [denC_eq, r20, c_CheckD b bs hws, hv, ensK_len]
  simp only [SB, Nat.reduceAdd]
  by_cases hc : checkP b bs = 0
  · have h1 : (checkP b bs != 0) = false := by simp [hc]
    rw [h1]
    have hl := checkP_len hc
    cases hve : validP e.t e.k e.ws with
    | false =>
      have : appE b bs e = 72 := by unfold appE; rw [if_pos (.inr hve)]
      unfold appR
      rw [this]
      rfl
    | true =>
      obtain ⟨v1, v2, v3, v4, v5, v6, v7⟩ := validP_all hve
      have hq : ctl (ltB 0 (b.length : Int)) (getE (ensK b) (IntKind.i64.wrap ((b.length : Int) - 1)) fun c => ctl (okCs [Sh.int IntKind.i64, Sh.int IntKind.i64, Sh.sl 1] c) (some (ltB e.t (nth PV.nilp c 0).toInt)) none) (some false) = some (!lateP b e.t) := by
        rcases List.eq_nil_or_concat b with rfl | ⟨q, a, rfl⟩
        · rfl
        · have g1 : ltB 0 (((q.concat a).length : Nat) : Int) = true := by simp [ltB] <;> omega
          have g2 : IntKind.i64.wrap ((((q.concat a).length : Nat) : Int) - 1) = (q.length : Int) := by
            rw [w64 (by simp at hl ⊢; omega)]; simp
          rw [g1, ctl_true, g2, getE_ens (by simp; omega)]
          have g3 : (q.concat a).getD (q.length : Int).toNat default = a := by rw [Int.toNat_natCast, List.concat_eq_append]; exact getD_mid q a [] default
          rw [g3]
          have g4 : lateP (q.concat a) e.t = decide (a.t ≤ e.t) := by simp [lateP, List.concat_eq_append]
          have g5 : okCs [Sh.int IntKind.i64, Sh.int IntKind.i64, Sh.sl 1] (enK a) = true := rfl
          have g6 : (nth PV.nilp (enK a) 0).toInt = a.t := rfl
          rw [g4, g5, ctl_true, g6]
          by_cases hlt : e.t < a.t
          · have : ¬ a.t ≤ e.t := by omega
            simp [ltB, hlt, this]
          · have : a.t ≤ e.t := by omega
            simp [ltB, hlt, this]
      simp only [Bool.not_false, Bool.not_true, SB, Nat.reduceAdd]
      rw [hq]
      cases hla : lateP b e.t with
      | false =>
        have : appE b bs e = 16 := by unfold appE; rw [if_neg (by simp [hc, hve]), if_pos hla]
        unfold appR
        rw [this]
        rfl
      | true =>
        simp only [Bool.not_true, SB, Nat.reduceAdd]
        by_cases h200 : b.length = 200
        · have : appE b bs e = 2 := by unfold appE; rw [if_neg (by simp [hc, hve]), if_neg (by simp [hla]), if_pos h200]
          unfold appR
          rw [this]
          have h2 : (((b.length : Nat) : Int) == 200) = true := by rw [h200]; rfl
          rw [h2]
          rfl
        · have : appE b bs e = 0 := by unfold appE; rw [if_neg (by simp [hc, hve]), if_neg (by simp [hla]), if_neg h200]
          unfold appR
          rw [this, if_pos rfl]
          have h2 : (((b.length : Nat) : Int) == 200) = false := by rw [beq_eq_false_iff_ne]; omega
          have h3 : leN (b.length * 40) 140737488355328 = true := by simp [leN]; omega
          have h4 : leN ((b.length + 1) * 40) 140737488355328 = true := by simp [leN]; omega
          have hll : (lineP e.t e.k e.ws).length ≤ 9223372036854775807 := by unfold lineP; simp only [List.length_append, List.length_cons, List.length_nil]; omega
          rw [h2, h3, h4, c_lineD e.t e.k e.ws v2 v3 v4 (by omega) (by omega)]
          simp only [SB, Nat.reduceAdd]
          rw [c_SumD bs _ hll]
          simp only [ensK, List.map_append, List.map_cons, List.map_nil]
          rfl
  · have h1 : (checkP b bs != 0) = true := by simpa using hc
    rw [h1]
    have : appE b bs e = 72 := by unfold appE; rw [if_pos (.inl hc)]
    unfold appR
    rw [this]
    rfl

def trip (e : En) : Int × Int × Int := (e.t, e.k, e.ws.headD 0)

theorem entsE_ens : ∀ {b : List En}, (∀ e ∈ b, e.ws ≠ []) → entsE (ensK b) = some (b.map trip)
  | [], _ => rfl
  | e :: b, h => by
    have h1 := entsE_ens (b := b) fun x hx => h x (.tail _ hx)
    have h2 : entE (enK e) = some (trip e) := by
      have := h e (.head _)
      unfold enK trip
      cases hw : e.ws with
      | nil => exact absurd hw this
      | cons x l => rfl
    have e1 : ensK (e :: b) = enK e :: ensK b := rfl
    rw [e1]
    simp only [entsE, h2, h1, List.map_cons]

theorem c_atE (b : List En) (bs kind time : Int) (hw : ∀ e ∈ b, e.ws ≠ []) (hl : b.length ≤ 100000) : denC E 47 [AV.agg [PV.sl 3 (ensK b), PV.int .u64 bs], AV.int .i64 kind, AV.int .i64 time] [] =
    some ([RV.p (PV.int .i64 (atL kind time (b.map trip)).1), RV.p (PV.bool (atL kind time (b.map trip)).2)], []) := by
  rw [denC_eq]
  have : funK E (denC E) 47 [AV.agg [PV.sl 3 (ensK b), PV.int .u64 bs], AV.int .i64 kind, AV.int .i64 time] [] = match pAt [AV.agg [PV.sl 3 (ensK b), PV.int .u64 bs], AV.int .i64 kind, AV.int .i64 time] with | some rs => some (rs, []) | none => none := by kernel_rfl
  rw [this]
  unfold pAt
  simp only [entsE_ens hw, List.length_map, hl, if_true]

def atStep (kind time : Int) (acc : Int × Bool) (e : En) : Int × Bool := if e.k = kind ∧ e.t ≤ time then (e.ws.headD 0, true) else acc

theorem atStep_fold (kind time : Int) : ∀ (l : List En) (acc : Int × Bool), l.foldl (atStep kind time) acc = cond (atL kind time (l.map trip)).2 (atL kind time (l.map trip)) acc
  | [], acc => rfl
  | e :: l, acc => by
    rw [List.foldl_cons, atStep_fold kind time l]
    simp only [List.map_cons, atL]
    cases h : (atL kind time (l.map trip)).2 with
    | true => simp [h]
    | false =>
      simp only [cond_false, atStep]
      by_cases hq : e.k = kind ∧ e.t ≤ time
      · rw [if_pos hq]
        have : (decide ((trip e).2.1 = kind) && decide ((trip e).1 ≤ time)) = true := by simpa [trip] using hq
        rw [this]; rfl
      · rw [if_neg hq]
        have : (decide ((trip e).2.1 = kind) && decide ((trip e).1 ≤ time)) = false := by simpa [trip] using hq
        rw [this]; rfl

theorem lp_atD (b : List En) (kind time : Int) (hw : ∀ e ∈ b, e.ws ≠ []) (hb : b.length ≤ 100000) : ∀ (l pre : List En) (v : Int) (ok : Bool), pre ++ l = b →
    lp E (denC E) 50 0 [] 0 { vals := [AV.int .i64 kind, AV.int .i64 time, AV.int .i64 v, AV.bool ok, AV.sl 3 (ensK b), AV.int .i64 b.length, AV.int .i64 pre.length], blks := [] } =
      some (.exit 0, { vals := [AV.int .i64 (l.foldl (atStep kind time) (v, ok)).1, AV.bool (l.foldl (atStep kind time) (v, ok)).2], blks := [] }) := by
  intro l
  induction l with
  | nil =>
    intro pre v ok hbb
    rw [r50_0]
    have h1 : ltB (pre.length : Int) (b.length : Int) = false := by rw [← hbb]; simp [ltB]
    rw [h1, ctl_false]
    rfl
  | cons e l ih =>
    intro pre v ok hbb
    rw [r50_0]
    have hl : 0 ≤ (pre.length : Int) ∧ (pre.length : Int) < (b.length : Int) := by rw [← hbb]; exact mid_lt pre e l
    have h1 : ltB (pre.length : Int) (b.length : Int) = true := by simp [ltB]; omega
    rw [h1, ctl_true, getE_ens hl]
    have e1 : b.getD (pre.length : Int).toNat default = e := by rw [Int.toNat_natCast, ← hbb, getD_mid]
    rw [e1]
    have e2 : okCs [Sh.int IntKind.i64, Sh.int IntKind.i64, Sh.sl 1] (enK e) = true := rfl
    rw [e2, ctl_true]
    have c1 : (nth PV.nilp (enK e) 0).toInt = e.t := rfl
    have c2 : (nth PV.nilp (enK e) 1).toInt = e.k := rfl
    have c3 : (nth PV.nilp (enK e) 2).toEs = intsK .i64 e.ws := rfl
    rw [c1, c2, c3]
    have hc : ctl (e.k == kind) (some (leB e.t time)) (some false) = some (decide (e.k = kind ∧ e.t ≤ time)) := by
      by_cases hk : e.k = kind
      · have : (e.k == kind) = true := by simpa using hk
        rw [this, ctl_true]
        by_cases ht : e.t ≤ time <;> simp [leB, hk, ht]
      · have : (e.k == kind) = false := by simpa using hk
        rw [this, ctl_false]
        simp [hk]
    rw [hc]
    have hi : IntKind.i64.wrap ((pre.length : Int) + 1) = ((pre ++ [e]).length : Int) := by
      rw [w64 (by omega)]; simp
    rw [hi]
    have hih := fun v' ok' => ih (pre ++ [e]) v' ok' (by rw [← hbb]; simp)
    rw [List.foldl_cons]
    have hwe := hw e (by rw [← hbb]; simp)
    by_cases hq : e.k = kind ∧ e.t ≤ time
    · have hs : atStep kind time (v, ok) e = (e.ws.headD 0, true) := by unfold atStep; rw [if_pos hq]
      rw [hs, decide_eq_true hq]
      cases hw2 : e.ws with
      | nil => exact absurd hw2 hwe
      | cons x r =>
        simp only [SB, Nat.reduceAdd]
        rw [getE_ints (by simp <;> omega)]
        exact hih _ _
    · have hs : atStep kind time (v, ok) e = (v, ok) := by unfold atStep; rw [if_neg hq]
      rw [hs, decide_eq_false hq]
      exact hih _ _

theorem c_atD (b : List En) (bs kind time : Int) (hw : ∀ e ∈ b, e.ws ≠ []) (hb : b.length ≤ 100000) : denC E 50 [AV.agg [PV.sl 3 (ensK b), PV.int .u64 bs], AV.int .i64 kind, AV.int .i64 time] [] =
    some ([RV.p (PV.int .i64 (atL kind time (b.map trip)).1), RV.p (PV.bool (atL kind time (b.map trip)).2)], []) := by
  rw [denC_eq, r50, ensK_len]
  have := lp_atD b kind time hw hb b [] 0 false rfl
  simp only [List.length_nil, Int.ofNat_zero] at this
  rw [this, atStep_fold]
  have e : cond (atL kind time (b.map trip)).2 (atL kind time (b.map trip)) ((0, false) : Int × Bool) = atL kind time (b.map trip) := by
    cases h : (atL kind time (b.map trip)).2 with
    | true => rfl
    | false =>
      have : ∀ l : List (Int × Int × Int), (atL kind time l).2 = false → atL kind time l = (0, false) := fun l => by
        induction l with
        | nil => exact fun _ => rfl
        | cons x l ih =>
          intro hx
          simp only [atL] at hx ⊢
          cases h2 : (atL kind time l).2 with
          | true => rw [h2] at hx; simp [h2] at hx
          | false =>
            rw [h2] at hx
            simp only [cond_false] at hx ⊢
            cases h3 : (decide (x.2.1 = kind) && decide (x.1 ≤ time)) with
            | true => rw [h3] at hx; cases hx
            | false => rfl
      rw [this _ h]; rfl
  rw [e]
  rfl

theorem runB_ok : ∀ {l : List En} {s p x : Int}, runB s p l = some x → ∀ e ∈ l, validP e.t e.k e.ws = true
  | [], _, _, _, _, e, he => by cases he
  | a :: l, s, p, x, h, e, he => by
    simp only [runB] at h
    split at h
    · rename_i hq
      rcases List.mem_cons.1 he with rfl | he
      · exact hq.1
      · exact runB_ok h e he
    · cases h

theorem checkP_run {b : List En} {bs : Int} (h : checkP b bs = 0) : runB begin36 0 b = some bs := by
  unfold checkP at h
  split at h
  · cases h
  · split at h
    · assumption
    · cases h

theorem checkP_ok {b : List En} {bs : Int} (h : checkP b bs = 0) : ∀ e ∈ b, e.ws ≠ [] := fun e he hn => by
  have hv := runB_ok (checkP_run h) e he
  obtain ⟨_, _, _, _, _, _, h7⟩ := validP_all hv
  rw [hn] at h7
  have := wordsP_kind (k := e.k) (by rw [← h7]; simp)
  have h8 : wordsP e.k = 0 := by rw [← h7]; rfl
  unfold wordsP at h8
  split at h8
  · cases h8
  · split at h8
    · cases h8
    · split at h8
      · cases h8
      · split at h8 <;> cases h8

end Go.Proofs.YtkpdiagdjplbiaaGreatDoor.Vm

/- Contracts of chapter 36: appending, texts, equality. -/
namespace Go.Proofs.YtkpdiagdjplbiaaGreatDoor.Vm
set_option linter.unusedVariables false
set_option linter.unusedSimpArgs false

theorem c_NewD : denC E 21 [] [] = some ([RV.agg [PV.nils, PV.int .u64 begin36]], []) := by
  rw [denC_eq, r21]
  rfl

theorem spanK_len (b : List (Int × Int × Int)) : (spanK b).length = b.length := by simp [spanK]

theorem a_int {F : Fun} {f : Nat} {a : List AV} {n : Int} (h : F f a [] = some ([.p (.int .i64 n)], [])) (K : Int → Ask) : (Ask.int f a K).run F = (K n).run F := by
  simp only [Ask.int, Ask.run, h]

end Go.Proofs.YtkpdiagdjplbiaaGreatDoor.Vm

/- Plain laws of spans: a list of spans covers a time without gaps, each with the value that holds in it, and there is one such list only. -/
namespace Go.Proofs.YtkpdiagdjplbiaaGreatDoor.Vm
set_option linter.unusedVariables false
set_option linter.unusedSimpArgs false

abbrev Sp := Int × Int × Int

def gl (A : Int → Int) : Int → Int → List Sp → Prop
  | s, e, [] => s = e
  | s, e, x :: r => x.1 = s ∧ s < x.2.1 ∧ (∀ k, s ≤ k → k < x.2.1 → A k = x.2.2) ∧ (∀ y, r.head? = some y → y.2.2 ≠ x.2.2) ∧ gl A x.2.1 e r

theorem gl_le {A : Int → Int} : ∀ {l : List Sp} {s e : Int}, gl A s e l → s ≤ e
  | [], s, e, h => by unfold gl at h; omega
  | x :: r, s, e, h => by have := gl_le h.2.2.2.2; have := h.2.1; omega

theorem gl_one {A : Int → Int} {s e v : Int} (h : s < e) (hc : ∀ k, s ≤ k → k < e → A k = v) : gl A s e [(s, e, v)] := ⟨rfl, h, hc, fun y hy => by simp at hy, rfl⟩

theorem gl_lastv {A : Int → Int} : ∀ {q : List Sp} {s e a v : Int}, gl A s e (q ++ [(a, e, v)]) → a < e ∧ s ≤ a ∧ ∀ k, a ≤ k → k < e → A k = v
  | [], s, e, a, v, h => by
    obtain ⟨h1, h2, h3, _, _⟩ := h
    simp only at h1 h2 h3
    subst h1
    exact ⟨h2, Int.le_refl _, h3⟩
  | x :: q, s, e, a, v, h => by
    obtain ⟨h1, h2, h3, h4, h5⟩ := h
    obtain ⟨i1, i2, i3⟩ := gl_lastv h5
    exact ⟨i1, by omega, i3⟩

theorem gl_ext {A : Int → Int} : ∀ {q : List Sp} {s e a v e' : Int}, gl A s e (q ++ [(a, e, v)]) → e ≤ e' → (∀ k, e ≤ k → k < e' → A k = v) → gl A s e' (q ++ [(a, e', v)])
  | [], s, e, a, v, e', h, he, hc => by
    obtain ⟨h1, h2, h3, _, _⟩ := h
    refine ⟨h1, by simp only at h2 ⊢; omega, fun k h4 h5 => ?_, fun y hy => by simp at hy, rfl⟩
    simp only at h5 h3 ⊢
    by_cases hk : k < e
    · exact h3 k h4 hk
    · exact hc k (by omega) h5
  | x :: q, s, e, a, v, e', h, he, hc => by
    obtain ⟨h1, h2, h3, h4, h5⟩ := h
    refine ⟨h1, h2, h3, fun y hy => ?_, gl_ext h5 he hc⟩
    cases q with
    | nil => simp at hy; subst hy; exact h4 (a, e, v) rfl
    | cons z q => exact h4 y hy

theorem gl_app {A : Int → Int} : ∀ {q : List Sp} {s e a v w e' : Int}, gl A s e (q ++ [(a, e, v)]) → w ≠ v → e < e' → (∀ k, e ≤ k → k < e' → A k = w) → gl A s e' (q ++ [(a, e, v)] ++ [(e, e', w)])
  | [], s, e, a, v, w, e', h, hw, he, hc => by
    obtain ⟨h1, h2, h3, _, _⟩ := h
    exact ⟨h1, h2, h3, fun y hy => by simp at hy; subst hy; exact hw, gl_one he hc⟩
  | x :: q, s, e, a, v, w, e', h, hw, he, hc => by
    obtain ⟨h1, h2, h3, h4, h5⟩ := h
    refine ⟨h1, h2, h3, fun y hy => ?_, gl_app h5 hw he hc⟩
    cases q with
    | nil => simp at hy; subst hy; exact h4 (a, e, v) rfl
    | cons z q => exact h4 y hy

theorem gl_uniq {A : Int → Int} : ∀ {l l' : List Sp} {s e : Int}, gl A s e l → gl A s e l' → l = l'
  | [], [], _, _, _, _ => rfl
  | [], x :: r, s, e, h, h' => by
    have h1 := gl_le h'.2.2.2.2
    have h2 := h'.2.1
    unfold gl at h
    omega
  | x :: r, [], s, e, h, h' => by
    have h1 := gl_le h.2.2.2.2
    have h2 := h.2.1
    unfold gl at h'
    omega
  | x :: r, y :: r', s, e, h, h' => by
    obtain ⟨x0, x1, x2⟩ := x
    obtain ⟨y0, y1, y2⟩ := y
    obtain ⟨a1, a2, a3, a4, a5⟩ := h
    obtain ⟨b1, b2, b3, b4, b5⟩ := h'
    simp only at a1 a2 a3 a4 a5 b1 b2 b3 b4 b5
    have hv : x2 = y2 := by rw [← a3 s (Int.le_refl _) a2, ← b3 s (Int.le_refl _) b2]
    have key : ∀ {c d v : Int} {t t' : List Sp}, c < d → s < c → (∀ k, s ≤ k → k < d → A k = v) → (∀ y, t.head? = some y → y.2.2 ≠ v) → gl A c e t → gl A d e t' → False := by
      intro c d v t t' hcd hsc hc ht h h'
      have h1 := gl_le h'
      cases t with
      | nil => unfold gl at h; omega
      | cons z t =>
        obtain ⟨z1, z2, z3, _, _⟩ := h
        exact ht z rfl ((z3 c (Int.le_refl _) z2).symm.trans (hc c (by omega) hcd))
    rcases Int.lt_trichotomy x1 y1 with h | h | h
    · exact (key h a2 (v := x2) (by rw [hv]; exact b3) a4 a5 b5).elim
    · subst h
      subst hv
      subst a1
      subst b1
      rw [gl_uniq a5 b5]
    · exact (key h b2 (v := y2) (by rw [← hv]; exact a3) b4 b5 a5).elim

open Classical in
noncomputable def spP (A : Int → Int) (s e : Int) : List Sp := if h : ∃ l, gl A s e l then Classical.choose h else []

theorem spP_eq {A : Int → Int} {s e : Int} {l : List Sp} (h : gl A s e l) : spP A s e = l := by
  unfold spP
  rw [dif_pos ⟨l, h⟩]
  exact gl_uniq (Classical.choose_spec _) h

theorem atL_same {kind p k : Int} : ∀ {l : List (Int × Int × Int)}, (∀ x ∈ l, x.2.1 = kind → (x.1 ≤ p ↔ x.1 ≤ k)) → atL kind k l = atL kind p l
  | [], _ => rfl
  | x :: l, h => by
    have h1 := atL_same (l := l) fun y hy => h y (.tail _ hy)
    simp only [atL, h1]
    by_cases hk : x.2.1 = kind
    · have := h x (.head _) hk
      have e : decide (x.1 ≤ k) = decide (x.1 ≤ p) := by simp only [this]
      rw [e]
    · have : decide (x.2.1 = kind) = false := by simpa using hk
      rw [this]
      simp

end Go.Proofs.YtkpdiagdjplbiaaGreatDoor.Vm

/- Contracts of chapter 36: spans. -/
namespace Go.Proofs.YtkpdiagdjplbiaaGreatDoor.Vm
set_option linter.unusedVariables false
set_option linter.unusedSimpArgs false

def aF (b : List En) (kind k : Int) : Int := (atL kind k (b.map trip)).1

theorem aF_same {b : List En} {kind p k : Int} (h : ∀ x ∈ b, x.k = kind → (x.t ≤ p ↔ x.t ≤ k)) : aF b kind k = aF b kind p := by
  unfold aF
  rw [atL_same (p := p)]
  intro x hx hk
  obtain ⟨e, he, rfl⟩ := List.mem_map.1 hx
  exact h e he hk

theorem runB_sorted : ∀ {l : List En} {s p x : Int}, runB s p l = some x → (∀ e ∈ l, p ≤ e.t) ∧ l.Pairwise (fun a c => a.t ≤ c.t)
  | [], _, _, _, _ => ⟨fun e he => (List.not_mem_nil he).elim, List.Pairwise.nil⟩
  | a :: l, s, p, x, h => by
    simp only [runB] at h
    split at h
    · rename_i hq
      obtain ⟨h1, h2⟩ := runB_sorted h
      refine ⟨fun e he => ?_, .cons h1 h2⟩
      rcases List.mem_cons.1 he with rfl | he
      · exact hq.2
      · have := h1 e he
        omega
    · cases h

theorem nth_last {q : List Sp} {a b v : Int} : nth [] (spanK (q ++ [(a, b, v)])) q.length = [PV.int .i64 a, PV.int .i64 b, PV.int .i64 v] := by
  rw [nth_eq]
  simp [spanK, List.getD]

theorem setEs_last {q : List Sp} {a b v c : Int} : setEs (spanK (q ++ [(a, b, v)])) q.length 1 [PV.int .i64 c] = spanK (q ++ [(a, c, v)]) := by
  unfold setEs
  rw [nth_last, upd_eq]
  have : lay [PV.int .i64 a, PV.int .i64 b, PV.int .i64 v] 1 [PV.int .i64 c] = [PV.int .i64 a, PV.int .i64 c, PV.int .i64 v] := rfl
  rw [this]
  simp [spanK]

theorem last_ix {q : List Sp} {x : Sp} (h : q.length ≤ 1000000) : IntKind.i64.wrap (((spanK (q ++ [x])).length : Int) - 1) = (q.length : Int) := by
  rw [spanK_len, w64 (by simp; omega)]
  simp

theorem last_in {q : List Sp} {x : Sp} : (leB 0 (q.length : Int) && ltB (q.length : Int) ((spanK (q ++ [x])).length : Int)) = true := by
  rw [spanK_len]
  simp [leB, ltB] <;> omega

theorem spanK_snoc (q : List Sp) (x : Sp) : spanK q ++ [[PV.int .i64 x.1, PV.int .i64 x.2.1, PV.int .i64 x.2.2]] = spanK (q ++ [x]) := by simp [spanK]

set_option maxHeartbeats 1000000 in
theorem l_SpE (b : List En) (bs kind frm to : Int) (hw : ∀ e ∈ b, e.ws ≠ []) (hb : b.length ≤ 100000) (hs : b.Pairwise (fun a c => a.t ≤ c.t)) : ∀ (l pre : List En) (q : List Sp) (a v p : Int), pre ++ l = b → frm ≤ p → p < to →
    (∀ x ∈ pre, x.k = kind → x.t ≤ p ∨ to ≤ x.t) → (∀ x ∈ l, frm < x.t → p ≤ x.t) → gl (aF b kind) frm (p + 1) (q ++ [(a, p + 1, v)]) → q.length ≤ pre.length →
    lp E (denC E) 24 0 [] 0 { vals := [AV.int .i64 kind, AV.int .i64 frm, AV.int .i64 to, AV.sl 3 (ensK b), AV.int .i64 b.length, AV.int .i64 pre.length], blks := [Blk.box [AV.sl 3 (ensK b), AV.int .u64 bs], Blk.arr 3 (spanK (q ++ [(a, to, v)]))] } =
      some (.exit 0, { vals := [], blks := [Blk.arr 3 (spanK (spP (aF b kind) frm to))] }) := by
  intro l
  induction l with
  | nil =>
    intro pre q a v p hbb h1 h2 h3 h4 h5 h6
    rw [r24_0]
    have h7 : ltB (pre.length : Int) (b.length : Int) = false := by rw [← hbb]; simp [ltB]
    rw [h7, ctl_false]
    have hpre : pre = b := by rw [← hbb]; simp
    obtain ⟨g1, g2, g3⟩ := gl_lastv h5
    have hg : gl (aF b kind) frm to (q ++ [(a, to, v)]) := gl_ext h5 (by omega) fun k hk1 hk2 => by
      rw [aF_same (p := p) fun x hx hxk => ?_]
      · exact g3 p (by omega) (by omega)
      · rcases h3 x (by rw [hpre]; exact hx) hxk with h | h <;> omega
    rw [spP_eq hg]
  | cons e l ih =>
    intro pre q a v p hbb h1 h2 h3 h4 h5 h6
    rw [r24_0]
    have hl : 0 ≤ (pre.length : Int) ∧ (pre.length : Int) < (b.length : Int) := by rw [← hbb]; exact mid_lt pre e l
    have h7 : ltB (pre.length : Int) (b.length : Int) = true := by simp [ltB]; omega
    rw [h7, ctl_true, getE_ens hl]
    have e1 : b.getD (pre.length : Int).toNat default = e := by rw [Int.toNat_natCast, ← hbb, getD_mid]
    have e2 : okCs [Sh.int IntKind.i64, Sh.int IntKind.i64, Sh.sl 1] (enK e) = true := rfl
    have c1 : (nth PV.nilp (enK e) 0).toInt = e.t := rfl
    have c2 : (nth PV.nilp (enK e) 1).toInt = e.k := rfl
    have hi : IntKind.i64.wrap ((pre.length : Int) + 1) = ((pre ++ [e]).length : Int) := by
      rw [w64 (by omega)]; simp
    have hpl : pre.length ≤ 100000 := by rw [← hbb] at hb; simp at hb; omega
    have hlate : ∀ x ∈ l, e.t ≤ x.t := by
      have : (pre ++ e :: l).Pairwise (fun a c => a.t ≤ c.t) := by rw [hbb]; exact hs
      exact (List.pairwise_cons.1 (List.pairwise_append.1 this).2.1).1
    have hbb' : (pre ++ [e]) ++ l = b := by rw [← hbb]; simp
    have hskip : ∀ q' a' v' p', frm ≤ p' → p' < to → p ≤ p' → (e.k = kind → e.t ≤ p' ∨ to ≤ e.t) → (∀ x ∈ l, frm < x.t → p' ≤ x.t) → gl (aF b kind) frm (p' + 1) (q' ++ [(a', p' + 1, v')]) → q'.length ≤ pre.length + 1 →
        lp E (denC E) 24 0 [] 0 { vals := [AV.int .i64 kind, AV.int .i64 frm, AV.int .i64 to, AV.sl 3 (ensK b), AV.int .i64 b.length, AV.int .i64 (IntKind.i64.wrap ((pre.length : Int) + 1))], blks := [Blk.box [AV.sl 3 (ensK b), AV.int .u64 bs], Blk.arr 3 (spanK (q' ++ [(a', to, v')]))] } =
          some (.exit 0, { vals := [], blks := [Blk.arr 3 (spanK (spP (aF b kind) frm to))] }) := by
      intro q' a' v' p' k1 k2 k3 k4 k5 k6 k7
      rw [hi]
      refine ih (pre ++ [e]) q' a' v' p' hbb' k1 k2 (fun x hx hxk => ?_) k5 k6 (by simpa using k7)
      rcases List.mem_append.1 hx with hx | hx
      · rcases h3 x hx hxk with h | h
        · exact .inl (by omega)
        · exact .inr h
      · simp at hx
        subst hx
        exact k4 hxk
    rw [e1, e2, ctl_true, c1, c2]
    have ht : (bnd (ctl (!e.k != kind) (some (leB e.t frm)) (some true)) fun v : Bool => bnd (ctl (!v) (some (leB to e.t)) (some true)) fun v : Bool => some v) = some (!(decide (e.k = kind) && (decide (frm < e.t) && decide (e.t < to)))) := by
      by_cases hk : e.k = kind
      · have : (!e.k != kind) = true := by simp [hk]
        rw [this]
        by_cases h8 : frm < e.t
        · have : ¬ e.t ≤ frm := by omega
          by_cases h9 : e.t < to
          · have h9' : ¬ to ≤ e.t := by omega
            simp [hk, h8, h9, this, h9', leB, ctl, bnd]
          · have h9' : to ≤ e.t := by omega
            simp [hk, h8, h9, this, h9', leB, ctl, bnd]
        · have : e.t ≤ frm := by omega
          simp [hk, h8, this, leB, ctl, bnd]
      · have : (!e.k != kind) = false := by simpa using hk
        rw [this]
        simp [hk, ctl, bnd]
    have hbnd : ∀ (K : Bool → Option (Ex × Pack)), (bnd (ctl (!e.k != kind) (some (leB e.t frm)) (some true)) fun v : Bool => bnd (ctl (!v) (some (leB to e.t)) (some true)) K) = K (!(decide (e.k = kind) && (decide (frm < e.t) && decide (e.t < to)))) := by
      intro K
      by_cases hk : e.k = kind
      · have : (!e.k != kind) = true := by simp [hk]
        rw [this]
        by_cases h8 : frm < e.t
        · have : ¬ e.t ≤ frm := by omega
          by_cases h9 : e.t < to
          · have h9' : ¬ to ≤ e.t := by omega
            simp [hk, h8, h9, this, h9', leB, ctl, bnd]
          · have h9' : to ≤ e.t := by omega
            simp [hk, h8, h9, this, h9', leB, ctl, bnd]
        · have : e.t ≤ frm := by omega
          simp [hk, h8, this, leB, ctl, bnd]
      · have : (!e.k != kind) = false := by simpa using hk
        rw [this]
        simp [hk, ctl, bnd]
    rw [hbnd]
    by_cases hq : e.k = kind ∧ frm < e.t ∧ e.t < to
    · obtain ⟨q1, q2, q3⟩ := hq
      have hd : (decide (e.k = kind) && (decide (frm < e.t) && decide (e.t < to))) = true := by simp [q1, q2, q3]
      rw [hd, Bool.not_true, ctl_false, last_ix (by omega), last_in, ctl_true, c_atE b bs kind e.t hw hb]
      simp only [SB, Nat.reduceAdd]
      have hpe := h4 e (.head _) q2
      obtain ⟨g1, g2, g3⟩ := gl_lastv h5
      have hconst : ∀ k, p + 1 ≤ k → k < e.t → aF b kind k = v := fun k hk1 hk2 => by
        rw [aF_same (p := p) fun x hx hxk => ?_]
        · exact g3 p (by omega) (by omega)
        · rw [← hbb] at hx
          rcases List.mem_append.1 hx with hx | hx
          · rcases h3 x hx hxk with h | h <;> omega
          · rcases List.mem_cons.1 hx with rfl | hx
            · omega
            · have := hlate x hx; omega
      have et : ∀ n : Nat, ((n : Nat) : Int).toNat = n := fun n => Int.toNat_natCast n
      rw [et, nth_last]
      have e3 : okCs [Sh.int IntKind.i64] (List.take 1 (List.drop 2 [PV.int .i64 a, PV.int .i64 to, PV.int .i64 v])) = true := rfl
      have e4 : (nth PV.nilp [PV.int .i64 a, PV.int .i64 to, PV.int .i64 v] 2).toInt = v := rfl
      rw [e3, e4, ctl_true, setEs_last]
      show ctl (aF b kind e.t != v) _ _ = _
      by_cases hv : aF b kind e.t = v
      · have : (aF b kind e.t != v) = false := by simp [hv]
        rw [this, ctl_false]
        have hg : gl (aF b kind) frm (e.t + 1) (q ++ [(a, e.t + 1, v)]) := gl_ext h5 (by omega) fun k hk1 hk2 => by
          by_cases hke : k < e.t
          · exact hconst k hk1 hke
          · have : k = e.t := by omega
            rw [this]; exact hv
        exact hskip q a v e.t (by omega) q3 hpe (fun _ => .inl (Int.le_refl _)) (fun x hx _ => hlate x hx) hg (by omega)
      · have : (aF b kind e.t != v) = true := by simpa using hv
        have hlt : p < e.t := by
          rcases Int.lt_or_eq_of_le hpe with h | h
          · exact h
          · exact absurd (by rw [← h]; exact g3 p (by omega) (by omega)) hv
        have h8 : leN (((spanK (q ++ [(a, e.t, v)])).length + 1) * 24) 140737488355328 = true := by rw [spanK_len]; simp [leN]; omega
        rw [this, ctl_true, h8, ctl_true]
        have hg : gl (aF b kind) frm (e.t + 1) (q ++ [(a, e.t, v)] ++ [(e.t, e.t + 1, aF b kind e.t)]) := gl_app (gl_ext h5 (by omega) hconst) hv (by omega) fun k hk1 hk2 => by
          have : k = e.t := by omega
          rw [this]
        have e5 := spanK_snoc (q ++ [(a, e.t, v)]) (e.t, to, aF b kind e.t)
        simp only at e5
        have e6 : (atL kind e.t (b.map trip)).1 = aF b kind e.t := rfl
        rw [e6, e5]
        exact hskip (q ++ [(a, e.t, v)]) e.t (aF b kind e.t) e.t (by omega) q3 hpe (fun _ => .inl (Int.le_refl _)) (fun x hx _ => hlate x hx) hg (by simp; omega)
    · have hd : (decide (e.k = kind) && (decide (frm < e.t) && decide (e.t < to))) = false := by
        rw [Bool.and_eq_false_iff, Bool.and_eq_false_iff]
        simp only [decide_eq_false_iff_not]
        by_cases hk : e.k = kind
        · by_cases h8 : frm < e.t
          · exact .inr (.inr fun h => hq ⟨hk, h8, h⟩)
          · exact .inr (.inl h8)
        · exact .inl hk
      rw [hd, Bool.not_false, ctl_true]
      refine hskip q a v p h1 h2 (Int.le_refl _) (fun hk => ?_) (fun x hx hf => h4 x (.tail _ hx) hf) h5 (by omega)
      by_cases h8 : frm < e.t
      · exact .inr (by
          by_cases h9 : e.t < to
          · exact absurd ⟨hk, h8, h9⟩ hq
          · omega)
      · exact .inl (by omega)

theorem range_b (kind frm to : Int) : (!(wordsP kind == 1) || ltB frm 0 || ltB to frm || ltB 2147483648 to) = !decide (wordsP kind = 1 ∧ 0 ≤ frm ∧ frm ≤ to ∧ to ≤ 2147483648) := by
  by_cases h1 : wordsP kind = 1
  · by_cases h2 : 0 ≤ frm
    · by_cases h3 : frm ≤ to
      · by_cases h4 : to ≤ 2147483648
        · have h2' : ¬ frm < 0 := by omega
          have h3' : ¬ to < frm := by omega
          have h4' : ¬ 2147483648 < to := by omega
          simp [h1, h2, h3, h4, h2', h3', h4', ltB]
        · have h2' : ¬ frm < 0 := by omega
          have h3' : ¬ to < frm := by omega
          have h4' : 2147483648 < to := by omega
          simp [h1, h2, h3, h4, h2', h3', h4', ltB]
      · have h2' : ¬ frm < 0 := by omega
        have h3' : to < frm := by omega
        simp [h1, h2, h3, h2', h3', ltB]
    · have h2' : frm < 0 := by omega
      simp [h1, h2, h2', ltB]
  · have : (wordsP kind == 1) = false := by simpa using h1
    rw [this]
    simp [h1]

def spanE' (b : List En) (bs kind frm to : Int) : Int := if checkP b bs ≠ 0 then checkP b bs else if wordsP kind = 1 ∧ 0 ≤ frm ∧ frm ≤ to ∧ to ≤ 2147483648 then 0 else 1

noncomputable def spanL (b : List En) (bs kind frm to : Int) : List Sp := if spanE' b bs kind frm to = 0 then spP (aF b kind) frm to else []

theorem c_SpansE (b : List En) (bs kind frm to : Int) (hws : ∀ e ∈ b, e.ws.length ≤ 1000000) : denC E 24 [AV.agg [PV.sl 3 (ensK b), PV.int .u64 bs], AV.int .i64 kind, AV.int .i64 frm, AV.int .i64 to] [] =
    some ([RV.p (PV.sl 3 (spanK (spanL b bs kind frm to))), RV.p (PV.int .i64 (spanE' b bs kind frm to))], []) := by
  rw [denC_eq, r24, c_CheckE b bs hws, ensK_len]
  simp only [SB, Nat.reduceAdd]
  by_cases hc : checkP b bs = 0
  · have hne : (checkP b bs != 0) = false := by simp [hc]
    rw [hne, ctl_false, c_state]
    simp only [SB, Nat.reduceAdd]
    have hok := checkP_ok hc
    have hlen := checkP_len hc
    obtain ⟨hs1, hs2⟩ := runB_sorted (checkP_run hc)
    have hbnd : (!(wordsP kind == 1) || ltB frm 0 || ltB to frm || ltB 2147483648 to) = !decide (wordsP kind = 1 ∧ 0 ≤ frm ∧ frm ≤ to ∧ to ≤ 2147483648) := range_b _ _ _
    rw [hbnd]
    by_cases hq : wordsP kind = 1 ∧ 0 ≤ frm ∧ frm ≤ to ∧ to ≤ 2147483648
    · have he : spanE' b bs kind frm to = 0 := by unfold spanE'; rw [if_neg (by simp [hc]), if_pos hq]
      have hsl : spanL b bs kind frm to = spP (aF b kind) frm to := by unfold spanL; rw [if_pos he]
      rw [he, hsl, decide_eq_true hq, Bool.not_true, ctl_false]
      by_cases hft : frm = to
      · have : (frm == to) = true := by simp [hft]
        rw [this, ctl_true, spP_eq (l := []) (by unfold gl; exact hft)]
        rfl
      · have : (frm == to) = false := by simpa using hft
        rw [this, ctl_false, c_atE b bs kind frm hok (by omega)]
        simp only [SB, Nat.reduceAdd]
        have hlp := l_SpE b bs kind frm to hok (by omega) hs2 b [] [] frm (aF b kind frm) frm rfl (Int.le_refl _) (by omega) (fun x hx => by cases hx) (fun x hx h => by omega) (gl_one (by omega) fun k h1 h2 => by
          have : k = frm := by omega
          rw [this]) (by simp)
        simp only [List.length_nil, Int.ofNat_zero, List.nil_append] at hlp
        have e1 : spanK [(frm, to, aF b kind frm)] = [[PV.int .i64 frm, PV.int .i64 to, PV.int .i64 (atL kind frm (b.map trip)).1]] := rfl
        rw [← e1, hlp]
        simp only [SB, Nat.reduceAdd]
    · have he : spanE' b bs kind frm to = 1 := by unfold spanE'; rw [if_neg (by simp [hc]), if_neg hq]
      have hsl : spanL b bs kind frm to = [] := by unfold spanL; rw [if_neg (by rw [he]; decide)]
      rw [he, hsl, decide_eq_false hq, Bool.not_false, ctl_true]
      rfl
  · have hne : (checkP b bs != 0) = true := by simpa using hc
    have he : spanE' b bs kind frm to = checkP b bs := by unfold spanE'; rw [if_pos hc]
    have hsl : spanL b bs kind frm to = [] := by unfold spanL; rw [if_neg (by rw [he]; exact hc)]
    rw [hne, ctl_true, he, hsl]
    rfl

end Go.Proofs.YtkpdiagdjplbiaaGreatDoor.Vm

/- Contracts of chapter 36: the document's spans. -/
namespace Go.Proofs.YtkpdiagdjplbiaaGreatDoor.Vm
set_option linter.unusedVariables false
set_option linter.unusedSimpArgs false

theorem l_Has (x : Int) (m : List Int) (hm : m.length ≤ 1000000) : ∀ (l pre : List Int), pre ++ l = m → x ∉ pre →
    lp E (denC E) 49 0 [] 0 { vals := [AV.int .i64 x, AV.sl 1 (intsK .i64 m), AV.int .i64 m.length, AV.int .i64 pre.length], blks := [] } =
      some (if x ∈ m then (Ex.ret, { vals := [AV.bool true], blks := [] }) else (Ex.exit 0, { vals := [], blks := [] })) := by
  intro l
  induction l with
  | nil =>
    intro pre hbb hx
    rw [r49_0]
    have h1 : ltB (pre.length : Int) (m.length : Int) = false := by rw [← hbb]; simp [ltB]
    have hp : pre = m := by rw [← hbb]; simp
    rw [h1, ctl_false, if_neg (by rw [← hp]; exact hx)]
  | cons b l ih =>
    intro pre hbb hx
    rw [r49_0]
    have hl : 0 ≤ (pre.length : Int) ∧ (pre.length : Int) < (m.length : Int) := by rw [← hbb]; exact mid_lt pre b l
    have h1 : ltB (pre.length : Int) (m.length : Int) = true := by simp [ltB]; omega
    rw [h1, ctl_true, getE_ints hl]
    have e1 : m.getD (pre.length : Int).toNat 0 = b := by rw [Int.toNat_natCast, ← hbb, getD_mid]
    rw [e1]
    simp only [SB, Nat.reduceAdd]
    by_cases hbx : b = x
    · have : (b == x) = true := by simp [hbx]
      rw [this, ctl_true, if_pos (by rw [← hbb, ← hbx]; simp)]
    · have : (b == x) = false := by simpa using hbx
      rw [this, ctl_false, w64 (n := (pre.length : Int) + 1) (by omega), len_snoc pre b]
      exact ih (pre ++ [b]) (by rw [← hbb]; simp) (by simp; exact ⟨hx, fun h => hbx h.symm⟩)

theorem c_Has (x : Int) (m : List Int) (hm : m.length ≤ 1000000) : denC E 49 [AV.sl 1 (intsK .i64 m), AV.int .i64 x] [] = some ([RV.p (PV.bool (decide (x ∈ m)))], []) := by
  rw [denC_eq, r49, intsK_len]
  have hlp := l_Has x m hm m [] rfl (by simp)
  simp only [List.length_nil, Int.ofNat_zero] at hlp
  rw [hlp]
  by_cases h : x ∈ m
  · rw [if_pos h, decide_eq_true h]
    rfl
  · rw [if_neg h, decide_eq_false h]
    rfl

def mkS (frm to : Int) (m : List Int) (e : En) : List Int := if frm < e.t ∧ e.t < to ∧ e.t ∉ m then m ++ [e.t] else m

theorem intsK_snoc (m : List Int) (x : Int) : intsK .i64 m ++ [[PV.int .i64 x]] = intsK .i64 (m ++ [x]) := by simp [intsK]

theorem l_SpD0 (b : List En) (bs kind frm to : Int) (hb : b.length ≤ 100000) : ∀ (l pre : List En) (m : List Int), pre ++ l = b → m.length ≤ pre.length + 1 →
    lp E (denC E) 27 0 [] 0 { vals := [AV.int .i64 kind, AV.int .i64 frm, AV.int .i64 to, AV.sl 3 (ensK b), AV.int .i64 b.length, AV.int .i64 pre.length], blks := [Blk.box [AV.sl 3 (ensK b), AV.int .u64 bs], Blk.arr 1 (intsK .i64 m)] } =
      some (.exit 0, { vals := [AV.int .i64 kind, AV.int .i64 to, AV.sl 1 (intsK .i64 (l.foldl (mkS frm to) m))], blks := [Blk.box [AV.sl 3 (ensK b), AV.int .u64 bs]] }) := by
  intro l
  induction l with
  | nil =>
    intro pre m hbb hm
    rw [r27_0]
    have h1 : ltB (pre.length : Int) (b.length : Int) = false := by rw [← hbb]; simp [ltB]
    rw [h1, ctl_false]
    rfl
  | cons e l ih =>
    intro pre m hbb hm
    rw [r27_0]
    have hl : 0 ≤ (pre.length : Int) ∧ (pre.length : Int) < (b.length : Int) := by rw [← hbb]; exact mid_lt pre e l
    have h1 : ltB (pre.length : Int) (b.length : Int) = true := by simp [ltB]; omega
    have hpl : pre.length ≤ 100000 := by rw [← hbb] at hb; simp at hb; omega
    rw [h1, ctl_true, getE_ens hl]
    have e1 : b.getD (pre.length : Int).toNat default = e := by rw [Int.toNat_natCast, ← hbb, getD_mid]
    have e2 : okCs [Sh.int IntKind.i64, Sh.int IntKind.i64, Sh.sl 1] (enK e) = true := rfl
    have c1 : (nth PV.nilp (enK e) 0).toInt = e.t := rfl
    have hi : IntKind.i64.wrap ((pre.length : Int) + 1) = ((pre ++ [e]).length : Int) := by
      rw [w64 (by omega)]; simp
    rw [e1, e2, ctl_true, c1, hi, c_Has e.t m (by omega)]
    have hih := fun m' (h : m'.length ≤ pre.length + 2) => ih (pre ++ [e]) m' (by rw [← hbb]; simp) (by simp; omega)
    rw [List.foldl_cons]
    simp only [noslR, noslP, noslB, SB, Nat.reduceAdd]
    by_cases h2 : frm < e.t
    · by_cases h3 : e.t < to
      · by_cases h4 : e.t ∈ m
        · have hs : mkS frm to m e = m := by unfold mkS; rw [if_neg (by simp [h4])]
          have d1 : ltB frm e.t = true := by simpa [ltB] using h2
          have d2 : ltB e.t to = true := by simpa [ltB] using h3
          rw [hs, d1, d2, decide_eq_true h4]
          simp only [SB, Nat.reduceAdd]
          exact hih m (by omega)
        · have hs : mkS frm to m e = m ++ [e.t] := by unfold mkS; rw [if_pos ⟨h2, h3, h4⟩]
          have d1 : ltB frm e.t = true := by simpa [ltB] using h2
          have d2 : ltB e.t to = true := by simpa [ltB] using h3
          have d3 : leN (((intsK .i64 m).length + 1) * 8) 140737488355328 = true := by rw [intsK_len]; simp [leN]; omega
          rw [hs, d1, d2, decide_eq_false h4, d3]
          simp only [SB, Nat.reduceAdd]
          rw [intsK_snoc]
          exact hih (m ++ [e.t]) (by simp; omega)
      · have hs : mkS frm to m e = m := by unfold mkS; rw [if_neg (by simp [h3])]
        have d1 : ltB frm e.t = true := by simpa [ltB] using h2
        have d2 : ltB e.t to = false := by simpa [ltB] using h3
        rw [hs, d1, d2]
        simp only [SB, Nat.reduceAdd]
        exact hih m (by omega)
    · have hs : mkS frm to m e = m := by unfold mkS; rw [if_neg (by simp [h2])]
      have d1 : ltB frm e.t = false := by simpa [ltB] using h2
      rw [hs, d1]
      exact hih m (by omega)

theorem mk_all {frm to : Int} : ∀ {l : List En} {m : List Int}, l.Pairwise (fun a c => a.t ≤ c.t) → (∀ x ∈ m, ∀ e ∈ l, frm < e.t → x ≤ e.t) → m.Pairwise (· < ·) → (∀ x ∈ m, frm ≤ x ∧ (x < to ∨ x = frm)) →
    (l.foldl (mkS frm to) m).Pairwise (· < ·) ∧ (∀ x ∈ l.foldl (mkS frm to) m, frm ≤ x ∧ (x < to ∨ x = frm)) ∧ (∀ x ∈ m, x ∈ l.foldl (mkS frm to) m) ∧ (∀ e ∈ l, frm < e.t → e.t < to → e.t ∈ l.foldl (mkS frm to) m) ∧ (∃ r, l.foldl (mkS frm to) m = m ++ r) ∧ (l.foldl (mkS frm to) m).length ≤ m.length + l.length
  | [], m, _, _, h3, h4 => ⟨h3, h4, fun x hx => hx, fun e he => (List.not_mem_nil he).elim, ⟨[], by simp⟩, by simp⟩
  | e :: l, m, h1, h2, h3, h4 => by
    rw [List.foldl_cons]
    have hp := List.pairwise_cons.1 h1
    by_cases hq : frm < e.t ∧ e.t < to ∧ e.t ∉ m
    · have hs : mkS frm to m e = m ++ [e.t] := by unfold mkS; rw [if_pos hq]
      rw [hs]
      obtain ⟨i1, i2, i3, i4, ⟨r, i5⟩, i6⟩ := mk_all (l := l) (m := m ++ [e.t]) hp.2 (fun x hx y hy hf => by
          rcases List.mem_append.1 hx with hx | hx
          · exact h2 x hx y (.tail _ hy) hf
          · simp at hx; subst hx; exact hp.1 y hy) (by
          rw [List.pairwise_append]
          refine ⟨h3, List.pairwise_singleton _ _, fun x hx y hy => ?_⟩
          simp at hy
          subst hy
          have := h2 x hx e (.head _) hq.1
          rcases Int.lt_or_eq_of_le this with h | h
          · exact h
          · exact absurd (h ▸ hx) hq.2.2) (fun x hx => by
          rcases List.mem_append.1 hx with hx | hx
          · exact h4 x hx
          · simp at hx; subst hx; exact ⟨by omega, .inl hq.2.1⟩)
      refine ⟨i1, i2, fun x hx => i3 x (by simp [hx]), fun y hy hf ht => ?_, ⟨[e.t] ++ r, by rw [i5]; simp⟩, by simp at i6 ⊢; omega⟩
      rcases List.mem_cons.1 hy with rfl | hy
      · exact i3 _ (by simp)
      · exact i4 y hy hf ht
    · have hs : mkS frm to m e = m := by unfold mkS; rw [if_neg hq]
      rw [hs]
      obtain ⟨i1, i2, i3, i4, i5, i6⟩ := mk_all (l := l) (m := m) hp.2 (fun x hx y hy hf => h2 x hx y (.tail _ hy) hf) h3 h4
      refine ⟨i1, i2, i3, fun y hy hf ht => ?_, i5, by simp; omega⟩
      rcases List.mem_cons.1 hy with rfl | hy
      · by_cases hm : y.t ∈ m
        · exact i3 _ hm
        · exact absurd ⟨hf, ht, hm⟩ hq
      · exact i4 y hy hf ht

set_option maxHeartbeats 1000000 in
theorem l_SpD2 (b : List En) (bs kind frm to : Int) (hw : ∀ e ∈ b, e.ws ≠ []) (hb : b.length ≤ 100000) (M : List Int) (hM : M.Pairwise (· < ·)) (hfrm : ∀ m ∈ M, frm ≤ m ∧ m < to) (hhead : ∃ r, M = frm :: r) (hmem : ∀ x ∈ b, frm < x.t → x.t < to → x.t ∈ M) (hMl : M.length ≤ 1000000) :
    ∀ (rest done : List Int) (out : List Sp), done ++ rest = M → ((done = [] ∧ out = []) ∨ ∃ q a v, out = q ++ [(a, rest.headD to, v)] ∧ gl (aF b kind) frm (rest.headD to) out) → out.length ≤ done.length →
    lp E (denC E) 27 0 [] 2 { vals := [AV.int .i64 kind, AV.int .i64 to, AV.sl 1 (intsK .i64 M), AV.sl 1 (intsK .i64 M), AV.int .i64 M.length, AV.int .i64 done.length], blks := [Blk.box [AV.sl 3 (ensK b), AV.int .u64 bs], Blk.arr 3 (spanK out)] } =
      some (.exit 2, { vals := [], blks := [Blk.arr 3 (spanK (spP (aF b kind) frm to))] }) := by
  intro rest
  induction rest with
  | nil =>
    intro done out hd hinv hlen
    rw [r27_2]
    have h1 : ltB (done.length : Int) (M.length : Int) = false := by rw [← hd]; simp [ltB]
    rw [h1, ctl_false]
    rcases hinv with ⟨h, _⟩ | ⟨q, a, v, h2, h3⟩
    · obtain ⟨r, hr⟩ := hhead
      rw [← hd, h] at hr
      cases hr
    · rw [spP_eq (show gl (aF b kind) frm to out from h3)]
  | cons t rest ih =>
    intro done out hd hinv hlen
    have hl : 0 ≤ (done.length : Int) ∧ (done.length : Int) < (M.length : Int) := by rw [← hd]; exact mid_lt done t rest
    have h1 : ltB (done.length : Int) (M.length : Int) = true := by simp [ltB]; omega
    have e1 : M.getD (done.length : Int).toNat 0 = t := by rw [Int.toNat_natCast, ← hd, getD_mid]
    have hi : IntKind.i64.wrap ((done.length : Int) + 1) = ((done ++ [t]).length : Int) := by
      rw [w64 (by omega)]; simp
    have hpw := List.pairwise_append.1 (hd ▸ hM)
    have hpr := List.pairwise_cons.1 hpw.2.1
    have htM : t ∈ M := by rw [← hd]; simp
    obtain ⟨ht1, ht2⟩ := hfrm t htM
    obtain ⟨en, hen⟩ : ∃ en, rest.headD to = en := ⟨_, rfl⟩
    have hte : t < en := by
      rw [← hen]
      cases rest with
      | nil => exact ht2
      | cons y r => exact hpr.1 y (.head _)
    have hconst : ∀ k, t ≤ k → k < en → aF b kind k = aF b kind t := fun k hk1 hk2 => aF_same fun x hx hxk => by
      constructor
      · intro h; omega
      · intro h
        by_cases hxt : x.t ≤ t
        · exact hxt
        · exfalso
          have hent : en ≤ to := by
            rw [← hen]
            cases rest with
            | nil => exact Int.le_refl _
            | cons y r => have := (hfrm y (by rw [← hd]; simp)).2; simp; omega
          have := hmem x hx (by omega) (by omega)
          rw [← hd] at this
          rcases List.mem_append.1 this with h3 | h3
          · have := hpw.2.2 x.t h3 t (.head _); omega
          · rcases List.mem_cons.1 h3 with h3 | h3
            · omega
            · cases rest with
              | nil => cases h3
              | cons y r =>
                simp at hen
                rcases List.mem_cons.1 h3 with h3 | h3
                · omega
                · have := (List.pairwise_cons.1 hpr.2).1 x.t h3; omega
    have hih := fun out' h1 h2 => ih (done ++ [t]) out' (by rw [← hd]; simp) h1 h2
    have hat := c_atD b bs kind t hw hb
    have hd1 : ltB t en = true := by simpa [ltB] using hte
    have hA : (atL kind t (b.map trip)).1 = aF b kind t := rfl
    rw [r27_2, h1, ctl_true, getE_ints hl, e1, intsK_len]
    have e2 : okCs [Sh.int IntKind.i64] [PV.int .i64 t] = true := rfl
    have e3 : (nth PV.nilp [PV.int .i64 t] 0).toInt = t := rfl
    rw [e2, e3, ctl_true]
    cases rest with
    | nil =>
      have h2 : ltB (IntKind.i64.wrap ((done.length : Int) + 1)) (M.length : Int) = false := by rw [hi, ← hd]; simp [ltB]
      have hen' : en = to := by rw [← hen]; rfl
      subst hen'
      rw [h2, ctl_false]
      rw [hat]
      simp only [SB, Nat.reduceAdd]
      rw [hA]
      rcases hinv with ⟨hdn, rfl⟩ | ⟨q, a, v, rfl, hg⟩
      · have h0 : ltB 0 (((spanK []).length : Nat) : Int) = false := rfl
        have h9 : leN (((spanK []).length + 1) * 24) 140737488355328 = true := rfl
        rw [h0, h9]
        simp only [SB, Nat.reduceAdd]
        rw [hd1]
        simp only [SB, Nat.reduceAdd]
        have e5 := spanK_snoc [] (t, en, aF b kind t)
        simp only [List.nil_append] at e5
        have ht0 : t = frm := by
          obtain ⟨r, hr⟩ := hhead
          rw [← hd, hdn] at hr
          simp at hr
          exact hr.1
        have hgo := hih [(t, en, aF b kind t)] (.inr ⟨[], t, aF b kind t, by simp, by
          rw [hen]
          have := gl_one (A := aF b kind) hte hconst
          rw [ht0] at this ⊢
          exact this⟩) (by simp)
        rw [hi]
        exact hgo
      · have h0 : ltB 0 (((spanK (q ++ [(a, t, v)])).length : Nat) : Int) = true := by rw [spanK_len]; simp [ltB] <;> omega
        have hq : q.length ≤ 1000000 := by simp at hlen; have : done.length ≤ M.length := by rw [← hd]; simp
                                           omega
        have et : ∀ n : Nat, ((n : Nat) : Int).toNat = n := fun n => Int.toNat_natCast n
        have h9 : leN (((spanK (q ++ [(a, t, v)])).length + 1) * 24) 140737488355328 = true := by rw [spanK_len]; simp [leN]; omega
        simp only [List.headD_cons] at hg ⊢
        rw [h0, last_ix hq, last_in, et, nth_last, setEs_last, h9]
        have e3 : okCs [Sh.int IntKind.i64] (List.take 1 (List.drop 2 [PV.int .i64 a, PV.int .i64 t, PV.int .i64 v])) = true := rfl
        have e4 : (nth PV.nilp [PV.int .i64 a, PV.int .i64 t, PV.int .i64 v] 2).toInt = v := rfl
        rw [e3, e4]
        simp only [SB, Nat.reduceAdd]
        by_cases hv : aF b kind t = v
        · have : (v == aF b kind t) = true := by simp [hv]
          rw [this]
          simp only [SB, Nat.reduceAdd]
          rw [hi]
          refine hih (q ++ [(a, en, v)]) (.inr ⟨q, a, v, by rw [hen], ?_⟩) (by simp at hlen ⊢; omega)
          rw [hen]
          exact gl_ext hg (by omega) fun k hk1 hk2 => (hconst k hk1 hk2).trans hv
        · have : (v == aF b kind t) = false := by
            rw [beq_eq_false_iff_ne]; exact fun h => hv h.symm
          rw [this]
          simp only [SB, Nat.reduceAdd]
          rw [hd1]
          simp only [SB, Nat.reduceAdd]
          have e5 := spanK_snoc (q ++ [(a, t, v)]) (t, en, aF b kind t)
          simp only at e5
          rw [e5, hi]
          refine hih (q ++ [(a, t, v)] ++ [(t, en, aF b kind t)]) (.inr ⟨q ++ [(a, t, v)], t, aF b kind t, by rw [hen], ?_⟩) (by simp at hlen ⊢; omega)
          rw [hen]
          exact gl_app hg hv hte hconst
    | cons y rest =>
      have hly : 0 ≤ (((done ++ [t]).length : Nat) : Int) ∧ (((done ++ [t]).length : Nat) : Int) < (M.length : Int) := by rw [← hd]; simp; omega
      have h2 : ltB (IntKind.i64.wrap ((done.length : Int) + 1)) (M.length : Int) = true := by rw [hi]; simpa [ltB] using hly.2
      have hen' : en = y := by rw [← hen]; rfl
      subst hen'
      rw [h2, ctl_true]
      have hgy : ∀ K : List PV → Option (Ex × Pack), getE (intsK .i64 M) (IntKind.i64.wrap ((done.length : Int) + 1)) K = K [PV.int .i64 en] := fun K => by
        rw [hi, getE_ints hly]
        have : M.getD (((done ++ [t]).length : Nat) : Int).toNat 0 = en := by
          rw [Int.toNat_natCast, ← hd]
          have : done ++ t :: en :: rest = (done ++ [t]) ++ en :: rest := by simp
          rw [this, getD_mid]
        rw [this]
      rw [hgy]
      have e6 : okCs [Sh.int IntKind.i64] [PV.int .i64 en] = true := rfl
      have e7 : (nth PV.nilp [PV.int .i64 en] 0).toInt = en := rfl
      rw [e6, e7, ctl_true]
      rw [hat]
      simp only [SB, Nat.reduceAdd]
      rw [hA]
      rcases hinv with ⟨hdn, rfl⟩ | ⟨q, a, v, rfl, hg⟩
      · have h0 : ltB 0 (((spanK []).length : Nat) : Int) = false := rfl
        have h9 : leN (((spanK []).length + 1) * 24) 140737488355328 = true := rfl
        rw [h0, h9]
        simp only [SB, Nat.reduceAdd]
        rw [hd1]
        simp only [SB, Nat.reduceAdd]
        have e5 := spanK_snoc [] (t, en, aF b kind t)
        simp only [List.nil_append] at e5
        have ht0 : t = frm := by
          obtain ⟨r, hr⟩ := hhead
          rw [← hd, hdn] at hr
          simp at hr
          exact hr.1
        have hgo := hih [(t, en, aF b kind t)] (.inr ⟨[], t, aF b kind t, by simp, by
          rw [hen]
          have := gl_one (A := aF b kind) hte hconst
          rw [ht0] at this ⊢
          exact this⟩) (by simp)
        rw [hi]
        exact hgo
      · have h0 : ltB 0 (((spanK (q ++ [(a, t, v)])).length : Nat) : Int) = true := by rw [spanK_len]; simp [ltB] <;> omega
        have hq : q.length ≤ 1000000 := by simp at hlen; have : done.length ≤ M.length := by rw [← hd]; simp
                                           omega
        have et : ∀ n : Nat, ((n : Nat) : Int).toNat = n := fun n => Int.toNat_natCast n
        have h9 : leN (((spanK (q ++ [(a, t, v)])).length + 1) * 24) 140737488355328 = true := by rw [spanK_len]; simp [leN]; omega
        simp only [List.headD_cons] at hg ⊢
        rw [h0, last_ix hq, last_in, et, nth_last, setEs_last, h9]
        have e3 : okCs [Sh.int IntKind.i64] (List.take 1 (List.drop 2 [PV.int .i64 a, PV.int .i64 t, PV.int .i64 v])) = true := rfl
        have e4 : (nth PV.nilp [PV.int .i64 a, PV.int .i64 t, PV.int .i64 v] 2).toInt = v := rfl
        rw [e3, e4]
        simp only [SB, Nat.reduceAdd]
        by_cases hv : aF b kind t = v
        · have : (v == aF b kind t) = true := by simp [hv]
          rw [this]
          simp only [SB, Nat.reduceAdd]
          rw [hi]
          refine hih (q ++ [(a, en, v)]) (.inr ⟨q, a, v, by rw [hen], ?_⟩) (by simp at hlen ⊢; omega)
          rw [hen]
          exact gl_ext hg (by omega) fun k hk1 hk2 => (hconst k hk1 hk2).trans hv
        · have : (v == aF b kind t) = false := by
            rw [beq_eq_false_iff_ne]; exact fun h => hv h.symm
          rw [this]
          simp only [SB, Nat.reduceAdd]
          rw [hd1]
          simp only [SB, Nat.reduceAdd]
          have e5 := spanK_snoc (q ++ [(a, t, v)]) (t, en, aF b kind t)
          simp only at e5
          rw [e5, hi]
          refine hih (q ++ [(a, t, v)] ++ [(t, en, aF b kind t)]) (.inr ⟨q ++ [(a, t, v)], t, aF b kind t, by rw [hen], ?_⟩) (by simp at hlen ⊢; omega)
          rw [hen]
          exact gl_app hg hv hte hconst

theorem c_SpansD (b : List En) (bs kind frm to : Int) (hws : ∀ e ∈ b, e.ws.length ≤ 1000000) : denC E 27 [AV.agg [PV.sl 3 (ensK b), PV.int .u64 bs], AV.int .i64 kind, AV.int .i64 frm, AV.int .i64 to] [] =
    some ([RV.p (PV.sl 3 (spanK (spanL b bs kind frm to))), RV.p (PV.int .i64 (spanE' b bs kind frm to))], []) := by
  rw [denC_eq, r27, c_CheckD b bs hws, ensK_len]
  simp only [SB, Nat.reduceAdd]
  by_cases hc : checkP b bs = 0
  · have hne : (checkP b bs != 0) = false := by simp [hc]
    rw [hne, ctl_false, c_timed]
    simp only [SB, Nat.reduceAdd]
    have hok := checkP_ok hc
    have hlen := checkP_len hc
    obtain ⟨hs1, hs2⟩ := runB_sorted (checkP_run hc)
    have hbnd : (!(wordsP kind == 1) || ltB frm 0 || ltB to frm || ltB 2147483648 to) = !decide (wordsP kind = 1 ∧ 0 ≤ frm ∧ frm ≤ to ∧ to ≤ 2147483648) := range_b _ _ _
    rw [hbnd]
    by_cases hq : wordsP kind = 1 ∧ 0 ≤ frm ∧ frm ≤ to ∧ to ≤ 2147483648
    · have he : spanE' b bs kind frm to = 0 := by unfold spanE'; rw [if_neg (by simp [hc]), if_pos hq]
      have hsl : spanL b bs kind frm to = spP (aF b kind) frm to := by unfold spanL; rw [if_pos he]
      rw [he, hsl, decide_eq_true hq, Bool.not_true, ctl_false]
      have hlp := l_SpD0 b bs kind frm to (by omega) b [] [frm] rfl (by simp)
      simp only [List.length_nil, Int.ofNat_zero] at hlp
      have e1 : intsK .i64 [frm] = [[PV.int .i64 frm]] := rfl
      rw [← e1, hlp]
      simp only [SB, Nat.reduceAdd]
      obtain ⟨i1, i2, i3, i4, ⟨r, i5⟩, i6⟩ := mk_all (frm := frm) (to := to) hs2 (m := [frm]) (fun x hx e _ h => by simp at hx; omega) (List.pairwise_singleton _ _) (fun x hx => by simp at hx; exact ⟨by omega, .inr hx⟩)
      generalize hMM : b.foldl (mkS frm to) [frm] = M at *
      rw [intsK_len]
      by_cases hft : frm < to
      · have hlp2 := l_SpD2 b bs kind frm to hok (by omega) M i1 (fun m hm => by have := i2 m hm; omega) ⟨r, by rw [i5]; rfl⟩ i4 (by simp at i6; omega) M [] [] rfl (.inl ⟨rfl, rfl⟩) (by simp)
        simp only [List.length_nil, Int.ofNat_zero] at hlp2
        have e2 : spanK [] = [] := rfl
        rw [e2] at hlp2
        rw [hlp2]
        simp only [SB, Nat.reduceAdd]
      · have hft' : frm = to := by omega
        have hr : r = [] := by
          cases r with
          | nil => rfl
          | cons y r =>
            exfalso
            have hy := i2 y (by rw [i5]; simp)
            rw [i5] at i1
            have := (List.pairwise_cons.1 i1).1 y (by simp)
            omega
        rw [hr] at i5
        simp only [List.append_nil] at i5
        subst i5
        rw [spP_eq (l := []) (by unfold gl; exact hft')]
        have hat := c_atD b bs kind frm hok (by omega)
        have hlp2 : lp E (denC E) 27 0 [] 2 { vals := [AV.int .i64 kind, AV.int .i64 to, AV.sl 1 (intsK .i64 [frm]), AV.sl 1 (intsK .i64 [frm]), AV.int .i64 (([frm].length : Nat) : Int), AV.int .i64 0], blks := [Blk.box [AV.sl 3 (ensK b), AV.int .u64 bs], Blk.arr 3 []] } = some (.exit 2, { vals := [], blks := [Blk.arr 3 []] }) := by
          rw [r27_2]
          have d1 : ltB frm to = false := by simp [ltB]; omega
          have a1 : ltB 0 (([frm].length : Nat) : Int) = true := rfl
          have a2 : IntKind.i64.wrap (0 + 1) = 1 := by decide +kernel
          rw [a1, ctl_true, getE_ints (by simp)]
          have a3 : ([frm] : List Int).getD (0 : Int).toNat 0 = frm := rfl
          have a4 : okCs [Sh.int IntKind.i64] [PV.int .i64 frm] = true := rfl
          have a5 : (nth PV.nilp [PV.int .i64 frm] 0).toInt = frm := rfl
          have a6 : ltB 1 (((intsK .i64 [frm]).length : Nat) : Int) = false := rfl
          rw [a3, a4, a5, ctl_true, a2, a6, ctl_false, hat]
          simp only [SB, Nat.reduceAdd]
          have a7 : ltB 0 ((([] : List (List PV)).length : Nat) : Int) = false := rfl
          rw [a7, d1]
          simp only [SB, Nat.reduceAdd]
          rw [r27_2]
          rfl
        rw [hlp2]
        simp only [SB, Nat.reduceAdd]
        rfl
    · have he : spanE' b bs kind frm to = 1 := by unfold spanE'; rw [if_neg (by simp [hc]), if_neg hq]
      have hsl : spanL b bs kind frm to = [] := by unfold spanL; rw [if_neg (by rw [he]; decide)]
      rw [he, hsl, decide_eq_false hq, Bool.not_false, ctl_true]
      rfl
  · have hne : (checkP b bs != 0) = true := by simpa using hc
    have he : spanE' b bs kind frm to = checkP b bs := by unfold spanE'; rw [if_pos hc]
    have hsl : spanL b bs kind frm to = [] := by unfold spanL; rw [if_neg (by rw [he]; exact hc)]
    rw [hne, ctl_true, he, hsl]
    rfl

def low (l : List Sp) : List Sp := l.filter fun x => decide (x.2.2 < 3)

theorem spansE_K : ∀ l : List Sp, spansE (spanK l) = some l
  | [] => rfl
  | x :: l => by
    have e : spanK (x :: l) = [PV.int .i64 x.1, PV.int .i64 x.2.1, PV.int .i64 x.2.2] :: spanK l := rfl
    rw [e]
    simp only [spansE, spanE, spansE_K l]

end Go.Proofs.YtkpdiagdjplbiaaGreatDoor.Vm

/- Contracts of chapter 36: degraded spans, entries and books out of numbers, the example. -/
namespace Go.Proofs.YtkpdiagdjplbiaaGreatDoor.Vm
set_option linter.unusedVariables false
set_option linter.unusedSimpArgs false

theorem spanL_bad {b : List En} {bs kind frm to : Int} (h : spanE' b bs kind frm to ≠ 0) : spanL b bs kind frm to = [] := by unfold spanL; rw [if_neg h]

theorem gl_cnt {b : List En} {kind : Int} : ∀ {l : List Sp} {s e : Int}, gl (aF b kind) s e l → ∀ T : List Int, T.Pairwise (· < ·) → (∀ x ∈ b, x.k = kind → s < x.t → x.t < e → x.t ∈ T) → l.length ≤ T.length + 1
  | [], _, _, _, _, _, _ => by simp
  | [x], _, _, _, _, _, _ => by simp
  | x :: y :: r, s, e, h, T, hT, hm => by
    obtain ⟨h1, h2, h3, h4, h5⟩ := h
    have h5' := h5
    obtain ⟨k1, k2, k3, k4, k5⟩ := h5
    have hne : y.2.2 ≠ x.2.2 := h4 y rfl
    -- the value changes at x's end: an entry stands there
    have hex : ∃ z ∈ b, z.k = kind ∧ z.t = x.2.1 := by
      by_cases hz : ∃ z ∈ b, z.k = kind ∧ z.t = x.2.1
      · exact hz
      · exfalso
        apply hne
        have a1 := k3 x.2.1 (Int.le_refl _) k2
        have a2 := h3 (x.2.1 - 1) (by omega) (by omega)
        rw [← a1, ← a2]
        refine aF_same fun z hzb hzk => ?_
        constructor
        · intro h; omega
        · intro h
          have : z.t ≠ x.2.1 := fun e => hz ⟨z, hzb, hzk, e⟩
          omega
    obtain ⟨z, hz1, hz2, hz3⟩ := hex
    have hle := gl_le h5'
    have hlt : x.2.1 < e := by
      have := gl_le k5; omega
    have hzT : x.2.1 ∈ T := hz3 ▸ hm z hz1 hz2 (by omega) (by omega)
    have := gl_cnt (l := y :: r) h5' (T.filter fun t => decide (x.2.1 < t)) (hT.filter _) (fun w hw hwk w1 w2 => by
      rw [List.mem_filter]
      exact ⟨hm w hw hwk (by omega) w2, by simpa using w1⟩)
    have hlen : (T.filter fun t => decide (x.2.1 < t)).length + 1 ≤ T.length := by
      have hs : ∀ (U : List Int), x.2.1 ∈ U → (U.filter fun t => decide (x.2.1 < t)).length + 1 ≤ U.length := fun U => by
        induction U with
        | nil => intro h; cases h
        | cons u U ih =>
          intro h
          have hle := List.length_filter_le (fun t => decide (x.2.1 < t)) U
          rcases List.mem_cons.1 h with rfl | h
          · rw [List.filter_cons_of_neg (by simp)]
            simp; omega
          · have := ih h
            by_cases hu : x.2.1 < u
            · rw [List.filter_cons_of_pos (by simpa using hu)]
              simp; omega
            · rw [List.filter_cons_of_neg (by simpa using hu)]
              simp; omega
      exact hs T hzT
    simp at this ⊢
    omega

theorem times_of : ∀ l : List En, l.Pairwise (fun a c => a.t ≤ c.t) → ∃ T : List Int, T.Pairwise (· < ·) ∧ (∀ x ∈ l, x.t ∈ T) ∧ (∀ t ∈ T, ∃ x ∈ l, x.t = t) ∧ T.length ≤ l.length
  | [], _ => ⟨[], List.Pairwise.nil, fun x hx => (List.not_mem_nil hx).elim, fun t ht => (List.not_mem_nil ht).elim, by simp⟩
  | e :: l, h => by
    obtain ⟨h1, h2⟩ := List.pairwise_cons.1 h
    obtain ⟨T, t1, t2, t3, t4⟩ := times_of l h2
    by_cases he : e.t ∈ T
    · exact ⟨T, t1, fun x hx => (List.mem_cons.1 hx).elim (fun h => h ▸ he) (t2 x), fun t ht => by obtain ⟨x, hx, hx2⟩ := t3 t ht; exact ⟨x, by simp [hx], hx2⟩, by simp; omega⟩
    · refine ⟨e.t :: T, List.pairwise_cons.2 ⟨fun t ht => ?_, t1⟩, fun x hx => (List.mem_cons.1 hx).elim (fun h => by simp [h]) (fun h => by simp [t2 x h]), fun t ht => ?_, by simp; omega⟩
      · obtain ⟨x, hx, rfl⟩ := t3 t ht
        have := h1 x hx
        rcases Int.lt_or_eq_of_le this with h | h
        · exact h
        · exact absurd (h ▸ ht) he
      · rcases List.mem_cons.1 ht with rfl | ht
        · exact ⟨e, by simp, rfl⟩
        · obtain ⟨x, hx, hx2⟩ := t3 t ht
          exact ⟨x, by simp [hx], hx2⟩

theorem spanL_cnt {b : List En} {bs kind frm to : Int} : (spanL b bs kind frm to).length ≤ 201 := by
  by_cases h : spanE' b bs kind frm to = 0
  · have hsl : spanL b bs kind frm to = spP (aF b kind) frm to := by unfold spanL; rw [if_pos h]
    have hc : checkP b bs = 0 := by
      unfold spanE' at h
      split at h
      · omega
      · rename_i hq; simpa using hq
    rw [hsl]
    unfold spP
    by_cases hx : ∃ l, gl (aF b kind) frm to l
    · rw [dif_pos hx]
      obtain ⟨_, hs⟩ := runB_sorted (checkP_run hc)
      obtain ⟨T, t1, t2, t3, t4⟩ := times_of b hs
      have := gl_cnt (Classical.choose_spec hx) T t1 (fun x hx _ _ _ => t2 x hx)
      have := checkP_len hc
      omega
    · rw [dif_neg hx]
      simp
  · rw [spanL_bad h]
    simp

theorem gl_ex (b : List En) (bs kind frm to : Int) (hc : checkP b bs = 0) (h : frm ≤ to) : ∃ l, gl (aF b kind) frm to l := by
  obtain ⟨_, hs⟩ := runB_sorted (checkP_run hc)
  by_cases hft : frm = to
  · exact ⟨[], hft⟩
  obtain ⟨T, t1, t2, t3, t4⟩ := times_of b hs
  -- by the times between, one after the other
  have key : ∀ (U : List Int) (p : Int) (q : List Sp) (a v : Int), U.Pairwise (· < ·) → (∀ t ∈ U, p ≤ t ∧ t < to) → (∀ x ∈ b, p < x.t → x.t < to → x.t ∈ U) → p < to → gl (aF b kind) frm (p + 1) (q ++ [(a, p + 1, v)]) → ∃ l, gl (aF b kind) frm to l := by
    intro U
    induction U with
    | nil =>
      intro p q a v _ _ hm hpt hg
      obtain ⟨g1, g2, g3⟩ := gl_lastv hg
      exact ⟨_, gl_ext hg (by omega) fun k k1 k2 => by
        rw [aF_same (p := p) fun x hx hxk => ?_]
        · exact g3 p (by omega) (by omega)
        · constructor
          · intro h; omega
          · intro h
            by_cases hx2 : x.t ≤ p
            · exact hx2
            · exact (List.not_mem_nil (hm x hx (by omega) (by omega))).elim⟩
    | cons t U ih =>
      intro p q a v hp hU hm hpt hg
      obtain ⟨g1, g2, g3⟩ := gl_lastv hg
      obtain ⟨u1, u2⟩ := hU t (.head _)
      obtain ⟨p1, p2⟩ := List.pairwise_cons.1 hp
      have hconst : ∀ k, p + 1 ≤ k → k < t → aF b kind k = v := fun k k1 k2 => by
        rw [aF_same (p := p) fun x hx hxk => ?_]
        · exact g3 p (by omega) (by omega)
        · constructor
          · intro h; omega
          · intro h
            by_cases hx2 : x.t ≤ p
            · exact hx2
            · have := hm x hx (by omega) (by omega)
              rcases List.mem_cons.1 this with h2 | h2
              · omega
              · have := p1 _ h2; omega
      have hU' : ∀ y ∈ U, t ≤ y ∧ y < to := fun y hy => ⟨by have := p1 y hy; omega, (hU y (.tail _ hy)).2⟩
      have hm' : ∀ x ∈ b, t < x.t → x.t < to → x.t ∈ U := fun x hx h1 h2 => by
        have := hm x hx (by omega) h2
        rcases List.mem_cons.1 this with h3 | h3
        · omega
        · exact h3
      by_cases hv : aF b kind t = v
      · refine ih t q a v p2 hU' hm' u2 (gl_ext hg (by omega) fun k k1 k2 => ?_)
        by_cases hkt : k < t
        · exact hconst k k1 hkt
        · have : k = t := by omega
          rw [this]; exact hv
      · have hlt : p < t := by
          rcases Int.lt_or_eq_of_le u1 with h | h
          · exact h
          · exact absurd (by rw [← h]; exact g3 p (by omega) (by omega)) hv
        refine ih t (q ++ [(a, t, v)]) t (aF b kind t) p2 hU' hm' u2 (gl_app (gl_ext hg (by omega) hconst) hv (by omega) fun k k1 k2 => ?_)
        have : k = t := by omega
        rw [this]
  refine key (T.filter fun t => decide (frm < t ∧ t < to)) frm [] frm (aF b kind frm) (t1.filter _) (fun t ht => ?_) (fun x hx h1 h2 => ?_) (by omega) (gl_one (by omega) fun k k1 k2 => ?_)
  · have := (List.mem_filter.1 ht).2
    simp only [decide_eq_true_eq] at this
    omega
  · rw [List.mem_filter]
    exact ⟨t2 x hx, by simp; omega⟩
  · have : k = frm := by omega
    rw [this]

end Go.Proofs.YtkpdiagdjplbiaaGreatDoor.Vm

/- Contracts of chapter 36: entries and books out of numbers. -/
namespace Go.Proofs.YtkpdiagdjplbiaaGreatDoor.Vm
set_option linter.unusedVariables false
set_option linter.unusedSimpArgs false

def okE (e : En) : Prop := (1 ≤ e.k ∧ e.k ≤ 8) ∧ (e.ws.length : Int) = wordsP e.k ∧ inside e.ws = true

theorem okE_valid {e : En} (h : okE e) (ht : 0 ≤ e.t ∧ e.t ≤ 2147483648) : validP e.t e.k e.ws = true := by
  unfold validP
  rw [decide_eq_true ht.1, decide_eq_true ht.2, decide_eq_true h.2.1, h.2.2]
  rfl

theorem okE_len {e : En} (h : okE e) : e.ws.length ≤ 4 := by
  have := h.2.1
  have := wordsP_le e.k
  omega

theorem inside_snoc (c : List Int) (x : Int) : inside (c ++ [x]) = (inside c && (decide (-1000000000 ≤ x) && decide (x ≤ 1000000000))) := by
  unfold inside
  rw [List.all_append]
  simp

theorem l_Entry {L : List Int} (hL : L.length ≤ 600) (t kd : Int) : ∀ (n k : Nat) (c : List Int), k ≤ 600 → n + c.length ≤ 100 → inside c = true → ∃ c' k', k' ≤ 600 ∧ c'.length = n + c.length ∧ inside c' = true ∧
    lp E (denC E) 22 1 [] 0 { vals := [AV.int .i64 (n : Int)], blks := [src L k, Blk.box [AV.int .i64 0, AV.int .i64 0, AV.sl 1 []], Blk.box [AV.int .i64 t, AV.int .i64 kd, AV.t (.hsl 3)], Blk.arr 1 (intsK .i64 c)] } =
      some (.exit 0, { vals := [], blks := [src L k', Blk.box [AV.int .i64 0, AV.int .i64 0, AV.sl 1 []], Blk.box [AV.int .i64 t, AV.int .i64 kd, AV.t (.hsl 3)], Blk.arr 1 (intsK .i64 c')] }) := by
  intro n
  induction n with
  | zero =>
    intro k c hk hc hi
    refine ⟨c, k, hk, by simp, hi, ?_⟩
    rw [r22_0]
    rfl
  | succ n ih =>
    intro k c hk hc hi
    have hp := c_Pick hL hk (l := [0, 1, 2, 3, -5, 1000000000, -1000000000]) (by simp)
    have hm := vPick_mem L k (l := [0, 1, 2, 3, -5, 1000000000, -1000000000]) (by simp)
    obtain ⟨c', k', h1, h2, h3, h4⟩ := ih (at' L k) (c ++ [vPick L k [0, 1, 2, 3, -5, 1000000000, -1000000000]]) (at'_le hL hk) (by simp; omega) (by
      rw [inside_snoc, hi]
      simp only [List.mem_cons, List.not_mem_nil, or_false] at hm
      have : -1000000000 ≤ vPick L k [0, 1, 2, 3, -5, 1000000000, -1000000000] ∧ vPick L k [0, 1, 2, 3, -5, 1000000000, -1000000000] ≤ 1000000000 := by omega
      simp [this.1, this.2])
    refine ⟨c', k', h1, by rw [h2]; simp; omega, h3, ?_⟩
    rw [r22_0]
    have hlt : ltB 0 ((n + 1 : Nat) : Int) = true := by simp [ltB] <;> omega
    have hw : IntKind.i64.wrap (((n + 1 : Nat) : Int) - 1) = (n : Int) := by rw [w64 (by omega)]; omega
    have e1 : intsK .i64 [0, 1, 2, 3, -5, 1000000000, -1000000000] = [[PV.int IntKind.i64 0], [PV.int IntKind.i64 1], [PV.int IntKind.i64 2], [PV.int IntKind.i64 3], [PV.int IntKind.i64 (-5)], [PV.int IntKind.i64 1000000000], [PV.int IntKind.i64 (-1000000000)]] := rfl
    rw [hlt, ctl_true, ← e1, hp]
    have h9 : leN (((intsK .i64 c).length + 1) * 8) 140737488355328 = true := by rw [intsK_len]; simp [leN]; omega
    simp only [SB, Nat.reduceAdd]
    rw [h9, ctl_true, hw, intsK_snoc]
    exact h4

theorem c_Entry {L : List Int} {k : Nat} (hL : L.length ≤ 600) (hk : k ≤ 600) (time : Int) : ∃ e k', k' ≤ 600 ∧ e.t = time ∧ okE e ∧
    denC E 22 [AV.t (.ptr 0 0), AV.int .i64 time] [src L k] = some ([RV.agg (enK e)], [src L k']) := by
  have hp := c_Pick hL hk (l := [1, 1, 2, 3, 4, 5, 6, 7, 8]) (by simp)
  have hm := vPick_mem L k (l := [1, 1, 2, 3, 4, 5, 6, 7, 8]) (by simp)
  generalize hx : vPick L k [1, 1, 2, 3, 4, 5, 6, 7, 8] = kd at *
  have h18 : 1 ≤ kd ∧ kd ≤ 8 := by
    simp only [List.mem_cons, List.not_mem_nil, or_false] at hm
    omega
  have e1 : intsK .i64 [1, 1, 2, 3, 4, 5, 6, 7, 8] = [[PV.int IntKind.i64 1], [PV.int IntKind.i64 1], [PV.int IntKind.i64 2], [PV.int IntKind.i64 3], [PV.int IntKind.i64 4], [PV.int IntKind.i64 5], [PV.int IntKind.i64 6], [PV.int IntKind.i64 7], [PV.int IntKind.i64 8]] := rfl
  obtain ⟨n, hn⟩ : ∃ n : Nat, wordsP kd = n := ⟨(wordsP kd).toNat, by
    have : kd = 1 ∨ kd = 2 ∨ kd = 3 ∨ kd = 4 ∨ kd = 5 ∨ kd = 6 ∨ kd = 7 ∨ kd = 8 := by omega
    rcases this with rfl | rfl | rfl | rfl | rfl | rfl | rfl | rfl <;> rfl⟩
  have hn4 : n ≤ 4 := by have := wordsP_le kd; omega
  obtain ⟨c', k', h1, h2, h3, h4⟩ := l_Entry hL time kd n (at' L k) [] (at'_le hL hk) (by simp; omega) rfl
  refine ⟨⟨time, kd, c'⟩, k', h1, rfl, ⟨h18, by rw [hn, h2]; simp, h3⟩, ?_⟩
  rw [denC_eq, r22, ← e1, hp]
  simp only [SB, Nat.reduceAdd]
  have e2 : (leB 0 kd && ltB kd 9) = true := by simp [leB, ltB]; omega
  have e3 : nth [] [[PV.int IntKind.i64 0], [PV.int IntKind.i64 1], [PV.int IntKind.i64 1], [PV.int IntKind.i64 1], [PV.int IntKind.i64 2], [PV.int IntKind.i64 2], [PV.int IntKind.i64 4], [PV.int IntKind.i64 2], [PV.int IntKind.i64 3]] kd.toNat = [PV.int .i64 (n : Int)] := by
    rw [← hn]
    have : kd = 1 ∨ kd = 2 ∨ kd = 3 ∨ kd = 4 ∨ kd = 5 ∨ kd = 6 ∨ kd = 7 ∨ kd = 8 := by omega
    rcases this with rfl | rfl | rfl | rfl | rfl | rfl | rfl | rfl <;> rfl
  have e4 : okCs [Sh.int IntKind.i64] (List.take 1 (List.drop 0 [PV.int .i64 (n : Int)])) = true := rfl
  have e5 : (nth PV.nilp [PV.int .i64 (n : Int)] 0).toInt = (n : Int) := rfl
  rw [e2, e3, e4, e5]
  have e6 : intsK .i64 [] = [] := rfl
  rw [e6] at h4
  simp only [SB, Nat.reduceAdd]
  rw [h4]
  simp only [SB, Nat.reduceAdd]
  rfl

theorem u64_rng (x : Int) : 0 ≤ IntKind.u64.wrap x ∧ IntKind.u64.wrap x ≤ 18446744073709551615 := by
  have h1 : IntKind.u64.wrap x = x % 18446744073709551616 := rfl
  rw [h1]
  omega

theorem sumB_rng : ∀ (s : List UInt8) (x : Int), 0 ≤ x ∧ x ≤ 18446744073709551615 → 0 ≤ sumB x s ∧ sumB x s ≤ 18446744073709551615
  | [], x, h => h
  | b :: s, x, h => by
    rw [sumB_cons]
    exact sumB_rng s _ (u64_rng _)

theorem runB_rng : ∀ {l : List En} {s p x : Int}, runB s p l = some x → 0 ≤ s ∧ s ≤ 18446744073709551615 → 0 ≤ x ∧ x ≤ 18446744073709551615
  | [], s, p, x, h, hs => by simp only [runB, Option.some.injEq] at h; omega
  | a :: l, s, p, x, h, hs => by
    simp only [runB] at h
    split at h
    · exact runB_rng h (sumB_rng _ _ hs)
    · cases h

theorem checkP_rng {b : List En} {s : Int} (h : checkP b s = 0) : 0 ≤ s ∧ s ≤ 18446744073709551615 := runB_rng (checkP_run h) (by decide)

theorem runB_snoc {e : En} (hv : validP e.t e.k e.ws = true) : ∀ {l : List En} {s p x : Int}, runB s p l = some x → p ≤ e.t → (∀ a ∈ l, a.t ≤ e.t) → runB s p (l ++ [e]) = some (sumB x (lineP e.t e.k e.ws))
  | [], s, p, x, h, hp, _ => by
    simp only [runB, Option.some.injEq] at h
    subst h
    simp [runB, hv, hp]
  | a :: l, s, p, x, h, hp, hl => by
    simp only [runB, List.cons_append] at h ⊢
    split at h
    · rename_i hq
      rw [if_pos hq]
      exact runB_snoc hv h (hl a (.head _)) (fun c hc => hl c (.tail _ hc))
    · cases h

theorem lateP_all {b : List En} {t : Int} (hs : b.Pairwise (fun a c => a.t ≤ c.t)) (h : lateP b t = true) : ∀ a ∈ b, a.t ≤ t := by
  rcases List.eq_nil_or_concat b with rfl | ⟨q, z, rfl⟩
  · intro a ha; cases ha
  · intro a ha
    have h1 : z.t ≤ t := by simpa [lateP, List.concat_eq_append] using h
    rw [List.concat_eq_append] at ha hs
    rcases List.mem_append.1 ha with ha | ha
    · have := (List.pairwise_append.1 hs).2.2 a ha z (by simp); omega
    · simp at ha; subst ha; exact h1

theorem checkP_snoc {b : List En} {s : Int} {e : En} (hc : checkP b s = 0) (hv : validP e.t e.k e.ws = true) (hl : lateP b e.t = true) (hn : b.length < 200) : checkP (b ++ [e]) (sumB s (lineP e.t e.k e.ws)) = 0 := by
  have hr := checkP_run hc
  obtain ⟨_, hs⟩ := runB_sorted hr
  have h0 : 0 ≤ e.t := (validP_all hv).1
  have := runB_snoc hv hr h0 (lateP_all hs hl)
  unfold checkP
  rw [if_neg (by simp; omega), if_pos this]

theorem checkP_nil : checkP [] begin36 = 0 := by decide

theorem appR_ok {b : List En} {s : Int} {e : En} (hc : checkP b s = 0) (hv : validP e.t e.k e.ws = true) (hl : lateP b e.t = true) (hn : b.length < 200) : appR b s e = [RV.agg [PV.sl 3 (ensK (b ++ [e])), PV.int .u64 (sumB s (lineP e.t e.k e.ws))], RV.p (PV.int .i64 0)] := by
  have : appE b s e = 0 := by unfold appE; rw [if_neg (by simp [hc, hv]), if_neg (by simp [hl]), if_neg (by omega)]
  unfold appR
  rw [if_pos this]

theorem lateP_of {b : List En} {t : Int} (h : ∀ a ∈ b, a.t ≤ t) : lateP b t = true := by
  unfold lateP
  split
  · rename_i a ha
    have := List.mem_of_getLast? ha
    simpa using h a this
  · rfl

theorem checkP_ws {b : List En} {s : Int} (h : checkP b s = 0) : ∀ e ∈ b, e.ws.length ≤ 1000000 := fun e he => by
  have := (validP_all (runB_ok (checkP_run h) e he)).2.2.2.2.1
  omega

theorem l_Book {L : List Int} (hL : L.length ≤ 600) (z0 : List (List PV)) (z1 : Int) : ∀ (n k : Nat) (b : List En) (s time : Int), k ≤ 600 → n + b.length ≤ 100 → checkP b s = 0 → 0 ≤ time → time + 3 * n ≤ 1000 → (∀ a ∈ b, a.t ≤ time) →
    ∃ b' s' k', k' ≤ 600 ∧ checkP b' s' = 0 ∧ b'.length = n + b.length ∧ (∀ a ∈ b', a.t ≤ time + 3 * n) ∧
    lp E (denC E) 6 1 [] 0 { vals := [AV.int .i64 time, AV.int .i64 (n : Int)], blks := [src L k, Blk.box [AV.sl 3 z0, AV.int .u64 z1], Blk.box [AV.sl 3 (ensK b), AV.int .u64 s]] } =
      some (.exit 0, { vals := [], blks := [src L k', Blk.box [AV.sl 3 z0, AV.int .u64 z1], Blk.box [AV.sl 3 (ensK b'), AV.int .u64 s']] }) := by
  intro n
  induction n with
  | zero =>
    intro k b s time hk hn hc ht0 ht1 hb
    refine ⟨b, s, k, hk, hc, by simp, by simpa using hb, ?_⟩
    rw [r6_0]
    rfl
  | succ n ih =>
    intro k b s time hk hn hc ht0 ht1 hb
    have hN := c_N hL hk 4 (by omega)
    have hbd := vN_bounds (L := L) (k := k) (n := 4) (by omega)
    obtain ⟨e, k1, hk1, het, hoe, hE⟩ := c_Entry hL (at'_le hL hk) (time + vN L k 4)
    have hv : validP e.t e.k e.ws = true := okE_valid hoe (by omega)
    have hla : lateP b e.t = true := lateP_of fun a ha => by have := hb a ha; omega
    have hA := c_AppendD b s e (checkP_ws hc) (by have := okE_len hoe; omega)
    rw [appR_ok hc hv hla (by omega)] at hA
    obtain ⟨b', s', k', h1, h2, h3, h4, h5⟩ := ih k1 (b ++ [e]) (sumB s (lineP e.t e.k e.ws)) (time + vN L k 4) hk1 (by simp; omega) (checkP_snoc hc hv hla (by omega)) (by omega) (by omega) (fun a ha => by
      rcases List.mem_append.1 ha with ha | ha
      · have := hb a ha; omega
      · simp at ha; subst ha; omega)
    refine ⟨b', s', k', h1, h2, by rw [h3]; simp; omega, fun a ha => by have := h4 a ha; omega, ?_⟩
    rw [r6_0]
    have hlt : ltB 0 ((n + 1 : Nat) : Int) = true := by simp [ltB] <;> omega
    have hw : IntKind.i64.wrap (((n + 1 : Nat) : Int) - 1) = (n : Int) := by rw [w64 (by omega)]; omega
    have hw2 : IntKind.i64.wrap (time + vN L k 4) = time + vN L k 4 := w64 (by omega)
    rw [hlt, ctl_true, hN]
    simp only [SB, Nat.reduceAdd]
    rw [hw2, hE]
    unfold enK at hA ⊢
    simp only [SB, Nat.reduceAdd]
    rw [hA]
    simp only [SB, Nat.reduceAdd]
    rw [hw]
    exact h5

theorem c_Book {L : List Int} {k : Nat} (hL : L.length ≤ 600) (hk : k ≤ 600) (most : Int) (hm : 0 ≤ most ∧ most ≤ 20) : ∃ b s k', k' ≤ 600 ∧ checkP b s = 0 ∧ (b.length : Int) ≤ most ∧ (∀ a ∈ b, a.t ≤ 60) ∧
    denC E 6 [AV.t (.ptr 0 0), AV.int .i64 most] [src L k] = some ([RV.agg [PV.sl 3 (ensK b), PV.int .u64 s]], [src L k']) := by
  have hN := c_N hL hk (most + 1) (by omega)
  have hbd := vN_bounds (L := L) (k := k) (n := most + 1) (by omega)
  obtain ⟨n, hn⟩ : ∃ n : Nat, vN L k (most + 1) = n := ⟨(vN L k (most + 1)).toNat, by omega⟩
  obtain ⟨b, s, k', h1, h2, h3, h4, h5⟩ := l_Book hL [] 0 n (at' L k) [] begin36 0 (at'_le hL hk) (by simp; omega) checkP_nil (by omega) (by omega) (fun a ha => (List.not_mem_nil ha).elim)
  refine ⟨b, s, k', h1, h2, by rw [h3]; simp; omega, fun a ha => by have := h4 a ha; omega, ?_⟩
  have e0 : ensK [] = [] := rfl
  rw [e0] at h5
  rw [denC_eq, r6, c_NewD]
  simp only [SB, Nat.reduceAdd]
  rw [w64 (n := most + 1) (by omega), hN]
  simp only [SB, Nat.reduceAdd]
  rw [hn, h5]
  simp only [SB, Nat.reduceAdd]

theorem setEs_ens {b : List En} {i : Nat} (h : i < b.length) (e : En) : setEs (ensK b) i 0 (enK e) = ensK (b.set i e) := by
  unfold setEs
  rw [upd_eq]
  have h1 : lay (nth [] (ensK b) i) 0 (enK e) = enK e := by
    rw [nth_eq]
    simp [ensK, List.getD, h, lay, lay.go, enK]
  rw [h1]
  simp [ensK, List.map_set]

theorem c_BentBook {L : List Int} {k : Nat} (hL : L.length ≤ 600) (hk : k ≤ 600) (b : List En) (s : Int) (hb : b.length ≤ 1000) (hws : ∀ e ∈ b, e.ws.length ≤ 1000000) (hs : 0 ≤ s ∧ s ≤ 18446744073709551615) : ∃ b' s' k', k' ≤ 600 ∧ b'.length ≤ b.length + 1 ∧ (∀ e ∈ b', e.ws.length ≤ 1000000) ∧ (0 ≤ s' ∧ s' ≤ 18446744073709551615) ∧
    denC E 7 [AV.t (.ptr 0 0), AV.agg [PV.sl 3 (ensK b), PV.int .u64 s]] [src L k] = some ([RV.agg [PV.sl 3 (ensK b'), PV.int .u64 s']], [src L k']) := by
  have hN := c_N hL hk 4 (by omega)
  have hbd := vN_bounds (L := L) (k := k) (n := 4) (by omega)
  have hk1 := at'_le hL hk
  have h0 : leN (b.length * 40) 140737488355328 = true := by simp [leN]; omega
  have h0' : leN ((b.length + 1) * 40) 140737488355328 = true := by simp [leN]; omega
  generalize hx : vN L k 4 = x at *
  have hx4 : x = 0 ∨ x = 1 ∨ x = 2 ∨ x = 3 := by omega
  rcases hx4 with rfl | rfl | rfl | rfl
  · refine ⟨b, _, _, hk1, by omega, hws, u64_rng (s + 1), ?_⟩
    rw [denC_eq, r7, ensK_len, h0, ctl_true, hN]
    rfl
  · obtain ⟨e, k2, hk2, het, hoe, hE⟩ := c_Entry hL hk1 0
    refine ⟨b ++ [e], s, k2, hk2, by simp, fun a ha => ?_, hs, ?_⟩
    · rcases List.mem_append.1 ha with ha | ha
      · exact hws a ha
      · simp at ha; subst ha; have := okE_len hoe; omega
    · rw [denC_eq, r7, ensK_len, h0, ctl_true, hN]
      simp only [SB, Nat.reduceAdd]
      have a1 : ((1 : Int) == 0) = false := rfl
      have a2 : ((1 : Int) == 1) = true := rfl
      rw [a1, a2]
      simp only [SB, Nat.reduceAdd]
      rw [hE, h0']
      unfold enK
      simp only [SB, Nat.reduceAdd]
      simp only [ensK, List.map_append, List.map_cons, List.map_nil]
      rfl
  · cases b with
    | nil =>
      refine ⟨[], s, _, hk1, by simp, fun a ha => (List.not_mem_nil ha).elim, hs, ?_⟩
      rw [denC_eq, r7, ensK_len, h0, ctl_true, hN]
      rfl
    | cons e b =>
      refine ⟨b, s, _, hk1, by simp; omega, fun a ha => hws a (.tail _ ha), hs, ?_⟩
      rw [denC_eq, r7, ensK_len, h0, ctl_true, hN]
      simp only [SB, Nat.reduceAdd]
      have a1 : ((2 : Int) == 0) = false := rfl
      have a2 : ((2 : Int) == 1) = false := rfl
      have a3 : ((2 : Int) == 2) = true := rfl
      have a4 : ltB 0 (((e :: b).length : Nat) : Int) = true := by simp [ltB] <;> omega
      have a5 : (leB 1 (((e :: b).length : Nat) : Int) && leB (((e :: b).length : Nat) : Int) (((e :: b).length : Nat) : Int)) = true := by simp [leB] <;> omega
      have a6 : cutI (ensK (e :: b)) 1 (((e :: b).length : Nat) : Int) = ensK b := by
        unfold cutI
        rw [Int.toNat_natCast]
        have : (ensK (e :: b)).take (e :: b).length = ensK (e :: b) := by rw [List.take_of_length_le]; rw [ensK_len]; exact Nat.le_refl _
        rw [this]
        rfl
      rw [a1, a2, a3, a4, a5, a6]
      simp only [SB, Nat.reduceAdd]
  · by_cases hb0 : 0 < b.length
    · have hN2 := c_N hL hk1 (b.length : Int) (by omega)
      have hbd2 := vN_bounds (L := L) (k := at' L k) (n := (b.length : Int)) (by omega)
      have hk2 := at'_le hL hk1
      have hN3 := c_N hL hk2 9 (by omega)
      have hk3 := at'_le hL hk2
      obtain ⟨e, k4, hk4, het, hoe, hE⟩ := c_Entry hL hk3 (vN L (at' L (at' L k)) 9)
      refine ⟨b.set (vN L (at' L k) (b.length : Int)).toNat e, s, k4, hk4, by simp, fun a ha => ?_, hs, ?_⟩
      · rcases List.mem_or_eq_of_mem_set ha with ha | ha
        · exact hws a ha
        · subst ha; have := okE_len hoe; omega
      · rw [denC_eq, r7, ensK_len, h0, ctl_true, hN]
        simp only [SB, Nat.reduceAdd]
        have a1 : ((3 : Int) == 0) = false := rfl
        have a2 : ((3 : Int) == 1) = false := rfl
        have a3 : ((3 : Int) == 2) = false := rfl
        have a4 : ltB 0 (b.length : Int) = true := by simp [ltB] <;> omega
        rw [a1, a2, a3, a4]
        simp only [SB, Nat.reduceAdd]
        rw [hN2]
        simp only [SB, Nat.reduceAdd]
        rw [hN3]
        simp only [SB, Nat.reduceAdd]
        rw [hE]
        have a5 : (leB 0 (vN L (at' L k) (b.length : Int)) && ltB (vN L (at' L k) (b.length : Int)) (b.length : Int)) = true := by
          simp [leB, ltB]; omega
        have a6 := setEs_ens (b := b) (i := (vN L (at' L k) (b.length : Int)).toNat) (by omega) e
        unfold enK at a6 ⊢
        simp only [SB, Nat.reduceAdd]
        rw [a5, a6]
        simp only [SB, Nat.reduceAdd]
    · have : b = [] := List.eq_nil_of_length_eq_zero (by omega)
      subst this
      refine ⟨[], s, _, hk1, by simp, fun a ha => (List.not_mem_nil ha).elim, hs, ?_⟩
      rw [denC_eq, r7, ensK_len, h0, ctl_true, hN]
      rfl

end Go.Proofs.YtkpdiagdjplbiaaGreatDoor.Vm
