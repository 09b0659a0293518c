import Derived.Test.YtpnpdkgdgfkpfaaGreatDoorSentG
import Derived.Lib.AtoiAllCases
/- Numbers and their texts: plain laws. -/
namespace Go.Proofs.YtpnpdkgdgfkpfaaGreatDoor.Vm
set_option linter.unusedVariables false
set_option linter.unusedSimpArgs false

def isD (b : UInt8) : Bool := decide (48 ≤ b.toNat) && decide (b.toNat ≤ 57)
def valD (acc : Nat) (l : List UInt8) : Nat := l.foldl (fun a b => 10 * a + (b.toNat - 48)) acc

theorem valD_snoc (acc : Nat) (l : List UInt8) (b : UInt8) : valD acc (l ++ [b]) = 10 * valD acc l + (b.toNat - 48) := by simp [valD]

theorem valD_ge (l : List UInt8) : ∀ acc, acc ≤ valD acc l := by
  induction l with
  | nil => intro acc; exact Nat.le_refl _
  | cons b l ih => intro acc; have := ih (10 * acc + (b.toNat - 48)); unfold valD at this ⊢; rw [List.foldl_cons]; omega

theorem valD_lt (l : List UInt8) (h : l.all isD = true) : ∀ acc, valD acc l < (acc + 1) * 10 ^ l.length := by
  induction l with
  | nil => intro acc; simp [valD]
  | cons b l ih =>
    intro acc
    simp only [List.all_cons, Bool.and_eq_true] at h
    have hb := h.1
    unfold isD at hb
    simp only [Bool.and_eq_true, decide_eq_true_eq] at hb
    have := ih h.2 (10 * acc + (b.toNat - 48))
    have h2 : (10 * acc + (b.toNat - 48) + 1) * 10 ^ l.length ≤ (10 * (acc + 1)) * 10 ^ l.length := Nat.mul_le_mul_right _ (by omega)
    have e : (acc + 1) * 10 ^ (b :: l).length = (10 * (acc + 1)) * 10 ^ l.length := by rw [List.length_cons, Nat.pow_succ]; ac_rfl
    rw [e]
    exact Nat.lt_of_lt_of_le this h2

theorem dec_small {u : Nat} (h : u < 10) : Lib.decDigits u = [UInt8.ofNat (48 + u)] := Lib.decDigits_one h

theorem dec_big {u : Nat} (h : ¬ u < 10) : Lib.decDigits u = Lib.decDigits (u / 10) ++ [UInt8.ofNat (48 + u % 10)] := by rw [Lib.decDigits, dif_neg h]

theorem digit_nat {u : Nat} (h : u < 10) : (UInt8.ofNat (48 + u)).toNat = 48 + u := by simp; omega

theorem isD_digit {u : Nat} (h : u < 10) : isD (UInt8.ofNat (48 + u)) = true := by
  unfold isD; rw [digit_nat h]; simp; omega

theorem dec_spec (u : Nat) : (Lib.decDigits u).all isD = true ∧ valD 0 (Lib.decDigits u) = u ∧ ∃ b r, Lib.decDigits u = b :: r ∧ (b = 48 → u = 0 ∧ r = []) := by
  induction u using Nat.strongRecOn with
  | _ u ih =>
    by_cases h : u < 10
    · rw [dec_small h]
      refine ⟨by rw [List.all_cons, isD_digit h]; rfl, by simp [valD, digit_nat h]; omega, _, _, rfl, fun e => ⟨?_, rfl⟩⟩
      have := congrArg UInt8.toNat e
      rw [digit_nat h] at this
      have e2 : (48 : UInt8).toNat = 48 := rfl
      omega
    · obtain ⟨h1, h2, b, r, h3, h4⟩ := ih (u / 10) (by omega)
      rw [dec_big h]
      refine ⟨by rw [List.all_append, h1, List.all_cons, isD_digit (u := u % 10) (by omega)]; rfl, ?_, b, r ++ [UInt8.ofNat (48 + u % 10)], by rw [h3]; rfl, fun e => ?_⟩
      · rw [valD_snoc, h2, digit_nat (by omega)]; omega
      · have := (h4 e).1; omega

theorem dec_len (k : Nat) : ∀ u : Nat, u < 10 ^ (k + 1) → (Lib.decDigits u).length ≤ k + 1 := by
  induction k with
  | zero => intro u h; rw [dec_small (by simpa using h)]; simp
  | succ k ih =>
    intro u h
    by_cases hu : u < 10
    · rw [dec_small hu]; simp
    · have := ih (u / 10) (by rw [Nat.pow_succ] at h; omega)
      rw [dec_big hu]; simp; omega

theorem dec_val : ∀ (n : Nat) (l : List UInt8), l.length = n → l.all isD = true → ∀ b r, l = b :: r → (b = 48 → r = []) → Lib.decDigits (valD 0 l) = l ∧ (b ≠ 48 → 1 ≤ valD 0 l) := by
  intro n
  induction n with
  | zero => intro l hl _ b r e; subst e; simp at hl
  | succ n ih =>
    intro l hl hd b r e h0
    by_cases hr : r = []
    · subst hr; subst e
      have hb : isD b = true := by simpa using hd
      unfold isD at hb
      simp only [Bool.and_eq_true, decide_eq_true_eq] at hb
      have hv : valD 0 [b] = b.toNat - 48 := by simp [valD]
      rw [hv, dec_small (by omega)]
      refine ⟨?_, fun hne => ?_⟩
      · have : 48 + (b.toNat - 48) = b.toNat := by omega
        rw [this]; simp
      · rcases Nat.eq_or_lt_of_le hb.1 with h | h
        · exact absurd (UInt8.toNat_inj.1 (by rw [← h]; rfl)) hne
        · omega
    · obtain ⟨q, d, rfl⟩ : ∃ q d, r = q ++ [d] := ⟨r.dropLast, r.getLast hr, (List.dropLast_concat_getLast hr).symm⟩
      have hb48 : b ≠ 48 := fun hb => hr (h0 hb)
      have e2 : l = (b :: q) ++ [d] := by rw [e]; rfl
      subst e2
      simp only [List.all_append, Bool.and_eq_true, List.all_cons, List.all_nil, Bool.and_true] at hd
      obtain ⟨i1, i2⟩ := ih (b :: q) (by simp at hl ⊢; omega) (by simp only [List.all_cons, Bool.and_eq_true]; exact hd.1) b q rfl (fun hb => absurd hb hb48)
      have hdd := hd.2
      unfold isD at hdd
      simp only [Bool.and_eq_true, decide_eq_true_eq] at hdd
      have i3 := i2 hb48
      rw [valD_snoc, dec_big (by omega)]
      have e3 : (10 * valD 0 (b :: q) + (d.toNat - 48)) / 10 = valD 0 (b :: q) := by omega
      have e4 : (10 * valD 0 (b :: q) + (d.toNat - 48)) % 10 = d.toNat - 48 := by omega
      rw [e3, e4, i1]
      have : 48 + (d.toNat - 48) = d.toNat := by omega
      rw [this]
      exact ⟨by simp, fun _ => by omega⟩

def magS (s : List UInt8) : List UInt8 := match s with | [] => [] | b :: r => if b = 45 then r else b :: r

def negS (s : List UInt8) : Bool := match s with | [] => false | b :: _ => b == 45
def num (s : List UInt8) : Option Int :=
  if (magS s).length < 1 ∨ 10 < (magS s).length ∨ ((magS s).head? = some 48 ∧ s ≠ [48]) ∨ (magS s).all isD = false then none
  else some (if negS s = true then -(valD 0 (magS s) : Int) else valD 0 (magS s))

theorem num_spec {s : List UInt8} {n : Int} (h : num s = some n) : Lib.itoa n = s ∧ -10000000000 < n ∧ n < 10000000000 := by
  unfold num at h
  split at h
  · cases h
  · rename_i hc
    cases h
    simp only [not_or, Nat.not_lt, not_and, Bool.not_eq_false] at hc
    obtain ⟨h1, h2, h3, h4⟩ := hc
    have hlt := valD_lt (magS s) h4 0
    have hp : 10 ^ (magS s).length ≤ 10 ^ 10 := Nat.pow_le_pow_right (by decide) h2
    have hp2 : (10 : Nat) ^ 10 = 10000000000 := by decide
    cases s with
    | nil => simp [magS] at h1
    | cons b r =>
      by_cases hb : b = 45
      · subst hb
        have e1 : magS (45 :: r) = r := rfl
        have e2 : negS (45 :: r) = true := rfl
        rw [e1] at h1 h2 h3 h4 hlt hp
        rw [e1, e2]
        simp only [if_true]
        cases r with
        | nil => simp at h1
        | cons c q =>
          have hc48 : c ≠ 48 := fun hc => by
            have := h3 (by rw [hc]; rfl)
            simp at this
          obtain ⟨i1, i2⟩ := dec_val _ (c :: q) rfl h4 c q rfl (fun h => absurd h hc48)
          have i3 := i2 hc48
          refine ⟨?_, by omega, by omega⟩
          unfold Lib.itoa
          rw [if_pos (by omega)]
          have : (-(valD 0 (c :: q) : Int)).natAbs = valD 0 (c :: q) := by omega
          rw [this, i1]
      · have e1 : magS (b :: r) = b :: r := by simp [magS, hb]
        have e2 : negS (b :: r) = false := by simp [negS, hb]
        rw [e1] at h1 h2 h3 h4 hlt hp
        rw [e1, e2]
        simp only [Bool.false_eq_true, if_false]
        obtain ⟨i1, i2⟩ := dec_val _ (b :: r) rfl h4 b r rfl (fun h => by
          have h5 : ((b :: r : List UInt8).head? = some 48 → (b :: r) = [48]) := fun h => by
            have := h3 h
            simpa using this
          have := h5 (by rw [h]; rfl)
          exact (List.cons.inj this).2)
        refine ⟨?_, by omega, by omega⟩
        unfold Lib.itoa
        rw [if_neg (by omega), Int.toNat_natCast, i1]

theorem num_itoa {n : Int} (h : -10000000000 < n ∧ n < 10000000000) : num (Lib.itoa n) = some n := by
  unfold Lib.itoa
  by_cases hn : n < 0
  · rw [if_pos hn]
    obtain ⟨h1, h2, b, r, h3, h4⟩ := dec_spec n.natAbs
    have hl := dec_len 9 n.natAbs (by omega)
    have e1 : magS (45 :: Lib.decDigits n.natAbs) = Lib.decDigits n.natAbs := rfl
    have e2 : negS (45 :: Lib.decDigits n.natAbs) = true := rfl
    unfold num
    rw [e1, e2, h2, if_neg, if_pos rfl]
    · congr 1; omega
    · simp only [not_or, Nat.not_lt, not_and, Bool.not_eq_false]
      refine ⟨by rw [h3]; simp, hl, fun h5 => ?_, h1⟩
      rw [h3] at h5
      have := (h4 (by simpa using h5)).1
      omega
  · rw [if_neg hn]
    obtain ⟨h1, h2, b, r, h3, h4⟩ := dec_spec n.toNat
    have hl := dec_len 9 n.toNat (by omega)
    have hb : b ≠ 45 := fun hb => by
      rw [h3] at h1
      simp only [List.all_cons, Bool.and_eq_true] at h1
      rw [hb] at h1
      exact absurd h1.1 (by decide)
    have e1 : magS (Lib.decDigits n.toNat) = Lib.decDigits n.toNat := by rw [h3]; simp [magS, hb]
    have e2 : negS (Lib.decDigits n.toNat) = false := by rw [h3]; simp [negS, hb]
    unfold num
    rw [e1, e2, h2, if_neg]
    · simp only [Bool.false_eq_true, if_false]; congr 1; omega
    · simp only [not_or, Nat.not_lt, not_and, Bool.not_eq_false]
      refine ⟨by rw [h3]; simp, hl, fun h5 => ?_, h1⟩
      rw [h3] at h5
      obtain ⟨h6, h7⟩ := h4 (by simpa using h5)
      rw [h6]
      simp [dec_small]

theorem parse_dec (l : List UInt8) (h : l.all isD = true) : ∀ acc, valD acc l < 1844674407370955162 → Lib.parseUint10 acc l = .ok (valD acc l) := by
  induction l with
  | nil => intro acc h; rfl
  | cons b l ih =>
    intro acc hv
    simp only [List.all_cons, Bool.and_eq_true] at h
    have hb := h.1
    unfold isD at hb
    simp only [Bool.and_eq_true, decide_eq_true_eq] at hb
    have hge := valD_ge l (10 * acc + (b.toNat - 48))
    have e : valD acc (b :: l) = valD (10 * acc + (b.toNat - 48)) l := rfl
    rw [e] at hv ⊢
    rw [Lib.parseUint10, if_pos hb, if_neg (by omega), if_neg (by omega), Nat.mul_comm acc 10, ih h.2 _ hv]

theorem atoi_itoa {n : Int} (h : -10000000000 < n ∧ n < 10000000000) : Lib.atoiAll (Lib.itoa n) = .ok n := by
  unfold Lib.itoa
  by_cases hn : n < 0
  · rw [if_pos hn]
    obtain ⟨h1, h2, b, r, h3, h4⟩ := dec_spec n.natAbs
    have hne : Lib.decDigits n.natAbs ≠ [] := by rw [h3]; simp
    have hp := parse_dec _ h1 0 (by rw [h2]; omega)
    rw [h2] at hp
    have e45 : (45 : UInt8).toNat = 45 := rfl
    unfold Lib.atoiAll Lib.parseMag
    simp only [e45, or_true, if_true, if_neg hne, hp, not_true, false_and, if_false, true_and]
    rw [if_neg (by omega)]
    congr 1; omega
  · rw [if_neg hn]
    obtain ⟨h1, h2, b, r, h3, h4⟩ := dec_spec n.toNat
    have hp := parse_dec _ h1 0 (by rw [h2]; omega)
    rw [h2] at hp
    rw [h3] at h1 hp ⊢
    simp only [List.all_cons, Bool.and_eq_true] at h1
    have hb := h1.1
    unfold isD at hb
    simp only [Bool.and_eq_true, decide_eq_true_eq] at hb
    have n43 : ¬ b.toNat = 43 := by omega
    have n45 : ¬ b.toNat = 45 := by omega
    unfold Lib.atoiAll Lib.parseMag
    simp only [n43, n45, or_self, if_false, reduceCtorEq, hp, not_false_eq_true, true_and, false_and]
    rw [if_neg (by omega)]
    congr 1; omega

def numA (s : List UInt8) : Option Int := if (atoiP s).2 = true ∧ Lib.itoa (atoiP s).1 = s ∧ -10000000000 < (atoiP s).1 ∧ (atoiP s).1 < 10000000000 then some (atoiP s).1 else none

theorem numA_eq (s : List UInt8) : numA s = num s := by
  unfold numA
  split
  · rename_i h
    rw [← num_itoa h.2.2, h.2.1]
  · rename_i h
    cases hs : num s with
    | none => rfl
    | some n =>
      obtain ⟨h1, h2⟩ := num_spec hs
      have h3 := atoi_itoa h2
      rw [h1] at h3
      exfalso
      apply h
      unfold atoiP
      rw [h3]
      exact ⟨rfl, h1, h2⟩

theorem fld_itoa {n : Int} (h : -10000000000 < n ∧ n < 10000000000) : fldB (Lib.itoa n) = true ∧ (Lib.itoa n).length ≤ 11 := by
  have key : ∀ u : Nat, u < 10000000000 → (Lib.decDigits u).all (fun b => !badB b) = true ∧ (Lib.decDigits u).length ≤ 10 := fun u hu => by
    obtain ⟨h1, _⟩ := dec_spec u
    refine ⟨List.all_eq_true.2 fun b hb => ?_, dec_len 9 u (by omega)⟩
    have := List.all_eq_true.1 h1 b hb
    unfold isD at this
    simp only [Bool.and_eq_true, decide_eq_true_eq] at this
    have hx : ∀ b : Nat, 48 ≤ b → b ≤ 57 → (!badB (UInt8.ofNat b)) = true := by
      intro b h1 h2
      have : ∀ b : Fin 58, 48 ≤ b.val → (!badB (UInt8.ofNat b.val)) = true := by decide +kernel
      exact this ⟨b, by omega⟩ h1
    have := hx b.toNat this.1 this.2
    simpa using this
  unfold Lib.itoa
  by_cases hn : n < 0
  · obtain ⟨h1, h2⟩ := key n.natAbs (by omega)
    rw [if_pos hn]
    refine ⟨?_, by simp; omega⟩
    unfold fldB
    have e : ltB 20 ((45 :: Lib.decDigits n.natAbs : List UInt8).length : Int) = false := decide_eq_false (by simp; omega)
    rw [e, List.all_cons, h1]; rfl
  · obtain ⟨h1, h2⟩ := key n.toNat (by omega)
    rw [if_neg hn]
    refine ⟨?_, by omega⟩
    unfold fldB
    have e : ltB 20 ((Lib.decDigits n.toNat).length : Int) = false := decide_eq_false (by omega)
    rw [e, h1]; rfl

end Go.Proofs.YtpnpdkgdgfkpfaaGreatDoor.Vm

/- Contracts of chapter 06: numbers and their texts. -/
namespace Go.Proofs.YtpnpdkgdgfkpfaaGreatDoor.Vm
set_option linter.unusedVariables false
set_option linter.unusedSimpArgs false

theorem c_Itoa (n : Int) (h : -9223372036854775808 ≤ n ∧ n ≤ 9223372036854775807) : denC E 59 [AV.int .i64 n] [] = some ([RV.p (PV.str (Lib.itoa n))], []) := by
  rw [denC_eq]
  have : funK E (denC E) 59 [AV.int .i64 n] [] = match pItoa [AV.int .i64 n] with | some rs => some (rs, []) | none => none := by kernel_rfl
  rw [this]
  unfold pItoa
  simp only [h, and_self, if_true]

theorem c_Atoi (s : List UInt8) (h : s.length ≤ 281474976710656) : denC E 58 [AV.str s] [] = some ([RV.p (PV.int .i64 (atoiP s).1), RV.p (PV.ifc (atoiP s).2)], []) := by
  rw [denC_eq]
  have : funK E (denC E) 58 [AV.str s] [] = match pAtoi [AV.str s] with | some rs => some (rs, []) | none => none := by kernel_rfl
  rw [this]
  unfold pAtoi
  simp only [h, if_true]

theorem c_STx (n : Int) (h : -9223372036854775808 ≤ n ∧ n ≤ 9223372036854775807) : denC E 46 [AV.int .i64 n] [] = some ([RV.p (PV.str (Lib.itoa n))], []) := by
  rw [denC_eq, r46, c_Itoa n h]
  simp only [SB, Nat.reduceAdd]

theorem atoi_bounds (s : List UInt8) : -9223372036854775808 ≤ (atoiP s).1 ∧ (atoiP s).1 ≤ 9223372036854775807 := by
  unfold atoiP
  cases h : Lib.atoiAll s
  · exact Lib.atoiAll_bounds h
  · show -9223372036854775808 ≤ (0 : Int) ∧ (0 : Int) ≤ 9223372036854775807; omega
  · exact Lib.atoiSat_bounds s

def numI (s : List UInt8) : Int := (num s).getD 0

def numB (s : List UInt8) : Bool := (num s).isSome

theorem res_none {s : List UInt8} (h : num s = none) : (some ([RV.p (PV.int .i64 0), RV.p (PV.bool false)], []) : Option Res) = some ([RV.p (PV.int .i64 (numI s)), RV.p (PV.bool (numB s))], []) := by
  unfold numI numB; rw [h]; rfl

theorem res_some {s : List UInt8} {v : Int} (h : num s = some v) : (some ([RV.p (PV.int .i64 v), RV.p (PV.bool true)], []) : Option Res) = some ([RV.p (PV.int .i64 (numI s)), RV.p (PV.bool (numB s))], []) := by
  unfold numI numB; rw [h]; rfl

theorem c_Number (s : List UInt8) (h : s.length ≤ 1000000) : denC E 29 [AV.str s] [] = some ([RV.p (PV.int .i64 (numI s)), RV.p (PV.bool (numB s))], []) := by
  rw [denC_eq, r29, c_Atoi s (by omega)]
  have hn := numA_eq s
  unfold numA at hn
  have hbd := atoi_bounds s
  have ok1 : ∀ b, okR [RSh.one Sh.ifc] [RV.p (PV.ifc b)] = true := fun _ => rfl
  have e0 : ∀ b, PV.toNil (.ifc b) = b := fun _ => rfl
  simp only [ok1, e0, SB, Nat.reduceAdd]
  rw [c_Itoa _ hbd]
  generalize (atoiP s).1 = v at hn
  simp only [SB, Nat.reduceAdd]
  cases ha : (atoiP s).2 with
  | false =>
    rw [ha] at hn
    simp only [Bool.not_false, Bool.not_true, Bool.true_or, SB, Nat.reduceAdd]
    exact res_none (by rw [← hn, if_neg (by simp)])
  | true =>
    rw [ha] at hn
    simp only [true_and] at hn
    simp only [Bool.not_true, Bool.not_false, Bool.false_or, Bool.or_false, SB, Nat.reduceAdd]
    by_cases h1 : Lib.itoa v = s
    · have e1 : (Lib.itoa v == s) = true := by simpa using h1
      rw [e1]
      by_cases h2 : -10000000000 < v
      · have e2 : leB v (-10000000000) = false := decide_eq_false (by omega)
        rw [e2]
        by_cases h3 : v < 10000000000
        · have e3 : leB 10000000000 v = false := decide_eq_false (by omega)
          rw [e3]
          exact res_some (by rw [← hn, if_pos ⟨h1, h2, h3⟩])
        · have e3 : leB 10000000000 v = true := decide_eq_true (by omega)
          rw [e3]
          exact res_none (by rw [← hn, if_neg (fun hh => h3 hh.2.2)])
      · have e2 : leB v (-10000000000) = true := decide_eq_true (by omega)
        rw [e2]
        exact res_none (by rw [← hn, if_neg (fun hh => h2 hh.2.1)])
    · have e1 : (Lib.itoa v == s) = false := by simpa using h1
      rw [e1]
      exact res_none (by rw [← hn, if_neg (fun hh => h1 hh.1)])

end Go.Proofs.YtpnpdkgdgfkpfaaGreatDoor.Vm

/- Contracts of chapter 06: signals, their sentences. -/
namespace Go.Proofs.YtpnpdkgdgfkpfaaGreatDoor.Vm
set_option linter.unusedVariables false
set_option linter.unusedSimpArgs false

structure Sig where
  (k s t a b c : Int)
deriving DecidableEq

abbrev sgC (x : Sig) : List PV := [PV.int .i64 x.k, PV.int .i64 x.s, PV.int .i64 x.t, PV.int .i64 x.a, PV.int .i64 x.b, PV.int .i64 x.c]

def formL : List (List UInt8 × List (Int × Int)) := [([70, 73, 88], [(-100000000, 100000000), (-100000000, 100000000), (1, 100000)]), ([72, 68, 71], [(0, 3599)]), ([87, 78, 68], [(0, 3599), (0, 10000)]),
  ([84, 72, 82], [(0, 5000), (0, 3599)]), ([66, 82, 75], [(0, 1)]), ([71, 69, 78], [(0, 50000), (0, 6000), (0, 3599)])]

def spK (l : List (Int × Int)) : List (List PV) := l.map fun p => [PV.int .i64 p.1, PV.int .i64 p.2]

def formK : List (List PV) := formL.map fun f => [PV.str f.1, PV.sl 2 (spK f.2)]

def formAt (k : Int) : List UInt8 × List (Int × Int) := formL.getD (k - 1).toNat ([], [])

theorem c_forms : denC E 31 [] [] = some ([RV.p (PV.sl 2 formK)], []) := by
  rw [denC_eq, r31]; rfl

def inR (x lo hi : Int) : Bool := leB lo x && leB x hi

theorem c_has (lo hi n : Int) : denC E 45 [AV.agg [PV.int .i64 lo, PV.int .i64 hi], AV.int .i64 n] [] = some ([RV.p (PV.bool (inR n lo hi))], []) := by
  rw [denC_eq, r45]
  simp only [SB, Nat.reduceAdd]
  rfl

theorem k6 {k : Int} (h : 1 ≤ k ∧ k ≤ 6) : k = 1 ∨ k = 2 ∨ k = 3 ∨ k = 4 ∨ k = 5 ∨ k = 6 := by omega

theorem n3 {k : Int} (h : 1 ≤ k ∧ k ≤ 6) : (formAt k).2.length = 1 ∨ (formAt k).2.length = 2 ∨ (formAt k).2.length = 3 := by
  rcases k6 h with rfl | rfl | rfl | rfl | rfl | rfl <;> decide

def okAt (sp : List (Int × Int)) (j : Nat) (v : Int) : Bool := match sp[j]? with | some p => inR v p.1 p.2 | none => v == 0

def valS (x : Sig) : Bool := inR x.k 1 6 && inR x.s 0 99 && inR x.t 0 2147483648 && okAt (formAt x.k).2 0 x.a && okAt (formAt x.k).2 1 x.b && okAt (formAt x.k).2 2 x.c

theorem getE_form {α : Type} {k : Int} (h : 1 ≤ k ∧ k ≤ 6) (K : List PV → Option α) : getE formK (IntKind.i64.wrap (k - 1)) K = K [PV.str (formAt k).1, PV.sl 2 (spK (formAt k).2)] := by
  rcases k6 h with rfl | rfl | rfl | rfl | rfl | rfl <;> rfl

theorem getE_sp {α : Type} {sp : List (Int × Int)} {j : Nat} (h : j < sp.length) (K : List PV → Option α) : getE (spK sp) (j : Int) K = K [PV.int .i64 sp[j].1, PV.int .i64 sp[j].2] := by
  unfold getE
  have h1 : leB 0 (j : Int) = true := decide_eq_true (by omega)
  have h2 : ltB (j : Int) ((spK sp).length : Int) = true := decide_eq_true (by simp [spK]; exact h)
  rw [h1, h2]
  simp only [Bool.and_self, ctl_true, Int.toNat_natCast]
  rw [nth_eq]
  simp [spK, List.getD, h]

theorem s_Valid (sp : List (Int × Int)) (va vb vc : Int) (j : Nat) (hj : j < 3) (v : Int) (hg : ∀ K : List PV → Option (Ex × Pack), getE [[PV.int IntKind.i64 va], [PV.int IntKind.i64 vb], [PV.int IntKind.i64 vc]] (j : Int) K = K [PV.int .i64 v]) :
    lp E (denC E) 21 0 [] 0 { vals := [AV.sl 2 (spK sp), AV.sl 1 [[PV.int IntKind.i64 va], [PV.int IntKind.i64 vb], [PV.int IntKind.i64 vc]], AV.int .i64 3, AV.int .i64 (j : Int)], blks := [] } =
    bif okAt sp j v then lp E (denC E) 21 0 [] 0 { vals := [AV.sl 2 (spK sp), AV.sl 1 [[PV.int IntKind.i64 va], [PV.int IntKind.i64 vb], [PV.int IntKind.i64 vc]], AV.int .i64 3, AV.int .i64 ((j : Int) + 1)], blks := [] }
    else some (Ex.ret, { vals := [AV.bool false], blks := [] }) := by
  have hsl : ((spK sp).length : Int) = (sp.length : Int) := by simp [spK]
  rw [r21_0, ctl_dec, if_pos (by omega), hg, w64 (by omega), hsl]
  simp only [SB, Nat.reduceAdd]
  unfold okAt
  by_cases h : j < sp.length
  · have e1 : ltB (j : Int) (sp.length : Int) = true := decide_eq_true (by omega)
    have e2 : leB (sp.length : Int) (j : Int) = false := decide_eq_false (by omega)
    rw [e1, e2, getE_sp h, List.getElem?_eq_getElem h]
    simp only [SB, Nat.reduceAdd]
    rw [c_has]
    simp only [SB, Nat.reduceAdd]
    cases inR v sp[j].1 sp[j].2 <;> rfl
  · have e1 : ltB (j : Int) (sp.length : Int) = false := decide_eq_false (by omega)
    have e2 : leB (sp.length : Int) (j : Int) = true := decide_eq_true (by omega)
    rw [e1, e2, List.getElem?_eq_none (by omega)]
    simp only [SB, Nat.reduceAdd]
    have e3 : (v != 0) = !(v == 0) := rfl
    rw [e3]
    cases v == 0 <;> rfl

theorem c_SValid (x : Sig) : denC E 21 [AV.agg (sgC x)] [] = some ([RV.p (PV.bool (valS x))], []) := by
  rw [denC_eq, r21, c_forms, c_has, c_has]
  simp only [SB, Nat.reduceAdd]
  have hl : (formK.length : Int) = 6 := rfl
  rw [hl]
  unfold valS
  by_cases hk : 1 ≤ x.k ∧ x.k ≤ 6
  · have e1 : ltB x.k 1 = false := decide_eq_false (by omega)
    have e2 : ltB 6 x.k = false := decide_eq_false (by omega)
    have e3 : inR x.k 1 6 = true := by
      unfold inR
      rw [show leB 1 x.k = true from decide_eq_true hk.1, show leB x.k 6 = true from decide_eq_true hk.2]; rfl
    rw [e1, e2, e3, getE_form hk]
    simp only [SB, Nat.reduceAdd]
    rw [show (AV.int IntKind.i64 0) = AV.int .i64 ((0 : Nat) : Int) from rfl, s_Valid _ _ _ _ 0 (by omega) x.a (fun K => rfl)]
    cases inR x.s 0 99 <;> simp only [Bool.true_and, Bool.false_and, Bool.not_true, Bool.not_false, Bool.or_true, Bool.true_or, Bool.false_or, Bool.or_false, SB, Nat.reduceAdd]
    cases inR x.t 0 2147483648 <;> simp only [Bool.true_and, Bool.false_and, Bool.not_true, Bool.not_false, Bool.or_true, Bool.true_or, Bool.false_or, Bool.or_false, SB, Nat.reduceAdd]
    cases okAt (formAt x.k).2 0 x.a <;> simp only [Bool.true_and, Bool.false_and, SB, Nat.reduceAdd]
    rw [show (AV.int IntKind.i64 (((0 : Nat) : Int) + 1)) = AV.int .i64 ((1 : Nat) : Int) from rfl, s_Valid _ _ _ _ 1 (by omega) x.b (fun K => rfl)]
    cases okAt (formAt x.k).2 1 x.b <;> simp only [Bool.true_and, Bool.false_and, SB, Nat.reduceAdd]
    rw [show (AV.int IntKind.i64 (((1 : Nat) : Int) + 1)) = AV.int .i64 ((2 : Nat) : Int) from rfl, s_Valid _ _ _ _ 2 (by omega) x.c (fun K => rfl)]
    cases okAt (formAt x.k).2 2 x.c <;> simp only [Bool.true_and, Bool.false_and, SB, Nat.reduceAdd]
    rw [r21_0]
    rfl
  · have e3 : inR x.k 1 6 = false := by
      unfold inR
      by_cases h1 : 1 ≤ x.k
      · rw [show leB x.k 6 = false from decide_eq_false (fun h => hk ⟨h1, h⟩), Bool.and_false]
      · rw [show leB 1 x.k = false from decide_eq_false h1, Bool.false_and]
    have e4 : (ltB x.k 1 || ltB 6 x.k) = true := by
      by_cases h1 : 1 ≤ x.k
      · rw [show ltB 6 x.k = true from decide_eq_true (by omega), Bool.or_true]
      · rw [show ltB x.k 1 = true from decide_eq_true (by omega), Bool.true_or]
    rw [e3, e4]
    simp only [Bool.true_and, Bool.false_and, Bool.not_true, Bool.not_false, Bool.or_true, Bool.true_or, Bool.false_or, Bool.or_false, SB, Nat.reduceAdd]

theorem v_of (k s t a b c : Int) (w1 w2 w3 : Bool) (hk : inR k 1 6 = true) (h1 : okAt (formAt k).2 0 a = w1) (h2 : okAt (formAt k).2 1 b = w2) (h3 : okAt (formAt k).2 2 c = w3) : valS ⟨k, s, t, a, b, c⟩ = (inR s 0 99 && inR t 0 2147483648 && w1 && w2 && w3) := by
  unfold valS
  simp only [hk, h1, h2, h3, Bool.true_and]

theorem inR_iff {x lo hi : Int} : inR x lo hi = true ↔ lo ≤ x ∧ x ≤ hi := by
  unfold inR; simp

theorem val_bounds {x : Sig} (h : valS x = true) : (1 ≤ x.k ∧ x.k ≤ 6) ∧ (0 ≤ x.s ∧ x.s ≤ 99) ∧ (0 ≤ x.t ∧ x.t ≤ 2147483648) ∧ (-100000000 ≤ x.a ∧ x.a ≤ 100000000) ∧ (-100000000 ≤ x.b ∧ x.b ≤ 100000000) ∧ (-100000000 ≤ x.c ∧ x.c ≤ 100000000) := by
  obtain ⟨k, s, t, a, b, c⟩ := x
  unfold valS at h
  simp only [Bool.and_eq_true, inR_iff] at h
  obtain ⟨⟨⟨⟨⟨h1, h2⟩, h3⟩, h4⟩, h5⟩, h6⟩ := h
  refine ⟨h1, h2, h3, ?_⟩
  rcases k6 h1 with rfl | rfl | rfl | rfl | rfl | rfl <;> simp [okAt, formAt, formL, inR_iff] at h4 h5 h6 <;> refine ⟨?_, ?_, ?_⟩ <;> simp only <;> omega

def wr (x : Sig) : List (List UInt8) := (formAt x.k).1 :: ([x.s, x.t, x.a, x.b, x.c].take (2 + (formAt x.k).2.length)).map Lib.itoa

theorem l_write (b0 : List (List PV)) (l : List Int) : ∀ (pre : List Int) (done : List (List UInt8)), (pre ++ l).length ≤ 1000 → done.length + l.length ≤ 1000 → (∀ n ∈ l, -9223372036854775808 ≤ n ∧ n ≤ 9223372036854775807) →
    lp E (denC E) 22 0 [] 0 { vals := [AV.sl 1 (intsK .i64 (pre ++ l)), AV.int .i64 (pre ++ l).length, AV.int .i64 pre.length], blks := [Blk.box [AV.sl 1 b0], Blk.arr 1 (strsK done)] } =
    some (Ex.exit 0, { vals := [], blks := [Blk.box [AV.sl 1 b0], Blk.arr 1 (strsK (done ++ l.map Lib.itoa))] }) := by
  induction l with
  | nil =>
    intro pre done h hd hl
    rw [r22_0, ctl_dec, if_neg (by simp), List.map_nil, List.append_nil]
  | cons b l ih =>
    intro pre done h hd hl
    rw [r22_0, ctl_dec, if_pos (by simp; omega), getE_ints (by simp; omega)]
    simp only [Int.toNat_natCast, getD_mid, SB, Nat.reduceAdd]
    rw [c_STx b (hl b (by simp))]
    simp only [SB, Nat.reduceAdd]
    have e : strsK done ++ [[PV.str (Lib.itoa b)]] = strsK (done ++ [Lib.itoa b]) := by simp [strsK]
    rw [strsK_length, ctl_dec, if_pos (by simp at hd; omega), w64 (by simp at h; omega), len_snoc pre b, app_cons, e, ih (pre ++ [b]) (done ++ [Lib.itoa b]) (by simpa using h) (by simp at hd ⊢; omega) (fun n hn => hl n (by simp [hn]))]
    simp

theorem cut_ints (l : List Int) (n : Nat) : cutI (intsK .i64 l) 0 (n : Int) = intsK .i64 (l.take n) := by
  unfold cutI intsK
  simp [List.map_take]

theorem c_write {x : Sig} (hv : valS x = true) : denC E 22 [AV.agg (sgC x)] [] = some ([RV.agg [PV.sl 1 (strsK (wr x))]], []) := by
  obtain ⟨hk, h1, h2, h3, h4, h5⟩ := val_bounds hv
  have hn := n3 hk
  have hsl : ((spK (formAt x.k).2).length : Int) = ((formAt x.k).2.length : Int) := by simp [spK]
  rw [denC_eq, r22, c_forms]
  simp only [SB, Nat.reduceAdd]
  rw [getE_form hk]
  simp only [SB, Nat.reduceAdd]
  rw [hsl, w64 (by omega)]
  have e1 : ((2 : Int) + ((formAt x.k).2.length : Int)) = ((2 + (formAt x.k).2.length : Nat) : Int) := by omega
  have e2 : (leB 0 ((2 + (formAt x.k).2.length : Nat) : Int) && leB ((2 + (formAt x.k).2.length : Nat) : Int) 5) = true := by
    rw [show leB 0 ((2 + (formAt x.k).2.length : Nat) : Int) = true from decide_eq_true (by omega), show leB ((2 + (formAt x.k).2.length : Nat) : Int) 5 = true from decide_eq_true (by omega)]; rfl
  have e3 : ([[PV.int IntKind.i64 x.s], [PV.int IntKind.i64 x.t], [PV.int IntKind.i64 x.a], [PV.int IntKind.i64 x.b], [PV.int IntKind.i64 x.c]] : List (List PV)) = intsK .i64 [x.s, x.t, x.a, x.b, x.c] := rfl
  rw [e1, e2, e3, cut_ints]
  simp only [ctl_true]
  have hlp := l_write [] ([x.s, x.t, x.a, x.b, x.c].take (2 + (formAt x.k).2.length)) [] [(formAt x.k).1] (by simp; omega) (by simp; omega) (fun n hn => by
    have := List.mem_of_mem_take hn
    simp at this
    rcases this with rfl | rfl | rfl | rfl | rfl <;> omega)
  simp only [List.nil_append, List.length_nil, Int.natCast_zero] at hlp
  rw [intsK_length, show ([[PV.str (formAt x.k).1]] : List (List PV)) = strsK [(formAt x.k).1] from rfl, hlp]
  simp only [SB, Nat.reduceAdd]
  rfl

def wrP (x : Sig) : PV × Int := if valS x = true then (.sl 1 (strsK (wr x)), 0) else (.nils, 5)

theorem c_Write (x : Sig) : denC E 9 [AV.agg (sgC x)] [] = some ([RV.agg [(wrP x).1], RV.p (PV.int .i64 (wrP x).2)], []) := by
  rw [denC_eq, r9, c_SValid]
  simp only [SB, Nat.reduceAdd]
  unfold wrP
  cases hv : valS x with
  | false => rfl
  | true =>
    simp only [SB, Nat.reduceAdd]
    rw [c_write hv]
    simp only [SB, Nat.reduceAdd]
    rfl

end Go.Proofs.YtpnpdkgdgfkpfaaGreatDoor.Vm

/- Contracts of chapter 06: reading signals. -/
namespace Go.Proofs.YtpnpdkgdgfkpfaaGreatDoor.Vm
set_option linter.unusedVariables false
set_option linter.unusedSimpArgs false

def idxF : List (List UInt8 × List (Int × Int)) → List UInt8 → Int
  | [], _ => -1
  | f :: l, w => if (f.1 == w) = true then 0 else if (idxF l w == -1) = true then -1 else idxF l w + 1

theorem idxF_ge (l : List (List UInt8 × List (Int × Int))) (w : List UInt8) : -1 ≤ idxF l w ∧ idxF l w < (l.length : Int) := by
  induction l with
  | nil => simp [idxF]
  | cons f l ih =>
    unfold idxF
    split
    · exact ⟨by omega, by simp only [List.length_cons]; omega⟩
    · split
      · exact ⟨by omega, by simp only [List.length_cons]; omega⟩
      · exact ⟨by omega, by simp only [List.length_cons]; omega⟩

def kindOf (w : List UInt8) : Int := idxF formL w + 1

theorem kind_b (w : List UInt8) : 0 ≤ kindOf w ∧ kindOf w ≤ 6 := by
  have := idxF_ge formL w
  unfold kindOf
  have e : (formL.length : Int) = 6 := rfl
  omega

theorem kind_at (k : Int) (h : 1 ≤ k ∧ k ≤ 6) : kindOf (formAt k).1 = k := by
  rcases k6 h with rfl | rfl | rfl | rfl | rfl | rfl <;> decide +kernel

theorem c_Readf (w : List UInt8) (sp : List (List PV)) (z : List (List UInt8)) (u : List UInt8) : denC E 32 [AV.agg [PV.str w, PV.sl 2 sp], AV.t (.ptr 0 0)] [Blk.box [AV.sl 1 (strsK (u :: z))]] = some ([RV.p (PV.bool (w == u))], [Blk.box [AV.sl 1 (strsK (u :: z))]]) := by
  rw [denC_eq, r32]
  have := getE_strs (α := Res) (s := u :: z) (i := 0) (by simp only [List.length_cons]; omega)
  rw [this]
  simp only [SB, Nat.reduceAdd]
  rfl

def fK (l : List (List UInt8 × List (Int × Int))) : List (List PV) := l.map fun f => [PV.str f.1, PV.sl 2 (spK f.2)]

theorem fK_length (l : List (List UInt8 × List (Int × Int))) : (fK l).length = l.length := by simp [fK]

theorem getE_fK {α : Type} (pre : List (List UInt8 × List (Int × Int))) (f : List UInt8 × List (Int × Int)) (l : List (List UInt8 × List (Int × Int))) (K : List PV → Option α) : getE (fK (pre ++ f :: l)) (pre.length : Int) K = K [PV.str f.1, PV.sl 2 (spK f.2)] := by
  unfold getE
  have h1 : leB 0 (pre.length : Int) = true := decide_eq_true (by omega)
  have h2 : ltB (pre.length : Int) ((fK (pre ++ f :: l)).length : Int) = true := decide_eq_true (by rw [fK_length]; simp; omega)
  rw [h1, h2]
  simp only [Bool.and_self, ctl_true, Int.toNat_natCast]
  rw [nth_eq]
  simp [fK, List.getD]

theorem l_idx (z : List (List UInt8)) (u : List UInt8) (l : List (List UInt8 × List (Int × Int))) : ∀ (pre : List (List UInt8 × List (Int × Int))), (pre ++ l).length ≤ 1000 →
    lp E (denC E) 30 1 [AV.undef, AV.fn 32 [TV.ptr 0 0]] 0 { vals := [AV.sl 2 (fK (pre ++ l)), AV.int .i64 (pre ++ l).length, AV.int .i64 pre.length], blks := [Blk.box [AV.sl 1 (strsK (u :: z))]] } =
    some (bif idxF l u == -1 then (Ex.exit 0, { vals := [], blks := [Blk.box [AV.sl 1 (strsK (u :: z))]] }) else (Ex.ret, { vals := [AV.int .i64 (pre.length + idxF l u)], blks := [Blk.box [AV.sl 1 (strsK (u :: z))]] })) := by
  induction l with
  | nil =>
    intro pre h
    rw [r30_0a, ctl_dec, if_neg (by simp)]
    rfl
  | cons f l ih =>
    intro pre h
    rw [r30_0a, ctl_dec, if_pos (by simp; omega), getE_fK]
    simp only [SB, Nat.reduceAdd]
    rw [c_Readf]
    simp only [SB, Nat.reduceAdd]
    unfold idxF
    cases hb : (f.1 == u) with
    | true => simp [SB, Nat.reduceAdd]
    | false =>
      have hge := (idxF_ge l u).1
      simp only [SB, Nat.reduceAdd, Bool.false_eq_true, if_false]
      rw [w64 (by simp at h; omega), len_snoc pre f, app_cons, ih (pre ++ [f]) (by simpa using h)]
      cases hm : (idxF l u == -1) with
      | true => simp
      | false =>
        have : (idxF l u + 1 == -1) = false := by
          have := (beq_eq_false_iff_ne).1 hm
          exact beq_eq_false_iff_ne.2 (by omega)
        simp only [Bool.false_eq_true, if_false, this, cond_false]
        congr 5
        simp; omega

theorem c_Idx (z : List (List UInt8)) (u : List UInt8) : denC E 30 [AV.sl 2 formK, AV.fn 32 [TV.ptr 0 0]] [Blk.box [AV.sl 1 (strsK (u :: z))]] = some ([RV.p (PV.int .i64 (kindOf u - 1))], [Blk.box [AV.sl 1 (strsK (u :: z))]]) := by
  rw [denC_eq, r30a]
  have hlp := l_idx z u formL [] (by decide)
  simp only [List.nil_append, List.length_nil] at hlp
  have hlp' : lp E (denC E) 30 1 [AV.undef, AV.fn 32 [TV.ptr 0 0]] 0 { vals := [AV.sl 2 formK, AV.int .i64 (formK.length : Int), AV.int .i64 0], blks := [Blk.box [AV.sl 1 (strsK (u :: z))]] } = _ := hlp
  rw [hlp']
  unfold kindOf
  cases hm : (idxF formL u == -1) with
  | true =>
    have := beq_iff_eq.1 hm
    rw [this]
    simp only [cond_true, SB, Nat.reduceAdd]
    rfl
  | false =>
    have e : ((0 : Nat) : Int) + idxF formL u = idxF formL u + 1 - 1 := by omega
    simp only [cond_false, SB, Nat.reduceAdd]
    rw [e]

theorem l_Eq (l : List (List UInt8)) : ∀ (pre a' : List (List UInt8)) (b' : List (List UInt8)), a' = pre ++ l → a'.length = b'.length → pre = b'.take pre.length → a'.length ≤ 1000000000 →
    lp E (denC E) 33 0 [] 0 { vals := [AV.sl 1 (strsK a'), AV.sl 1 (strsK b'), AV.int .i64 a'.length, AV.int .i64 pre.length], blks := [] } =
    some (bif l == b'.drop pre.length then (Ex.exit 0, { vals := [], blks := [] }) else (Ex.ret, { vals := [AV.bool false], blks := [] })) := by
  induction l with
  | nil =>
    intro pre a' b' ha hl hp hn
    rw [List.append_nil] at ha
    subst ha
    rw [r33_0, ctl_dec, if_neg (by omega), List.drop_of_length_le (by omega)]
    rfl
  | cons x l ih =>
    intro pre a' b' ha hl hp hn
    have hlt : pre.length < a'.length := by rw [ha]; simp
    have hxa : a'.getD ((pre.length : Int)).toNat [] = x := by rw [ha, Int.toNat_natCast, getD_mid]
    have hd : b'.drop pre.length = b'.getD pre.length [] :: b'.drop (pre.length + 1) := by
      rw [List.drop_eq_getElem_cons (by omega)]
      simp [List.getD, show pre.length < b'.length by omega]
    rw [r33_0, ctl_dec, if_pos (by omega), getE_strs (by omega), getE_strs (by omega), hxa, Int.toNat_natCast]
    simp only [SB, Nat.reduceAdd]
    rw [hd, w64 (by omega), len_snoc pre x]
    have hcc : (x :: l == b'.getD pre.length [] :: b'.drop (pre.length + 1)) = (x == b'.getD pre.length [] && l == b'.drop (pre.length + 1)) := rfl
    rw [hcc]
    cases hx : (x == b'.getD pre.length []) with
    | false => simp only [Bool.not_false, ctl_true, Bool.false_and, cond_false]
    | true =>
      have hxe := beq_iff_eq.1 hx
      have htk : pre ++ [x] = b'.take (pre ++ [x]).length := by
        have : b'.take (pre.length + 1) = b'.take pre.length ++ [b'.getD pre.length []] := by
          rw [List.take_add_one]
          simp [List.getD, show pre.length < b'.length by omega]
        rw [List.length_append, List.length_singleton, this, ← hp, hxe]
      rw [ih (pre ++ [x]) a' b' (by rw [ha]; simp) hl htk hn]
      simp only [Bool.not_true, ctl_false, Bool.true_and, List.length_append, List.length_singleton]

theorem c_Eq (a b : List (List UInt8)) (h : a.length ≤ 1000000000) : denC E 33 [AV.sl 1 (strsK a), AV.sl 1 (strsK b)] [] = some ([RV.p (PV.bool (a == b))], []) := by
  rw [denC_eq, r33, strsK_length, strsK_length]
  by_cases hl : a.length = b.length
  · have e : ((a.length : Int) != (b.length : Int)) = false := by rw [hl]; simp
    rw [e, ctl_false, show (AV.int IntKind.i64 0) = AV.int .i64 (([] : List (List UInt8)).length : Int) from rfl, l_Eq a [] a b rfl hl rfl h]
    simp only [List.length_nil, List.drop_zero]
    cases a == b <;> simp [SB, Nat.reduceAdd, okPack, okPut, okPutBlks]
  · have e : ((a.length : Int) != (b.length : Int)) = true := by simp; omega
    have e2 : (a == b) = false := by
      rw [Bool.eq_false_iff]
      intro hh
      exact hl (by rw [beq_iff_eq.1 hh])
    rw [e, ctl_true, e2]

def nb (l : List Int) : Blk := Blk.box [AV.int .i64 (l.getD 0 0), AV.int .i64 (l.getD 1 0), AV.int .i64 (l.getD 2 0), AV.int .i64 (l.getD 3 0), AV.int .i64 (l.getD 4 0)]

def zb : Blk := Blk.box [AV.int .i64 0, AV.int .i64 0, AV.int .i64 0, AV.int .i64 0, AV.int .i64 0, AV.int .i64 0]

theorem l_read (b0 : List (List PV)) (fs : List (List UInt8)) : ∀ (pre : List (List UInt8)) (l : List Int), l.length = pre.length → (pre ++ fs).length ≤ 5 → (∀ f ∈ fs, f.length ≤ 1000000) →
    lp E (denC E) 13 0 [] 0 { vals := [AV.sl 1 (strsK (pre ++ fs)), AV.int .i64 (pre ++ fs).length, AV.int .i64 pre.length], blks := [Blk.box [AV.sl 1 b0], zb, nb l] } =
    some (bif fs.all numB then (Ex.exit 0, { vals := [], blks := [Blk.box [AV.sl 1 b0], zb, nb (l ++ fs.map numI)] }) else (Ex.ret, { vals := [AV.int .i64 5], blks := [zb] })) := by
  induction fs with
  | nil =>
    intro pre l hl h hf
    unfold nb zb
    rw [r13_0, ctl_dec, if_neg (by simp), List.map_nil, List.append_nil]
    rfl
  | cons f fs ih =>
    intro pre l hl h hf
    have ihp := ih (pre ++ [f]) (l ++ [numI f]) (by simp [hl]) (by simpa using h) (fun x hx => hf x (by simp [hx]))
    have hlen : pre.length < 5 := by simp at h; omega
    have hnbl : ∀ (l : List Int), nb l = Blk.box [AV.int .i64 (l.getD 0 0), AV.int .i64 (l.getD 1 0), AV.int .i64 (l.getD 2 0), AV.int .i64 (l.getD 3 0), AV.int .i64 (l.getD 4 0)] := fun _ => rfl
    have hzb : zb = Blk.box [AV.int .i64 0, AV.int .i64 0, AV.int .i64 0, AV.int .i64 0, AV.int .i64 0, AV.int .i64 0] := rfl
    rw [hnbl l, hzb, r13_0, ctl_dec, if_pos (by simp; omega), getE_strs (by simp; omega)]
    simp only [Int.toNat_natCast, getD_mid, SB, Nat.reduceAdd]
    rw [c_Number f (hf f (by simp))]
    simp only [SB, Nat.reduceAdd]
    cases hn : numB f with
    | false => simp only [SB, Nat.reduceAdd, hn, Bool.false_and]
    | true =>
      simp only [SB, Nat.reduceAdd, hn, Bool.true_and]
      rw [w64 (by omega), len_snoc pre f, app_cons]
      rw [show (l ++ numI f :: List.map numI fs) = ((l ++ [numI f]) ++ List.map numI fs) by simp]
      rw [← hzb, ← ihp]
      match l, hl with
      | [], hl => rw [← hl]; rfl
      | [a], hl => rw [← hl]; rfl
      | [a, b], hl => rw [← hl]; rfl
      | [a, b, c], hl => rw [← hl]; rfl
      | [a, b, c, d], hl => rw [← hl]; rfl
      | a :: b :: c :: d :: e :: q, hl => simp at hl; omega

def mkS (k : Int) (l : List Int) : Sig := ⟨k, l.getD 0 0, l.getD 1 0, l.getD 2 0, l.getD 3 0, l.getD 4 0⟩

def rdA (z : List (List UInt8)) : Option Sig :=
  match z with
  | [] => none
  | w :: ns => if validB z = true ∧ z.length ≤ 6 ∧ ns.all numB = true then (if valS (mkS (kindOf w) (ns.map numI)) = true ∧ wr (mkS (kindOf w) (ns.map numI)) = z then some (mkS (kindOf w) (ns.map numI)) else none) else none

def rdR (o : Option Sig) : List RV := match o with
  | some x => [RV.agg (sgC x), RV.p (PV.int .i64 0)]
  | none => [RV.agg [PV.int .i64 0, PV.int .i64 0, PV.int .i64 0, PV.int .i64 0, PV.int .i64 0, PV.int .i64 0], RV.p (PV.int .i64 5)]

theorem cut1 (w : List UInt8) (ns : List (List UInt8)) : cutI (strsK (w :: ns)) 1 ((strsK (w :: ns)).length : Int) = strsK ns := by
  have e : ((strsK (w :: ns)).length : Int).toNat = (strsK (w :: ns)).length := by simp
  unfold cutI
  rw [e, List.take_length]
  rfl

theorem c_Read (z : List (List UInt8)) (h : z.length ≤ 100000) (hf : ∀ f ∈ z, f.length ≤ 1000000) : denC E 13 [AV.agg [PV.sl 1 (strsK z)]] [] = some (rdR (rdA z), []) := by
  rw [denC_eq, r13, c_Valid z h]
  simp only [SB, Nat.reduceAdd]
  rw [strsK_length]
  cases z with
  | nil => rfl
  | cons w ns =>
    unfold rdA
    simp only
    by_cases hv : validB (w :: ns) = true
    · by_cases h6 : (w :: ns).length ≤ 6
      · have e1 : ltB 6 ((w :: ns).length : Int) = false := decide_eq_false (by omega)
        have e2 : (leB 1 ((w :: ns).length : Int) && leB ((w :: ns).length : Int) ((w :: ns).length : Int)) = true := by
          rw [show leB 1 ((w :: ns).length : Int) = true from decide_eq_true (by simp only [List.length_cons]; omega), show leB ((w :: ns).length : Int) ((w :: ns).length : Int) = true from decide_eq_true (Int.le_refl _)]; rfl
        have hc := cut1 w ns
        rw [strsK_length] at hc
        have hlp := l_read (strsK (w :: ns)) ns [] [] rfl (by simp at h6 ⊢; omega) (fun f hf' => hf f (by simp [hf']))
        simp only [List.nil_append, List.length_nil] at hlp
        have hlp' : lp E (denC E) 13 0 [] 0 { vals := [AV.sl 1 (strsK ns), AV.int .i64 ns.length, AV.int .i64 0], blks := [Blk.box [AV.sl 1 (strsK (w :: ns))], Blk.box [AV.int .i64 0, AV.int .i64 0, AV.int .i64 0, AV.int .i64 0, AV.int .i64 0, AV.int .i64 0], Blk.box [AV.int .i64 0, AV.int .i64 0, AV.int .i64 0, AV.int .i64 0, AV.int .i64 0]] } = _ := hlp
        rw [hv, e1, e2, hc, strsK_length, hlp']
        simp only [Bool.not_true, Bool.or_false, Bool.or_self, SB, Nat.reduceAdd]
        cases hall : ns.all numB with
        | false =>
          rw [if_neg (fun hh => by have := hh.2.2; cases this)]
          rfl
        | true =>
          rw [if_pos ⟨trivial, h6, rfl⟩]
          have hkb := kind_b w
          unfold nb
          simp only [cond_true, SB, Nat.reduceAdd]
          rw [c_forms]
          simp only [SB, Nat.reduceAdd]
          rw [c_Idx ns w]
          simp only [SB, Nat.reduceAdd]
          have ek : IntKind.i64.wrap (1 + (kindOf w - 1)) = kindOf w := by rw [w64 (by omega)]; omega
          rw [ek]
          have hS := c_SValid (mkS (kindOf w) (ns.map numI))
          unfold mkS at hS
          rw [hS]
          simp only [SB, Nat.reduceAdd]
          cases hval : valS (mkS (kindOf w) (ns.map numI)) with
          | false =>
            unfold mkS at hval
            rw [hval, if_neg (fun hh => by have := hh.1; cases this)]
            rfl
          | true =>
            have hW := c_write hval
            unfold mkS at hW hval
            rw [hval, hW]
            simp only [SB, Nat.reduceAdd]
            have hwl : (wr (mkS (kindOf w) (ns.map numI))).length ≤ 1000000000 := by
              unfold wr; simp; omega
            unfold mkS at hwl
            rw [c_Eq _ _ hwl]
            simp only [SB, Nat.reduceAdd]
            by_cases heq : wr (mkS (kindOf w) (ns.map numI)) = w :: ns
            · rw [if_pos ⟨trivial, heq⟩]
              unfold mkS at heq
              rw [heq, beq_self_eq_true]
              rfl
            · rw [if_neg (fun hh => heq hh.2)]
              have : (wr (mkS (kindOf w) (ns.map numI)) == w :: ns) = false := by rw [beq_eq_false_iff_ne]; exact heq
              unfold mkS at this
              rw [this]
              rfl
      · have e1 : ltB 6 ((w :: ns).length : Int) = true := decide_eq_true (by omega)
        rw [e1, if_neg (fun hh => h6 hh.2.1)]
        simp only [Bool.or_true, SB, Nat.reduceAdd]
        rfl
    · have hv' : validB (w :: ns) = false := by simpa using hv
      rw [hv', if_neg (fun hh => by have := hh.1; cases this)]
      simp only [Bool.not_false, Bool.true_or, SB, Nat.reduceAdd]
      rfl

end Go.Proofs.YtpnpdkgdgfkpfaaGreatDoor.Vm

/- Contracts of chapter 06: the document's reading; what the law says of reading and writing. -/
namespace Go.Proofs.YtpnpdkgdgfkpfaaGreatDoor.Vm
set_option linter.unusedVariables false
set_option linter.unusedSimpArgs false

def hits (z : List (List UInt8)) (k : Int) : Bool := (z.length : Int) == 3 + ((formAt k).2.length : Int) && z.headD [] == (formAt k).1

theorem itoa_num {f : List UInt8} (h : numB f = true) : Lib.itoa (numI f) = f ∧ -10000000000 < numI f ∧ numI f < 10000000000 := by
  unfold numB at h
  unfold numI
  cases hn : num f with
  | none => rw [hn] at h; cases h
  | some n => exact num_spec hn

theorem word_ok (k : Int) (h : 1 ≤ k ∧ k ≤ 6) : fldB (formAt k).1 = true ∧ (formAt k).1.length = 3 := by
  rcases k6 h with rfl | rfl | rfl | rfl | rfl | rfl <;> decide +kernel

theorem valid_fields {w : List UInt8} {ns : List (List UInt8)} (hl : ns.length ≤ 15) (hne : ns ≠ []) (hw : fldB w = true) (hn : ns.all numB = true) : validB (w :: ns) = true := by
  unfold validB
  have h1 : leB 1 ((w :: ns).length : Int) = true := decide_eq_true (by simp only [List.length_cons]; omega)
  have h2 : leB ((w :: ns).length : Int) 16 = true := decide_eq_true (by simp only [List.length_cons]; omega)
  have h3 : ns.all fldB = true := List.all_eq_true.2 fun f hf => by
    obtain ⟨h1, h2, h3⟩ := itoa_num (List.all_eq_true.1 hn f hf)
    rw [← h1]; exact (fld_itoa ⟨h2, h3⟩).1
  have h4 : ((w :: ns : List (List UInt8)) == [[]]) = false := by
    rw [beq_eq_false_iff_ne]; intro h; exact hne (List.cons.inj h).2
  rw [h1, h2, List.all_cons, hw, h3, h4]; rfl

theorem rd_wr {x : Sig} (h : valS x = true) : rdA (wr x) = some x ∧ validB (wr x) = true ∧ (wr x).length ≤ 6 ∧ totB (wr x) ≤ 60 ∧ 4 ≤ (wr x).length := by
  obtain ⟨hk, h1, h2, h3, h4, h5⟩ := val_bounds h
  have hn := n3 hk
  have hb : ∀ n ∈ [x.s, x.t, x.a, x.b, x.c].take (2 + (formAt x.k).2.length), -10000000000 < n ∧ n < 10000000000 := fun n hn => by
    have := List.mem_of_mem_take hn
    simp at this
    rcases this with rfl | rfl | rfl | rfl | rfl <;> omega
  have hnum : (([x.s, x.t, x.a, x.b, x.c].take (2 + (formAt x.k).2.length)).map Lib.itoa).all numB = true := List.all_eq_true.2 fun f hf => by
    obtain ⟨n, hn, rfl⟩ := List.mem_map.1 hf
    unfold numB; rw [num_itoa (hb n hn)]; rfl
  have hback : (([x.s, x.t, x.a, x.b, x.c].take (2 + (formAt x.k).2.length)).map Lib.itoa).map numI = [x.s, x.t, x.a, x.b, x.c].take (2 + (formAt x.k).2.length) := by
    rw [List.map_map]
    refine (List.map_congr_left fun n hn => ?_).trans (List.map_id _)
    show numI (Lib.itoa n) = n
    unfold numI; rw [num_itoa (hb n hn)]; rfl
  have hx : mkS x.k ([x.s, x.t, x.a, x.b, x.c].take (2 + (formAt x.k).2.length)) = x := by
    obtain ⟨k, s, t, a, b, c⟩ := x
    unfold valS at h
    simp only [Bool.and_eq_true] at h
    have hb' := h.1.2
    have hc' := h.2
    unfold mkS
    simp only at hn hb' hc' ⊢
    rcases hn with hn | hn | hn
    · have e1 : (formAt k).2[1]? = none := List.getElem?_eq_none (by omega)
      have e2 : (formAt k).2[2]? = none := List.getElem?_eq_none (by omega)
      unfold okAt at hb' hc'
      rw [e1] at hb'; rw [e2] at hc'
      have hb2 : b = 0 := by simpa using hb'
      have hc2 : c = 0 := by simpa using hc'
      rw [hn, hb2, hc2]; rfl
    · have e2 : (formAt k).2[2]? = none := List.getElem?_eq_none (by omega)
      unfold okAt at hc'
      rw [e2] at hc'
      have hc2 : c = 0 := by simpa using hc'
      rw [hn, hc2]; rfl
    · rw [hn]; rfl
  have hlen : (([x.s, x.t, x.a, x.b, x.c].take (2 + (formAt x.k).2.length)).map Lib.itoa).length = 2 + (formAt x.k).2.length := by simp; omega
  have hv : validB (wr x) = true := valid_fields (by rw [hlen]; omega) (by intro h; rw [h] at hlen; simp at hlen; omega) (word_ok _ hk).1 hnum
  have hl6 : (wr x).length = 3 + (formAt x.k).2.length := by unfold wr; rw [List.length_cons, hlen]; omega
  refine ⟨?_, hv, by omega, ?_, by omega⟩
  · have key : rdA ((formAt x.k).1 :: ([x.s, x.t, x.a, x.b, x.c].take (2 + (formAt x.k).2.length)).map Lib.itoa) = some x := by
      unfold rdA
      simp only
      rw [kind_at x.k hk, hback, hx, if_pos ⟨hv, by rw [List.length_cons, hlen]; omega, hnum⟩, if_pos ⟨h, rfl⟩]
    exact key
  · have hw := (word_ok _ hk).2
    have ht : ∀ l : List Int, (∀ n ∈ l, -10000000000 < n ∧ n < 10000000000) → totB (l.map Lib.itoa) ≤ 11 * l.length := fun l hl => by
      induction l with
      | nil => simp [totB]
      | cons n l ih =>
        have := (fld_itoa (hl n (by simp))).2
        have := ih fun m hm => hl m (by simp [hm])
        simp only [totB, List.map_cons, List.sum_cons, List.length_cons] at this ⊢
        omega
    have := ht _ hb
    unfold wr
    simp only [totB, List.map_cons, List.sum_cons] at this ⊢
    simp only [List.length_take, List.length_cons, List.length_nil] at this
    omega

end Go.Proofs.YtpnpdkgdgfkpfaaGreatDoor.Vm

/- Contracts of chapter 06: the source's signals; the example. -/
namespace Go.Proofs.YtpnpdkgdgfkpfaaGreatDoor.Vm
set_option linter.unusedVariables false
set_option linter.unusedSimpArgs false

theorem inR_of {x lo hi : Int} (h : lo ≤ x ∧ x ≤ hi) : inR x lo hi = true := inR_iff.2 h

theorem val1 {s t a b c : Int} (h1 : 0 ≤ s ∧ s ≤ 99) (h2 : 0 ≤ t ∧ t ≤ 2147483648) (h3 : -100000000 ≤ a ∧ a ≤ 100000000) (h4 : -100000000 ≤ b ∧ b ≤ 100000000) (h5 : 1 ≤ c ∧ c ≤ 100000) : valS ⟨1, s, t, a, b, c⟩ = true :=
  (v_of 1 s t a b c true true true rfl (inR_of h3) (inR_of h4) (inR_of h5)).trans (by rw [inR_of h1, inR_of h2]; rfl)

theorem wrP_ok {x : Sig} (h : valS x = true) : wrP x = (.sl 1 (strsK (wr x)), 0) := by unfold wrP; rw [if_pos h]

end Go.Proofs.YtpnpdkgdgfkpfaaGreatDoor.Vm
