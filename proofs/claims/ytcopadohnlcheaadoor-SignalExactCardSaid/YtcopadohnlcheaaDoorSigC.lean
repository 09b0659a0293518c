import Derived.Test.YtcopadohnlcheaaDoorSentG
import Derived.Lib.AtoiAllCases
/- Numbers and their texts: plain laws. -/
namespace Go.Proofs.YtcopadohnlcheaaDoor.Vm
set_option linter.unusedVariables false
set_option linter.unusedSimpArgs false

def isD (b : UInt8) : Bool := decide (48 ≤ b.toNat) && decide (b.toNat ≤ 57)
/-- The value of digits behind what is read. -/
def valD (acc : Nat) (l : List UInt8) : Nat := l.foldl (fun a b => 10 * a + (b.toNat - 48)) acc
theorem valD_snoc (acc : Nat) (l : List UInt8) (b : UInt8) : valD acc (l ++ [b]) = 10 * valD acc l + (b.toNat - 48) := by simp [valD]
theorem valD_ge (l : List UInt8) : ∀ acc, acc ≤ valD acc l := by
  induction l with
  | nil => intro acc; exact Nat.le_refl _
  | cons b l ih => intro acc; have := ih (10 * acc + (b.toNat - 48)); unfold valD at this ⊢; rw [List.foldl_cons]; omega
theorem valD_lt (l : List UInt8) (h : l.all isD = true) : ∀ acc, valD acc l < (acc + 1) * 10 ^ l.length := by
  induction l with
  | nil => intro acc; simp [valD]
  | cons b l ih =>
    intro acc
    simp only [List.all_cons, Bool.and_eq_true] at h
    have hb := h.1
    unfold isD at hb
    simp only [Bool.and_eq_true, decide_eq_true_eq] at hb
    have := ih h.2 (10 * acc + (b.toNat - 48))
    have h2 : (10 * acc + (b.toNat - 48) + 1) * 10 ^ l.length ≤ (10 * (acc + 1)) * 10 ^ l.length := Nat.mul_le_mul_right _ (by omega)
    have e : (acc + 1) * 10 ^ (b :: l).length = (10 * (acc + 1)) * 10 ^ l.length := by rw [List.length_cons, Nat.pow_succ]; ac_rfl
    rw [e]
    exact Nat.lt_of_lt_of_le this h2

theorem dec_small {u : Nat} (h : u < 10) : Lib.decDigits u = [UInt8.ofNat (48 + u)] := Lib.decDigits_one h
theorem dec_big {u : Nat} (h : ¬ u < 10) : Lib.decDigits u = Lib.decDigits (u / 10) ++ [UInt8.ofNat (48 + u % 10)] := by rw [Lib.decDigits, dif_neg h]
theorem digit_nat {u : Nat} (h : u < 10) : (UInt8.ofNat (48 + u)).toNat = 48 + u := by simp; omega
theorem isD_digit {u : Nat} (h : u < 10) : isD (UInt8.ofNat (48 + u)) = true := by
  unfold isD; rw [digit_nat h]; simp; omega

theorem dec_spec (u : Nat) : (Lib.decDigits u).all isD = true ∧ valD 0 (Lib.decDigits u) = u ∧ ∃ b r, Lib.decDigits u = b :: r ∧ (b = 48 → u = 0 ∧ r = []) := by
  induction u using Nat.strongRecOn with
  | _ u ih =>
    by_cases h : u < 10
    · rw [dec_small h]
      refine ⟨by rw [List.all_cons, isD_digit h]; rfl, by simp [valD, digit_nat h]; omega, _, _, rfl, fun e => ⟨?_, rfl⟩⟩
      have := congrArg UInt8.toNat e
      rw [digit_nat h] at this
      have e2 : (48 : UInt8).toNat = 48 := rfl
      omega
    · obtain ⟨h1, h2, b, r, h3, h4⟩ := ih (u / 10) (by omega)
      rw [dec_big h]
      refine ⟨by rw [List.all_append, h1, List.all_cons, isD_digit (u := u % 10) (by omega)]; rfl, ?_, b, r ++ [UInt8.ofNat (48 + u % 10)], by rw [h3]; rfl, fun e => ?_⟩
      · rw [valD_snoc, h2, digit_nat (by omega)]; omega
      · have := (h4 e).1; omega

theorem dec_len (k : Nat) : ∀ u : Nat, u < 10 ^ (k + 1) → (Lib.decDigits u).length ≤ k + 1 := by
  induction k with
  | zero => intro u h; rw [dec_small (by simpa using h)]; simp
  | succ k ih =>
    intro u h
    by_cases hu : u < 10
    · rw [dec_small hu]; simp
    · have := ih (u / 10) (by rw [Nat.pow_succ] at h; omega)
      rw [dec_big hu]; simp; omega

/-- Digits without a 0 ahead are those of their value. -/
theorem dec_val : ∀ (n : Nat) (l : List UInt8), l.length = n → l.all isD = true → ∀ b r, l = b :: r → (b = 48 → r = []) → Lib.decDigits (valD 0 l) = l ∧ (b ≠ 48 → 1 ≤ valD 0 l) := by
  intro n
  induction n with
  | zero => intro l hl _ b r e; subst e; simp at hl
  | succ n ih =>
    intro l hl hd b r e h0
    by_cases hr : r = []
    · subst hr; subst e
      have hb : isD b = true := by simpa using hd
      unfold isD at hb
      simp only [Bool.and_eq_true, decide_eq_true_eq] at hb
      have hv : valD 0 [b] = b.toNat - 48 := by simp [valD]
      rw [hv, dec_small (by omega)]
      refine ⟨?_, fun hne => ?_⟩
      · have : 48 + (b.toNat - 48) = b.toNat := by omega
        rw [this]; simp
      · rcases Nat.eq_or_lt_of_le hb.1 with h | h
        · exact absurd (UInt8.toNat_inj.1 (by rw [← h]; rfl)) hne
        · omega
    · obtain ⟨q, d, rfl⟩ : ∃ q d, r = q ++ [d] := ⟨r.dropLast, r.getLast hr, (List.dropLast_concat_getLast hr).symm⟩
      have hb48 : b ≠ 48 := fun hb => hr (h0 hb)
      have e2 : l = (b :: q) ++ [d] := by rw [e]; rfl
      subst e2
      simp only [List.all_append, Bool.and_eq_true, List.all_cons, List.all_nil, Bool.and_true] at hd
      obtain ⟨i1, i2⟩ := ih (b :: q) (by simp at hl ⊢; omega) (by simp only [List.all_cons, Bool.and_eq_true]; exact hd.1) b q rfl (fun hb => absurd hb hb48)
      have hdd := hd.2
      unfold isD at hdd
      simp only [Bool.and_eq_true, decide_eq_true_eq] at hdd
      have i3 := i2 hb48
      rw [valD_snoc, dec_big (by omega)]
      have e3 : (10 * valD 0 (b :: q) + (d.toNat - 48)) / 10 = valD 0 (b :: q) := by omega
      have e4 : (10 * valD 0 (b :: q) + (d.toNat - 48)) % 10 = d.toNat - 48 := by omega
      rw [e3, e4, i1]
      have : 48 + (d.toNat - 48) = d.toNat := by omega
      rw [this]
      exact ⟨by simp, fun _ => by omega⟩

/-- The digits behind the sign. -/
def magS (s : List UInt8) : List UInt8 := match s with | [] => [] | b :: r => if b = 45 then r else b :: r
def negS (s : List UInt8) : Bool := match s with | [] => false | b :: _ => b == 45
/-- What a text is read as: the document's words. -/
def num (s : List UInt8) : Option Int :=
  if (magS s).length < 1 ∨ 10 < (magS s).length ∨ ((magS s).head? = some 48 ∧ s ≠ [48]) ∨ (magS s).all isD = false then none
  else some (if negS s = true then -(valD 0 (magS s) : Int) else valD 0 (magS s))

theorem num_spec {s : List UInt8} {n : Int} (h : num s = some n) : Lib.itoa n = s ∧ -10000000000 < n ∧ n < 10000000000 := by
  unfold num at h
  split at h
  · cases h
  · rename_i hc
    cases h
    simp only [not_or, Nat.not_lt, not_and, Bool.not_eq_false] at hc
    obtain ⟨h1, h2, h3, h4⟩ := hc
    have hlt := valD_lt (magS s) h4 0
    have hp : 10 ^ (magS s).length ≤ 10 ^ 10 := Nat.pow_le_pow_right (by decide) h2
    have hp2 : (10 : Nat) ^ 10 = 10000000000 := by decide
    cases s with
    | nil => simp [magS] at h1
    | cons b r =>
      by_cases hb : b = 45
      · subst hb
        have e1 : magS (45 :: r) = r := rfl
        have e2 : negS (45 :: r) = true := rfl
        rw [e1] at h1 h2 h3 h4 hlt hp
        rw [e1, e2]
        simp only [if_true]
        cases r with
        | nil => simp at h1
        | cons c q =>
          have hc48 : c ≠ 48 := fun hc => by
            have := h3 (by rw [hc]; rfl)
            simp at this
          obtain ⟨i1, i2⟩ := dec_val _ (c :: q) rfl h4 c q rfl (fun h => absurd h hc48)
          have i3 := i2 hc48
          refine ⟨?_, by omega, by omega⟩
          unfold Lib.itoa
          rw [if_pos (by omega)]
          have : (-(valD 0 (c :: q) : Int)).natAbs = valD 0 (c :: q) := by omega
          rw [this, i1]
      · have e1 : magS (b :: r) = b :: r := by simp [magS, hb]
        have e2 : negS (b :: r) = false := by simp [negS, hb]
        rw [e1] at h1 h2 h3 h4 hlt hp
        rw [e1, e2]
        simp only [Bool.false_eq_true, if_false]
        obtain ⟨i1, i2⟩ := dec_val _ (b :: r) rfl h4 b r rfl (fun h => by
          have h5 : ((b :: r : List UInt8).head? = some 48 → (b :: r) = [48]) := fun h => by
            have := h3 h
            simpa using this
          have := h5 (by rw [h]; rfl)
          exact (List.cons.inj this).2)
        refine ⟨?_, by omega, by omega⟩
        unfold Lib.itoa
        rw [if_neg (by omega), Int.toNat_natCast, i1]

theorem num_itoa {n : Int} (h : -10000000000 < n ∧ n < 10000000000) : num (Lib.itoa n) = some n := by
  unfold Lib.itoa
  by_cases hn : n < 0
  · rw [if_pos hn]
    obtain ⟨h1, h2, b, r, h3, h4⟩ := dec_spec n.natAbs
    have hl := dec_len 9 n.natAbs (by omega)
    have e1 : magS (45 :: Lib.decDigits n.natAbs) = Lib.decDigits n.natAbs := rfl
    have e2 : negS (45 :: Lib.decDigits n.natAbs) = true := rfl
    unfold num
    rw [e1, e2, h2, if_neg, if_pos rfl]
    · congr 1; omega
    · simp only [not_or, Nat.not_lt, not_and, Bool.not_eq_false]
      refine ⟨by rw [h3]; simp, hl, fun h5 => ?_, h1⟩
      rw [h3] at h5
      have := (h4 (by simpa using h5)).1
      omega
  · rw [if_neg hn]
    obtain ⟨h1, h2, b, r, h3, h4⟩ := dec_spec n.toNat
    have hl := dec_len 9 n.toNat (by omega)
    have hb : b ≠ 45 := fun hb => by
      rw [h3] at h1
      simp only [List.all_cons, Bool.and_eq_true] at h1
      rw [hb] at h1
      exact absurd h1.1 (by decide)
    have e1 : magS (Lib.decDigits n.toNat) = Lib.decDigits n.toNat := by rw [h3]; simp [magS, hb]
    have e2 : negS (Lib.decDigits n.toNat) = false := by rw [h3]; simp [negS, hb]
    unfold num
    rw [e1, e2, h2, if_neg]
    · simp only [Bool.false_eq_true, if_false]; congr 1; omega
    · simp only [not_or, Nat.not_lt, not_and, Bool.not_eq_false]
      refine ⟨by rw [h3]; simp, hl, fun h5 => ?_, h1⟩
      rw [h3] at h5
      obtain ⟨h6, h7⟩ := h4 (by simpa using h5)
      rw [h6]
      simp [dec_small]

theorem parse_dec (l : List UInt8) (h : l.all isD = true) : ∀ acc, valD acc l < 1844674407370955162 → Lib.parseUint10 acc l = .ok (valD acc l) := by
  induction l with
  | nil => intro acc h; rfl
  | cons b l ih =>
    intro acc hv
    simp only [List.all_cons, Bool.and_eq_true] at h
    have hb := h.1
    unfold isD at hb
    simp only [Bool.and_eq_true, decide_eq_true_eq] at hb
    have hge := valD_ge l (10 * acc + (b.toNat - 48))
    have e : valD acc (b :: l) = valD (10 * acc + (b.toNat - 48)) l := rfl
    rw [e] at hv ⊢
    rw [Lib.parseUint10, if_pos hb, if_neg (by omega), if_neg (by omega), Nat.mul_comm acc 10, ih h.2 _ hv]

theorem atoi_itoa {n : Int} (h : -10000000000 < n ∧ n < 10000000000) : Lib.atoiAll (Lib.itoa n) = .ok n := by
  unfold Lib.itoa
  by_cases hn : n < 0
  · rw [if_pos hn]
    obtain ⟨h1, h2, b, r, h3, h4⟩ := dec_spec n.natAbs
    have hne : Lib.decDigits n.natAbs ≠ [] := by rw [h3]; simp
    have hp := parse_dec _ h1 0 (by rw [h2]; omega)
    rw [h2] at hp
    have e45 : (45 : UInt8).toNat = 45 := rfl
    unfold Lib.atoiAll Lib.parseMag
    simp only [e45, or_true, if_true, if_neg hne, hp, not_true, false_and, if_false, true_and]
    rw [if_neg (by omega)]
    congr 1; omega
  · rw [if_neg hn]
    obtain ⟨h1, h2, b, r, h3, h4⟩ := dec_spec n.toNat
    have hp := parse_dec _ h1 0 (by rw [h2]; omega)
    rw [h2] at hp
    rw [h3] at h1 hp ⊢
    simp only [List.all_cons, Bool.and_eq_true] at h1
    have hb := h1.1
    unfold isD at hb
    simp only [Bool.and_eq_true, decide_eq_true_eq] at hb
    have n43 : ¬ b.toNat = 43 := by omega
    have n45 : ¬ b.toNat = 45 := by omega
    unfold Lib.atoiAll Lib.parseMag
    simp only [n43, n45, or_self, if_false, reduceCtorEq, hp, not_false_eq_true, true_and, false_and]
    rw [if_neg (by omega)]
    congr 1; omega

/-- What the program does comes to the same. -/
def numA (s : List UInt8) : Option Int := if (atoiP s).2 = true ∧ Lib.itoa (atoiP s).1 = s ∧ -10000000000 < (atoiP s).1 ∧ (atoiP s).1 < 10000000000 then some (atoiP s).1 else none
theorem numA_eq (s : List UInt8) : numA s = num s := by
  unfold numA
  split
  · rename_i h
    rw [← num_itoa h.2.2, h.2.1]
  · rename_i h
    cases hs : num s with
    | none => rfl
    | some n =>
      obtain ⟨h1, h2⟩ := num_spec hs
      have h3 := atoi_itoa h2
      rw [h1] at h3
      exfalso
      apply h
      unfold atoiP
      rw [h3]
      exact ⟨rfl, h1, h2⟩

/-- The texts of numbers of at most 10 digits are fields. -/
theorem fld_itoa {n : Int} (h : -10000000000 < n ∧ n < 10000000000) : fldB (Lib.itoa n) = true ∧ (Lib.itoa n).length ≤ 11 := by
  have key : ∀ u : Nat, u < 10000000000 → (Lib.decDigits u).all (fun b => !badB b) = true ∧ (Lib.decDigits u).length ≤ 10 := fun u hu => by
    obtain ⟨h1, _⟩ := dec_spec u
    refine ⟨List.all_eq_true.2 fun b hb => ?_, dec_len 9 u (by omega)⟩
    have := List.all_eq_true.1 h1 b hb
    unfold isD at this
    simp only [Bool.and_eq_true, decide_eq_true_eq] at this
    have hx : ∀ b : Nat, 48 ≤ b → b ≤ 57 → (!badB (UInt8.ofNat b)) = true := by
      intro b h1 h2
      have : ∀ b : Fin 58, 48 ≤ b.val → (!badB (UInt8.ofNat b.val)) = true := by decide +kernel
      exact this ⟨b, by omega⟩ h1
    have := hx b.toNat this.1 this.2
    simpa using this
  unfold Lib.itoa
  by_cases hn : n < 0
  · obtain ⟨h1, h2⟩ := key n.natAbs (by omega)
    rw [if_pos hn]
    refine ⟨?_, by simp; omega⟩
    unfold fldB
    have e : ltB 20 ((45 :: Lib.decDigits n.natAbs : List UInt8).length : Int) = false := decide_eq_false (by simp; omega)
    rw [e, List.all_cons, h1]; rfl
  · obtain ⟨h1, h2⟩ := key n.toNat (by omega)
    rw [if_neg hn]
    refine ⟨?_, by omega⟩
    unfold fldB
    have e : ltB 20 ((Lib.decDigits n.toNat).length : Int) = false := decide_eq_false (by omega)
    rw [e, h1]; rfl

theorem itoa_len {n : Int} (h : -9223372036854775808 ≤ n ∧ n ≤ 9223372036854775807) : (Lib.itoa n).length ≤ 20 := by
  have h2 := dec_len 18 n.natAbs (by omega)
  have h3 := dec_len 18 n.toNat (by omega)
  unfold Lib.itoa
  split
  · simp; omega
  · omega

end Go.Proofs.YtcopadohnlcheaaDoor.Vm

/- Contracts of chapter 06: numbers and their texts. -/
namespace Go.Proofs.YtcopadohnlcheaaDoor.Vm
set_option linter.unusedVariables false
set_option linter.unusedSimpArgs false

theorem c_Itoa (n : Int) (h : -9223372036854775808 ≤ n ∧ n ≤ 9223372036854775807) : denC E 41 [AV.int .i64 n] [] = some ([RV.p (PV.str (Lib.itoa n))], []) := by
  rw [denC_eq]
  have : funK E (denC E) 41 [AV.int .i64 n] [] = match pItoa [AV.int .i64 n] with | some rs => some (rs, []) | none => none := by kernel_rfl
  rw [this]
  unfold pItoa
  simp only [h, and_self, if_true]

theorem c_Atoi (s : List UInt8) (h : s.length ≤ 281474976710656) : denC E 42 [AV.str s] [] = some ([RV.p (PV.int .i64 (atoiP s).1), RV.p (PV.ifc (atoiP s).2)], []) := by
  rw [denC_eq]
  have : funK E (denC E) 42 [AV.str s] [] = match pAtoi [AV.str s] with | some rs => some (rs, []) | none => none := by kernel_rfl
  rw [this]
  unfold pAtoi
  simp only [h, if_true]

theorem c_STx (n : Int) (h : -9223372036854775808 ≤ n ∧ n ≤ 9223372036854775807) : denC E 20 [AV.int .i64 n] [] = some ([RV.p (PV.str (Lib.itoa n))], []) := by
  rw [denC_eq, r20, c_Itoa n h]
  simp only [bnd_some, ctl_true, ctl_false, ctl_and, ctl_or', ctl_or2, x_toPV, x_toCs, x_toCs2, x_toEs, x_bEs, x_bCs, x_aPV, x_aCs, x_int, x_bool, x_str, x_es, x_esn, nth_0, nth_1, nth_2, nth_3, nth_4, nth_5, nth_6, nth_7, nth_8, nth_9, y_nil, y_int, y_bool, y_str, y_sl, y_nils, y_agg, y_ownp, y_own, z_nil, z_int, z_bool, z_str, z_sl, z_nils, b_nil, b_arr, b_box1, b_box2, b_box3, b_box4, List.map_cons, List.map_nil, Bool.and_self, Bool.and_true, Bool.true_and, Bool.not_true, Bool.not_false, Bool.or_false, Bool.false_or, cond_true, cond_false, okPack, okPut, okPutBlks, okPutCells, q_isP, q_isAg, q_isBox, q_isArr, q_int, q_bool, q_str, q_sl, q_nils, e_exit, e_ret, e_nrm, e_ret_exit, e_exit_ret, e_nrm_exit, e_nrm_ret, e_exit_nrm, e_ret_nrm, Nat.zero_add, Nat.reduceAdd, noslR, noslP, noslB, noslA, List.all_cons, List.all_nil]

theorem atoi_bounds (s : List UInt8) : -9223372036854775808 ≤ (atoiP s).1 ∧ (atoiP s).1 ≤ 9223372036854775807 := by
  unfold atoiP
  cases h : Lib.atoiAll s
  · exact Lib.atoiAll_bounds h
  · show -9223372036854775808 ≤ (0 : Int) ∧ (0 : Int) ≤ 9223372036854775807; omega
  · exact Lib.atoiSat_bounds s

def numI (s : List UInt8) : Int := (num s).getD 0
def numB (s : List UInt8) : Bool := (num s).isSome
theorem res_none {s : List UInt8} (h : num s = none) : (some ([RV.p (PV.int .i64 0), RV.p (PV.bool false)], []) : Option Res) = some ([RV.p (PV.int .i64 (numI s)), RV.p (PV.bool (numB s))], []) := by
  unfold numI numB; rw [h]; rfl
theorem res_some {s : List UInt8} {v : Int} (h : num s = some v) : (some ([RV.p (PV.int .i64 v), RV.p (PV.bool true)], []) : Option Res) = some ([RV.p (PV.int .i64 (numI s)), RV.p (PV.bool (numB s))], []) := by
  unfold numI numB; rw [h]; rfl

theorem c_Number (s : List UInt8) (h : s.length ≤ 1000000) : denC E 21 [AV.str s] [] = some ([RV.p (PV.int .i64 (numI s)), RV.p (PV.bool (numB s))], []) := by
  rw [denC_eq, r21, c_Atoi s (by omega)]
  have hn := numA_eq s
  unfold numA at hn
  have hbd := atoi_bounds s
  have ok1 : ∀ b, okR [RSh.one Sh.ifc] [RV.p (PV.ifc b)] = true := fun _ => rfl
  have e0 : ∀ b, PV.toNil (.ifc b) = b := fun _ => rfl
  simp only [ok1, e0, bnd_some, ctl_true, ctl_false, ctl_and, ctl_or', ctl_or2, x_toPV, x_toCs, x_toCs2, x_toEs, x_bEs, x_bCs, x_aPV, x_aCs, x_int, x_bool, x_str, x_es, x_esn, nth_0, nth_1, nth_2, nth_3, nth_4, nth_5, nth_6, nth_7, nth_8, nth_9, y_nil, y_int, y_bool, y_str, y_sl, y_nils, y_agg, y_ownp, y_own, z_nil, z_int, z_bool, z_str, z_sl, z_nils, b_nil, b_arr, b_box1, b_box2, b_box3, b_box4, List.map_cons, List.map_nil, Bool.and_self, Bool.and_true, Bool.true_and, Bool.not_true, Bool.not_false, Bool.or_false, Bool.false_or, cond_true, cond_false, okPack, okPut, okPutBlks, okPutCells, q_isP, q_isAg, q_isBox, q_isArr, q_int, q_bool, q_str, q_sl, q_nils, e_exit, e_ret, e_nrm, e_ret_exit, e_exit_ret, e_nrm_exit, e_nrm_ret, e_exit_nrm, e_ret_nrm, Nat.zero_add, Nat.reduceAdd, noslR, noslP, noslB, noslA, List.all_cons, List.all_nil]
  rw [c_Itoa _ hbd]
  generalize (atoiP s).1 = v at hn
  simp only [bnd_some, ctl_true, ctl_false, ctl_and, ctl_or', ctl_or2, x_toPV, x_toCs, x_toCs2, x_toEs, x_bEs, x_bCs, x_aPV, x_aCs, x_int, x_bool, x_str, x_es, x_esn, nth_0, nth_1, nth_2, nth_3, nth_4, nth_5, nth_6, nth_7, nth_8, nth_9, y_nil, y_int, y_bool, y_str, y_sl, y_nils, y_agg, y_ownp, y_own, z_nil, z_int, z_bool, z_str, z_sl, z_nils, b_nil, b_arr, b_box1, b_box2, b_box3, b_box4, List.map_cons, List.map_nil, Bool.and_self, Bool.and_true, Bool.true_and, Bool.not_true, Bool.not_false, Bool.or_false, Bool.false_or, cond_true, cond_false, okPack, okPut, okPutBlks, okPutCells, q_isP, q_isAg, q_isBox, q_isArr, q_int, q_bool, q_str, q_sl, q_nils, e_exit, e_ret, e_nrm, e_ret_exit, e_exit_ret, e_nrm_exit, e_nrm_ret, e_exit_nrm, e_ret_nrm, Nat.zero_add, Nat.reduceAdd, noslR, noslP, noslB, noslA, List.all_cons, List.all_nil]
  cases ha : (atoiP s).2 with
  | false =>
    rw [ha] at hn
    simp only [Bool.not_false, Bool.not_true, Bool.true_or, bnd_some, ctl_true, ctl_false, ctl_and, ctl_or', ctl_or2, x_toPV, x_toCs, x_toCs2, x_toEs, x_bEs, x_bCs, x_aPV, x_aCs, x_int, x_bool, x_str, x_es, x_esn, nth_0, nth_1, nth_2, nth_3, nth_4, nth_5, nth_6, nth_7, nth_8, nth_9, y_nil, y_int, y_bool, y_str, y_sl, y_nils, y_agg, y_ownp, y_own, z_nil, z_int, z_bool, z_str, z_sl, z_nils, b_nil, b_arr, b_box1, b_box2, b_box3, b_box4, List.map_cons, List.map_nil, Bool.and_self, Bool.and_true, Bool.true_and, Bool.not_true, Bool.not_false, Bool.or_false, Bool.false_or, cond_true, cond_false, okPack, okPut, okPutBlks, okPutCells, q_isP, q_isAg, q_isBox, q_isArr, q_int, q_bool, q_str, q_sl, q_nils, e_exit, e_ret, e_nrm, e_ret_exit, e_exit_ret, e_nrm_exit, e_nrm_ret, e_exit_nrm, e_ret_nrm, Nat.zero_add, Nat.reduceAdd, noslR, noslP, noslB, noslA, List.all_cons, List.all_nil]
    exact res_none (by rw [← hn, if_neg (by simp)])
  | true =>
    rw [ha] at hn
    simp only [true_and] at hn
    simp only [Bool.not_true, Bool.not_false, Bool.false_or, Bool.or_false, bnd_some, ctl_true, ctl_false, ctl_and, ctl_or', ctl_or2, x_toPV, x_toCs, x_toCs2, x_toEs, x_bEs, x_bCs, x_aPV, x_aCs, x_int, x_bool, x_str, x_es, x_esn, nth_0, nth_1, nth_2, nth_3, nth_4, nth_5, nth_6, nth_7, nth_8, nth_9, y_nil, y_int, y_bool, y_str, y_sl, y_nils, y_agg, y_ownp, y_own, z_nil, z_int, z_bool, z_str, z_sl, z_nils, b_nil, b_arr, b_box1, b_box2, b_box3, b_box4, List.map_cons, List.map_nil, Bool.and_self, Bool.and_true, Bool.true_and, Bool.not_true, Bool.not_false, Bool.or_false, Bool.false_or, cond_true, cond_false, okPack, okPut, okPutBlks, okPutCells, q_isP, q_isAg, q_isBox, q_isArr, q_int, q_bool, q_str, q_sl, q_nils, e_exit, e_ret, e_nrm, e_ret_exit, e_exit_ret, e_nrm_exit, e_nrm_ret, e_exit_nrm, e_ret_nrm, Nat.zero_add, Nat.reduceAdd, noslR, noslP, noslB, noslA, List.all_cons, List.all_nil]
    by_cases h1 : Lib.itoa v = s
    · have e1 : (Lib.itoa v == s) = true := by simpa using h1
      rw [e1]
      by_cases h2 : -10000000000 < v
      · have e2 : leB v (-10000000000) = false := decide_eq_false (by omega)
        rw [e2]
        by_cases h3 : v < 10000000000
        · have e3 : leB 10000000000 v = false := decide_eq_false (by omega)
          rw [e3]
          exact res_some (by rw [← hn, if_pos ⟨h1, h2, h3⟩])
        · have e3 : leB 10000000000 v = true := decide_eq_true (by omega)
          rw [e3]
          exact res_none (by rw [← hn, if_neg (fun hh => h3 hh.2.2)])
      · have e2 : leB v (-10000000000) = true := decide_eq_true (by omega)
        rw [e2]
        exact res_none (by rw [← hn, if_neg (fun hh => h2 hh.2.1)])
    · have e1 : (Lib.itoa v == s) = false := by simpa using h1
      rw [e1]
      exact res_none (by rw [← hn, if_neg (fun hh => h1 hh.1)])

/-! ### The document's text of a number -/
theorem byte_lit {d : Nat} (h : d < 10) : ([[PV.int IntKind.u8 ((48 : Int) + (d : Int))]] : List (List PV)) = byteEs [UInt8.ofNat (48 + d)] := by
  show _ = [[PV.int IntKind.u8 (((UInt8.ofNat (48 + d)).toNat : Nat) : Int)]]
  rw [digit_nat h]
  norm_cast

theorem u8w {x : Int} (h : 0 ≤ x ∧ x ≤ 255) : IntKind.u8.wrap x = x := IntWalk.u8_in _ (by omega)

theorem l_txt (m : Nat) (hm : m ≤ 9223372036854775808) (sign : List UInt8) : ∀ (neg : Bool) (s : List UInt8), s.length + (Lib.decDigits m).length ≤ 1000 → m ≠ 0 → (neg = false → m ≤ 9223372036854775807) →
    lp E (denC E) 23 0 [] 0 { vals := [AV.int .i64 (if neg = true then -(m : Int) else m), AV.str sign, AV.str s], blks := [] } =
    some (Ex.exit 0, { vals := [AV.str sign, AV.str (Lib.decDigits m ++ s)], blks := [] }) := by
  induction m using Nat.strongRecOn with
  | _ m ih =>
    intro neg s hs h0 hpos
    have hd : m % 10 < 10 := by omega
    have e1 : (if neg = true then -(m : Int) else m).tmod 10 = if neg = true then -((m % 10 : Nat) : Int) else ((m % 10 : Nat) : Int) := by
      cases neg
      · simp only [Bool.false_eq_true, if_false]; rw [Int.tmod_eq_emod_of_nonneg (by omega)]; omega
      · simp only [if_true]; rw [Int.neg_tmod, Int.tmod_eq_emod_of_nonneg (by omega)]; omega
    have e2 : (if neg = true then -(m : Int) else m).tdiv 10 = if neg = true then -((m / 10 : Nat) : Int) else ((m / 10 : Nat) : Int) := by
      cases neg
      · simp only [Bool.false_eq_true, if_false]; rw [Int.tdiv_eq_ediv_of_nonneg (by omega)]; omega
      · simp only [if_true]; rw [Int.neg_tdiv, Int.tdiv_eq_ediv_of_nonneg (by omega)]; omega
    have e3 : ((if neg = true then -(m : Int) else m) != 0) = true := by
      rw [bne_iff_ne]; cases neg
      · simp only [Bool.false_eq_true, if_false]; omega
      · simp only [if_true]; omega
    have e4 : IntKind.i64.wrap (if neg = true then -((m / 10 : Nat) : Int) else ((m / 10 : Nat) : Int)) = if neg = true then -((m / 10 : Nat) : Int) else ((m / 10 : Nat) : Int) := by
      cases neg
      · simp only [Bool.false_eq_true, if_false]; rw [w64 (by omega)]
      · simp only [if_true]; rw [w64 (by omega)]
    have hk : ∀ s : List UInt8, s.length + 1 ≤ 1000 → leN (1 + s.length) 9223372036854775807 = true := fun s hs => decide_eq_true (by omega)
    have hs1 : s.length + 1 ≤ 1000 := by
      obtain ⟨_, _, b, r, h3, _⟩ := dec_spec m
      rw [h3] at hs; simp at hs; omega
    -- what follows the digit
    have fin : lp E (denC E) 23 0 [] 0 { vals := [AV.int .i64 (if neg = true then -((m / 10 : Nat) : Int) else ((m / 10 : Nat) : Int)), AV.str sign, AV.str ([UInt8.ofNat (48 + m % 10)] ++ s)], blks := [] } =
        some (Ex.exit 0, { vals := [AV.str sign, AV.str (Lib.decDigits m ++ s)], blks := [] }) := by
      by_cases hb : m < 10
      · have hz : m / 10 = 0 := by omega
        rw [hz, dec_small hb, Nat.mod_eq_of_lt hb, r23_0]
        cases neg <;> rfl
      · rw [dec_big hb] at hs
        rw [ih (m / 10) (by omega) (by omega) neg ([UInt8.ofNat (48 + m % 10)] ++ s) (by simp at hs ⊢; omega) (by omega) (fun h => by have := hpos h; omega), dec_big hb]
        simp
    rw [r23_0, e1, e2, e3, e4]
    have hdig : ∀ x : Int, x = ((m % 10 : Nat) : Int) → bytesOk [[PV.int IntKind.u8 (IntKind.u8.wrap (IntKind.i64.wrap (48 + x)))]] = true ∧ toBytes [[PV.int IntKind.u8 (IntKind.u8.wrap (IntKind.i64.wrap (48 + x)))]] = [UInt8.ofNat (48 + m % 10)] := fun x hx => by
      rw [hx, w64 (by omega), u8w (by omega), byte_lit hd]
      exact ⟨bytesOk_byteEs _, toBytes_byteEs _⟩
    simp only [ctl_true]
    cases neg with
    | false =>
      simp only [Bool.false_eq_true, if_false] at fin ⊢
      have e5 : ltB ((m % 10 : Nat) : Int) 0 = false := decide_eq_false (by omega)
      obtain ⟨g1, g2⟩ := hdig _ rfl
      rw [e5, ctl_false, g1, g2, hk s hs1, fin]; rfl
    | true =>
      simp only [if_true] at fin ⊢
      by_cases hz : m % 10 = 0
      · have e5 : ltB (-((m % 10 : Nat) : Int)) 0 = false := decide_eq_false (by omega)
        obtain ⟨g1, g2⟩ := hdig (-((m % 10 : Nat) : Int)) (by omega)
        rw [e5, ctl_false, g1, g2, hk s hs1, fin]; rfl
      · have e5 : ltB (-((m % 10 : Nat) : Int)) 0 = true := decide_eq_true (by omega)
        obtain ⟨g1, g2⟩ := hdig (IntKind.i64.wrap (0 - -((m % 10 : Nat) : Int))) (by rw [w64 (by omega)]; omega)
        rw [e5, ctl_true, g1, g2, hk s hs1, fin]; rfl

theorem c_rSTx (n : Int) (h : -9223372036854775808 ≤ n ∧ n ≤ 9223372036854775807) : denC E 23 [AV.int .i64 n] [] = some ([RV.p (PV.str (Lib.itoa n))], []) := by
  rw [denC_eq, r23]
  by_cases h0 : n = 0
  · subst h0
    have : Lib.itoa 0 = [48] := by unfold Lib.itoa; rw [if_neg (by omega), show (0 : Int).toNat = 0 from rfl, dec_small (by omega)]; rfl
    rw [this]; rfl
  · have e0 : (n == 0) = false := by simpa using h0
    have hlen := itoa_len h
    rw [e0, ctl_false]
    by_cases hn : n < 0
    · have e1 : ltB n 0 = true := decide_eq_true hn
      have hi : Lib.itoa n = 45 :: Lib.decDigits n.natAbs := by unfold Lib.itoa; rw [if_pos hn]
      rw [hi] at hlen
      have := l_txt n.natAbs (by omega) [45] true [] (by simp at hlen ⊢; omega) (by omega) (fun h => by cases h)
      simp only [if_true, List.append_nil] at this
      have en : -((n.natAbs : Nat) : Int) = n := by omega
      rw [en] at this
      rw [e1, ctl_true, this]
      simp only [bnd_some, ctl_true, ctl_false, ctl_and, ctl_or', ctl_or2, x_toPV, x_toCs, x_toCs2, x_toEs, x_bEs, x_bCs, x_aPV, x_aCs, x_int, x_bool, x_str, x_es, x_esn, nth_0, nth_1, nth_2, nth_3, nth_4, nth_5, nth_6, nth_7, nth_8, nth_9, y_nil, y_int, y_bool, y_str, y_sl, y_nils, y_agg, y_ownp, y_own, z_nil, z_int, z_bool, z_str, z_sl, z_nils, b_nil, b_arr, b_box1, b_box2, b_box3, b_box4, List.map_cons, List.map_nil, Bool.and_self, Bool.and_true, Bool.true_and, Bool.not_true, Bool.not_false, Bool.or_false, Bool.false_or, cond_true, cond_false, okPack, okPut, okPutBlks, okPutCells, q_isP, q_isAg, q_isBox, q_isArr, q_int, q_bool, q_str, q_sl, q_nils, e_exit, e_ret, e_nrm, e_ret_exit, e_exit_ret, e_nrm_exit, e_nrm_ret, e_exit_nrm, e_ret_nrm, Nat.zero_add, Nat.reduceAdd, noslR, noslP, noslB, noslA, List.all_cons, List.all_nil]
      rw [ctl_dec, if_pos (by simp at hlen ⊢; omega), hi]; rfl
    · have e1 : ltB n 0 = false := decide_eq_false hn
      have hi : Lib.itoa n = Lib.decDigits n.toNat := by unfold Lib.itoa; rw [if_neg hn]
      rw [hi] at hlen
      have := l_txt n.toNat (by omega) [] false [] (by simp; omega) (by omega) (fun _ => by omega)
      simp only [Bool.false_eq_true, if_false, List.append_nil] at this
      have en : ((n.toNat : Nat) : Int) = n := by omega
      rw [en] at this
      rw [e1, ctl_false, this]
      simp only [bnd_some, ctl_true, ctl_false, ctl_and, ctl_or', ctl_or2, x_toPV, x_toCs, x_toCs2, x_toEs, x_bEs, x_bCs, x_aPV, x_aCs, x_int, x_bool, x_str, x_es, x_esn, nth_0, nth_1, nth_2, nth_3, nth_4, nth_5, nth_6, nth_7, nth_8, nth_9, y_nil, y_int, y_bool, y_str, y_sl, y_nils, y_agg, y_ownp, y_own, z_nil, z_int, z_bool, z_str, z_sl, z_nils, b_nil, b_arr, b_box1, b_box2, b_box3, b_box4, List.map_cons, List.map_nil, Bool.and_self, Bool.and_true, Bool.true_and, Bool.not_true, Bool.not_false, Bool.or_false, Bool.false_or, cond_true, cond_false, okPack, okPut, okPutBlks, okPutCells, q_isP, q_isAg, q_isBox, q_isArr, q_int, q_bool, q_str, q_sl, q_nils, e_exit, e_ret, e_nrm, e_ret_exit, e_exit_ret, e_nrm_exit, e_nrm_ret, e_exit_nrm, e_ret_nrm, Nat.zero_add, Nat.reduceAdd, noslR, noslP, noslB, noslA, List.all_cons, List.all_nil]
      rw [ctl_dec, if_pos (by simp; omega), hi]; rfl

/-! ### The document's number of a text -/
theorem l_num (text : List UInt8) (l : List UInt8) : ∀ (pre : List UInt8), (pre ++ l).length ≤ 10 → pre.all isD = true → lp E (denC E) 22 0 [] 0 { vals := [AV.str text, AV.str (pre ++ l), AV.int .i64 (valD 0 pre), AV.int .i64 pre.length], blks := [] } =
    some (bif l.all isD then (Ex.exit 0, { vals := [AV.str text, AV.int .i64 (valD 0 (pre ++ l))], blks := [] }) else (Ex.ret, { vals := [AV.int .i64 0, AV.bool false], blks := [] })) := by
  induction l with
  | nil =>
    intro pre h hp
    rw [r22_0, ctl_dec, if_neg (by simp), List.append_nil]
    rfl
  | cons b l ih =>
    intro pre h hp
    have hlt := valD_lt pre hp 0
    have hpw : 10 ^ pre.length ≤ 10 ^ 10 := Nat.pow_le_pow_right (by decide) (by simp at h; omega)
    have hp2 : (10 : Nat) ^ 10 = 10000000000 := by decide
    have hbt := b.toNat_lt
    rw [r22_0, ctl_dec, if_pos (by simp; omega), in_mid, byteAt_mid]
    simp only [ctl_true]
    by_cases hb : isD b = true
    · have hb2 := hb
      unfold isD at hb2
      simp only [Bool.and_eq_true, decide_eq_true_eq] at hb2
      have e1 : ltB (b.toNat : Int) 48 = false := decide_eq_false (by omega)
      have e2 : ltB 57 (b.toNat : Int) = false := decide_eq_false (by omega)
      have e3 : IntKind.i64.wrap (IntKind.i64.wrap (10 * ((valD 0 pre : Nat) : Int)) + IntKind.i64.wrap (IntKind.u8.wrap ((b.toNat : Int) - 48))) = ((valD 0 (pre ++ [b]) : Nat) : Int) := by
        rw [valD_snoc, u8w (by omega), w64 (n := 10 * ((valD 0 pre : Nat) : Int)) (by omega), w64 (n := (b.toNat : Int) - 48) (by omega), w64 (by omega)]; omega
      rw [e1, e2, e3, w64 (by simp at h; omega), len_snoc pre b, app_cons]
      simp only [bnd_some, ctl_true, ctl_false, ctl_and, ctl_or', ctl_or2, x_toPV, x_toCs, x_toCs2, x_toEs, x_bEs, x_bCs, x_aPV, x_aCs, x_int, x_bool, x_str, x_es, x_esn, nth_0, nth_1, nth_2, nth_3, nth_4, nth_5, nth_6, nth_7, nth_8, nth_9, y_nil, y_int, y_bool, y_str, y_sl, y_nils, y_agg, y_ownp, y_own, z_nil, z_int, z_bool, z_str, z_sl, z_nils, b_nil, b_arr, b_box1, b_box2, b_box3, b_box4, List.map_cons, List.map_nil, Bool.and_self, Bool.and_true, Bool.true_and, Bool.not_true, Bool.not_false, Bool.or_false, Bool.false_or, cond_true, cond_false, okPack, okPut, okPutBlks, okPutCells, q_isP, q_isAg, q_isBox, q_isArr, q_int, q_bool, q_str, q_sl, q_nils, e_exit, e_ret, e_nrm, e_ret_exit, e_exit_ret, e_nrm_exit, e_nrm_ret, e_exit_nrm, e_ret_nrm, Nat.zero_add, Nat.reduceAdd, noslR, noslP, noslB, noslA, List.all_cons, List.all_nil]
      rw [ih (pre ++ [b]) (by simpa using h) (by simp [hp, hb])]
      simp only [List.all_cons, hb, Bool.true_and]
    · have hb' : isD b = false := by simpa using hb
      have hor : ltB (b.toNat : Int) 48 = true ∨ (ltB (b.toNat : Int) 48 = false ∧ ltB 57 (b.toNat : Int) = true) := by
        by_cases hx : b.toNat < 48
        · exact .inl (decide_eq_true (by omega))
        · refine .inr ⟨decide_eq_false (by omega), decide_eq_true ?_⟩
          have h57 : ¬ b.toNat ≤ 57 := fun hy => hb (by unfold isD; simp only [Bool.and_eq_true, decide_eq_true_eq]; omega)
          omega
      simp only [List.all_cons, hb', Bool.false_and, cond_false]
      rcases hor with e1 | ⟨e1, e2⟩
      · rw [e1]; rfl
      · rw [e1, e2]; rfl

theorem num_of {s r : List UInt8} {g : Bool} (hm : magS s = r) (hg : negS s = g) (h1 : ¬ r.length < 1) (h2 : ¬ 10 < r.length) (h3 : ¬ (r.head? = some 48 ∧ s ≠ [48])) (h4 : r.all isD = true) : num s = some (if g = true then -(valD 0 r : Int) else valD 0 r) := by
  unfold num
  rw [hm, hg, if_neg]
  rintro (h | h | h | h)
  · exact h1 h
  · exact h2 h
  · exact h3 h
  · rw [h4] at h; cases h

theorem c_rNumber (s : List UInt8) (h : s.length ≤ 1000000) : denC E 22 [AV.str s] [] = some ([RV.p (PV.int .i64 (numI s)), RV.p (PV.bool (numB s))], []) := by
  rw [denC_eq, r22]
  cases s with
  | nil => rfl
  | cons b r =>
    have e0 : ((b :: r : List UInt8) == []) = false := rfl
    have e1 : ltB 0 ((b :: r : List UInt8).length : Int) = true := decide_eq_true (by simp only [List.length_cons]; omega)
    have e2 : byteAt (b :: r) 0 = (b.toNat : Int) := rfl
    have e45 : ((b.toNat : Int) == 45) = (b == 45) := b_eq b 45
    have e48 : ((b.toNat : Int) == 48) = (b == 48) := b_eq b 48
    rw [e0, e1, e2, e45]
    simp only [Bool.not_false, Bool.and_self, ctl_true, bnd_some, ctl_true, ctl_false, ctl_and, ctl_or', ctl_or2, x_toPV, x_toCs, x_toCs2, x_toEs, x_bEs, x_bCs, x_aPV, x_aCs, x_int, x_bool, x_str, x_es, x_esn, nth_0, nth_1, nth_2, nth_3, nth_4, nth_5, nth_6, nth_7, nth_8, nth_9, y_nil, y_int, y_bool, y_str, y_sl, y_nils, y_agg, y_ownp, y_own, z_nil, z_int, z_bool, z_str, z_sl, z_nils, b_nil, b_arr, b_box1, b_box2, b_box3, b_box4, List.map_cons, List.map_nil, Bool.and_self, Bool.and_true, Bool.true_and, Bool.not_true, Bool.not_false, Bool.or_false, Bool.false_or, cond_true, cond_false, okPack, okPut, okPutBlks, okPutCells, q_isP, q_isAg, q_isBox, q_isArr, q_int, q_bool, q_str, q_sl, q_nils, e_exit, e_ret, e_nrm, e_ret_exit, e_exit_ret, e_nrm_exit, e_nrm_ret, e_exit_nrm, e_ret_nrm, Nat.zero_add, Nat.reduceAdd, noslR, noslP, noslB, noslA, List.all_cons, List.all_nil]
    cases hb : (b == 45) with
    | true =>
      have hb' : b = 45 := beq_iff_eq.1 hb
      subst hb'
      have hm : magS (45 :: r) = r := rfl
      have hng : negS (45 :: r) = true := rfl
      have hc : cutI (45 :: r : List UInt8) 1 ((45 :: r : List UInt8).length : Int) = r := by
        unfold cutI; simp
      have e3 : (leB 1 ((45 :: r : List UInt8).length : Int) && leB ((45 :: r : List UInt8).length : Int) ((45 :: r : List UInt8).length : Int)) = true := by
        rw [show leB 1 ((45 :: r : List UInt8).length : Int) = true from decide_eq_true (by simp only [List.length_cons]; omega), show leB ((45 :: r : List UInt8).length : Int) ((45 :: r : List UInt8).length : Int) = true from decide_eq_true (Int.le_refl _)]; rfl
      rw [hc, e3]
      simp only [ctl_true]
      cases r with
      | nil => rfl
      | cons c q =>
        have f1 : ltB ((c :: q : List UInt8).length : Int) 1 = false := decide_eq_false (by simp; omega)
        have f2 : ltB 0 ((c :: q : List UInt8).length : Int) = true := decide_eq_true (by simp only [List.length_cons]; omega)
        have f3 : byteAt (c :: q) 0 = (c.toNat : Int) := rfl
        have f4 : ((c.toNat : Int) == 48) = (c == 48) := b_eq c 48
        have f5 : ((45 :: c :: q : List UInt8) == [48]) = false := rfl
        rw [f1, f2, f3, f4, f5]
        simp only [Bool.not_false, Bool.false_or, Bool.or_false, bnd_some, ctl_true, ctl_false, ctl_and, ctl_or', ctl_or2, x_toPV, x_toCs, x_toCs2, x_toEs, x_bEs, x_bCs, x_aPV, x_aCs, x_int, x_bool, x_str, x_es, x_esn, nth_0, nth_1, nth_2, nth_3, nth_4, nth_5, nth_6, nth_7, nth_8, nth_9, y_nil, y_int, y_bool, y_str, y_sl, y_nils, y_agg, y_ownp, y_own, z_nil, z_int, z_bool, z_str, z_sl, z_nils, b_nil, b_arr, b_box1, b_box2, b_box3, b_box4, List.map_cons, List.map_nil, Bool.and_self, Bool.and_true, Bool.true_and, Bool.not_true, Bool.not_false, Bool.or_false, Bool.false_or, cond_true, cond_false, okPack, okPut, okPutBlks, okPutCells, q_isP, q_isAg, q_isBox, q_isArr, q_int, q_bool, q_str, q_sl, q_nils, e_exit, e_ret, e_nrm, e_ret_exit, e_exit_ret, e_nrm_exit, e_nrm_ret, e_exit_nrm, e_ret_nrm, Nat.zero_add, Nat.reduceAdd, noslR, noslP, noslB, noslA, List.all_cons, List.all_nil]
        by_cases hl : 10 < (c :: q).length
        · have f6 : ltB 10 ((c :: q : List UInt8).length : Int) = true := decide_eq_true (by omega)
          rw [f6]
          simp only [Bool.true_or, bnd_some, ctl_true, ctl_false, ctl_and, ctl_or', ctl_or2, x_toPV, x_toCs, x_toCs2, x_toEs, x_bEs, x_bCs, x_aPV, x_aCs, x_int, x_bool, x_str, x_es, x_esn, nth_0, nth_1, nth_2, nth_3, nth_4, nth_5, nth_6, nth_7, nth_8, nth_9, y_nil, y_int, y_bool, y_str, y_sl, y_nils, y_agg, y_ownp, y_own, z_nil, z_int, z_bool, z_str, z_sl, z_nils, b_nil, b_arr, b_box1, b_box2, b_box3, b_box4, List.map_cons, List.map_nil, Bool.and_self, Bool.and_true, Bool.true_and, Bool.not_true, Bool.not_false, Bool.or_false, Bool.false_or, cond_true, cond_false, okPack, okPut, okPutBlks, okPutCells, q_isP, q_isAg, q_isBox, q_isArr, q_int, q_bool, q_str, q_sl, q_nils, e_exit, e_ret, e_nrm, e_ret_exit, e_exit_ret, e_nrm_exit, e_nrm_ret, e_exit_nrm, e_ret_nrm, Nat.zero_add, Nat.reduceAdd, noslR, noslP, noslB, noslA, List.all_cons, List.all_nil]
          exact res_none (if_pos (.inr (.inl hl)))
        · have f6 : ltB 10 ((c :: q : List UInt8).length : Int) = false := decide_eq_false (by omega)
          rw [f6]
          simp only [Bool.false_or, bnd_some, ctl_true, ctl_false, ctl_and, ctl_or', ctl_or2, x_toPV, x_toCs, x_toCs2, x_toEs, x_bEs, x_bCs, x_aPV, x_aCs, x_int, x_bool, x_str, x_es, x_esn, nth_0, nth_1, nth_2, nth_3, nth_4, nth_5, nth_6, nth_7, nth_8, nth_9, y_nil, y_int, y_bool, y_str, y_sl, y_nils, y_agg, y_ownp, y_own, z_nil, z_int, z_bool, z_str, z_sl, z_nils, b_nil, b_arr, b_box1, b_box2, b_box3, b_box4, List.map_cons, List.map_nil, Bool.and_self, Bool.and_true, Bool.true_and, Bool.not_true, Bool.not_false, Bool.or_false, Bool.false_or, cond_true, cond_false, okPack, okPut, okPutBlks, okPutCells, q_isP, q_isAg, q_isBox, q_isArr, q_int, q_bool, q_str, q_sl, q_nils, e_exit, e_ret, e_nrm, e_ret_exit, e_exit_ret, e_nrm_exit, e_nrm_ret, e_exit_nrm, e_ret_nrm, Nat.zero_add, Nat.reduceAdd, noslR, noslP, noslB, noslA, List.all_cons, List.all_nil]
          by_cases hc48 : c = 48
          · have g1 : (c == 48) = true := by simpa using hc48
            rw [g1]
            simp only [bnd_some, ctl_true, ctl_false, ctl_and, ctl_or', ctl_or2, x_toPV, x_toCs, x_toCs2, x_toEs, x_bEs, x_bCs, x_aPV, x_aCs, x_int, x_bool, x_str, x_es, x_esn, nth_0, nth_1, nth_2, nth_3, nth_4, nth_5, nth_6, nth_7, nth_8, nth_9, y_nil, y_int, y_bool, y_str, y_sl, y_nils, y_agg, y_ownp, y_own, z_nil, z_int, z_bool, z_str, z_sl, z_nils, b_nil, b_arr, b_box1, b_box2, b_box3, b_box4, List.map_cons, List.map_nil, Bool.and_self, Bool.and_true, Bool.true_and, Bool.not_true, Bool.not_false, Bool.or_false, Bool.false_or, cond_true, cond_false, okPack, okPut, okPutBlks, okPutCells, q_isP, q_isAg, q_isBox, q_isArr, q_int, q_bool, q_str, q_sl, q_nils, e_exit, e_ret, e_nrm, e_ret_exit, e_exit_ret, e_nrm_exit, e_nrm_ret, e_exit_nrm, e_ret_nrm, Nat.zero_add, Nat.reduceAdd, noslR, noslP, noslB, noslA, List.all_cons, List.all_nil]
            exact res_none (if_pos (.inr (.inr (.inl ⟨by rw [hm, hc48]; rfl, by simp⟩))))
          · have g1 : (c == 48) = false := by simpa using hc48
            rw [g1]
            simp only [bnd_some, ctl_true, ctl_false, ctl_and, ctl_or', ctl_or2, x_toPV, x_toCs, x_toCs2, x_toEs, x_bEs, x_bCs, x_aPV, x_aCs, x_int, x_bool, x_str, x_es, x_esn, nth_0, nth_1, nth_2, nth_3, nth_4, nth_5, nth_6, nth_7, nth_8, nth_9, y_nil, y_int, y_bool, y_str, y_sl, y_nils, y_agg, y_ownp, y_own, z_nil, z_int, z_bool, z_str, z_sl, z_nils, b_nil, b_arr, b_box1, b_box2, b_box3, b_box4, List.map_cons, List.map_nil, Bool.and_self, Bool.and_true, Bool.true_and, Bool.not_true, Bool.not_false, Bool.or_false, Bool.false_or, cond_true, cond_false, okPack, okPut, okPutBlks, okPutCells, q_isP, q_isAg, q_isBox, q_isArr, q_int, q_bool, q_str, q_sl, q_nils, e_exit, e_ret, e_nrm, e_ret_exit, e_exit_ret, e_nrm_exit, e_nrm_ret, e_exit_nrm, e_ret_nrm, Nat.zero_add, Nat.reduceAdd, noslR, noslP, noslB, noslA, List.all_cons, List.all_nil]
            have hlp := l_num (45 :: c :: q) (c :: q) [] (by simpa using hl) rfl
            simp only [List.nil_append, List.length_nil] at hlp
            have hlp' : lp E (denC E) 22 0 [] 0 { vals := [AV.str (45 :: c :: q), AV.str (c :: q), AV.int .i64 0, AV.int .i64 0], blks := [] } = _ := hlp
            rw [hlp']
            cases hd : (c :: q).all isD with
            | false =>
              simp only [bnd_some, ctl_true, ctl_false, ctl_and, ctl_or', ctl_or2, x_toPV, x_toCs, x_toCs2, x_toEs, x_bEs, x_bCs, x_aPV, x_aCs, x_int, x_bool, x_str, x_es, x_esn, nth_0, nth_1, nth_2, nth_3, nth_4, nth_5, nth_6, nth_7, nth_8, nth_9, y_nil, y_int, y_bool, y_str, y_sl, y_nils, y_agg, y_ownp, y_own, z_nil, z_int, z_bool, z_str, z_sl, z_nils, b_nil, b_arr, b_box1, b_box2, b_box3, b_box4, List.map_cons, List.map_nil, Bool.and_self, Bool.and_true, Bool.true_and, Bool.not_true, Bool.not_false, Bool.or_false, Bool.false_or, cond_true, cond_false, okPack, okPut, okPutBlks, okPutCells, q_isP, q_isAg, q_isBox, q_isArr, q_int, q_bool, q_str, q_sl, q_nils, e_exit, e_ret, e_nrm, e_ret_exit, e_exit_ret, e_nrm_exit, e_nrm_ret, e_exit_nrm, e_ret_nrm, Nat.zero_add, Nat.reduceAdd, noslR, noslP, noslB, noslA, List.all_cons, List.all_nil]
              exact res_none (if_pos (.inr (.inr (.inr hd))))
            | true =>
              have hlt := valD_lt (c :: q) hd 0
              have hpw : 10 ^ (c :: q).length ≤ 10 ^ 10 := Nat.pow_le_pow_right (by decide) (by omega)
              have hp2 : (10 : Nat) ^ 10 = 10000000000 := by decide
              have hn := num_of hm hng (by simp) hl (fun h => hc48 (by simpa using h.1)) hd
              have g2 : byteAt (45 :: c :: q) 0 = 45 := rfl
              simp only [cond_true, bnd_some, ctl_true, ctl_false, ctl_and, ctl_or', ctl_or2, x_toPV, x_toCs, x_toCs2, x_toEs, x_bEs, x_bCs, x_aPV, x_aCs, x_int, x_bool, x_str, x_es, x_esn, nth_0, nth_1, nth_2, nth_3, nth_4, nth_5, nth_6, nth_7, nth_8, nth_9, y_nil, y_int, y_bool, y_str, y_sl, y_nils, y_agg, y_ownp, y_own, z_nil, z_int, z_bool, z_str, z_sl, z_nils, b_nil, b_arr, b_box1, b_box2, b_box3, b_box4, List.map_cons, List.map_nil, Bool.and_self, Bool.and_true, Bool.true_and, Bool.not_true, Bool.not_false, Bool.or_false, Bool.false_or, cond_true, cond_false, okPack, okPut, okPutBlks, okPutCells, q_isP, q_isAg, q_isBox, q_isArr, q_int, q_bool, q_str, q_sl, q_nils, e_exit, e_ret, e_nrm, e_ret_exit, e_exit_ret, e_nrm_exit, e_nrm_ret, e_exit_nrm, e_ret_nrm, Nat.zero_add, Nat.reduceAdd, noslR, noslP, noslB, noslA, List.all_cons, List.all_nil]
              rw [e1, g2, w64 (by omega)]
              simp only [beq_self_eq_true, bnd_some, ctl_true, ctl_false, ctl_and, ctl_or', ctl_or2, x_toPV, x_toCs, x_toCs2, x_toEs, x_bEs, x_bCs, x_aPV, x_aCs, x_int, x_bool, x_str, x_es, x_esn, nth_0, nth_1, nth_2, nth_3, nth_4, nth_5, nth_6, nth_7, nth_8, nth_9, y_nil, y_int, y_bool, y_str, y_sl, y_nils, y_agg, y_ownp, y_own, z_nil, z_int, z_bool, z_str, z_sl, z_nils, b_nil, b_arr, b_box1, b_box2, b_box3, b_box4, List.map_cons, List.map_nil, Bool.and_self, Bool.and_true, Bool.true_and, Bool.not_true, Bool.not_false, Bool.or_false, Bool.false_or, cond_true, cond_false, okPack, okPut, okPutBlks, okPutCells, q_isP, q_isAg, q_isBox, q_isArr, q_int, q_bool, q_str, q_sl, q_nils, e_exit, e_ret, e_nrm, e_ret_exit, e_exit_ret, e_nrm_exit, e_nrm_ret, e_exit_nrm, e_ret_nrm, Nat.zero_add, Nat.reduceAdd, noslR, noslP, noslB, noslA, List.all_cons, List.all_nil]
              rw [if_pos rfl] at hn
              have : (0 : Int) - ((valD 0 (c :: q) : Nat) : Int) = -((valD 0 (c :: q) : Nat) : Int) := by omega
              rw [this]
              exact res_some hn
    | false =>
      have hb' : ¬ b = 45 := by simpa using hb
      have hm : magS (b :: r) = b :: r := by simp [magS, hb']
      have hng : negS (b :: r) = false := hb
      simp only [ctl_false]
      have f1 : ltB ((b :: r : List UInt8).length : Int) 1 = false := decide_eq_false (by simp; omega)
      rw [f1, e48]
      simp only [Bool.not_false, Bool.false_or, Bool.or_false, bnd_some, ctl_true, ctl_false, ctl_and, ctl_or', ctl_or2, x_toPV, x_toCs, x_toCs2, x_toEs, x_bEs, x_bCs, x_aPV, x_aCs, x_int, x_bool, x_str, x_es, x_esn, nth_0, nth_1, nth_2, nth_3, nth_4, nth_5, nth_6, nth_7, nth_8, nth_9, y_nil, y_int, y_bool, y_str, y_sl, y_nils, y_agg, y_ownp, y_own, z_nil, z_int, z_bool, z_str, z_sl, z_nils, b_nil, b_arr, b_box1, b_box2, b_box3, b_box4, List.map_cons, List.map_nil, Bool.and_self, Bool.and_true, Bool.true_and, Bool.not_true, Bool.not_false, Bool.or_false, Bool.false_or, cond_true, cond_false, okPack, okPut, okPutBlks, okPutCells, q_isP, q_isAg, q_isBox, q_isArr, q_int, q_bool, q_str, q_sl, q_nils, e_exit, e_ret, e_nrm, e_ret_exit, e_exit_ret, e_nrm_exit, e_nrm_ret, e_exit_nrm, e_ret_nrm, Nat.zero_add, Nat.reduceAdd, noslR, noslP, noslB, noslA, List.all_cons, List.all_nil]
      by_cases hl : 10 < (b :: r).length
      · have f6 : ltB 10 ((b :: r : List UInt8).length : Int) = true := decide_eq_true (by omega)
        rw [f6]
        simp only [Bool.true_or, bnd_some, ctl_true, ctl_false, ctl_and, ctl_or', ctl_or2, x_toPV, x_toCs, x_toCs2, x_toEs, x_bEs, x_bCs, x_aPV, x_aCs, x_int, x_bool, x_str, x_es, x_esn, nth_0, nth_1, nth_2, nth_3, nth_4, nth_5, nth_6, nth_7, nth_8, nth_9, y_nil, y_int, y_bool, y_str, y_sl, y_nils, y_agg, y_ownp, y_own, z_nil, z_int, z_bool, z_str, z_sl, z_nils, b_nil, b_arr, b_box1, b_box2, b_box3, b_box4, List.map_cons, List.map_nil, Bool.and_self, Bool.and_true, Bool.true_and, Bool.not_true, Bool.not_false, Bool.or_false, Bool.false_or, cond_true, cond_false, okPack, okPut, okPutBlks, okPutCells, q_isP, q_isAg, q_isBox, q_isArr, q_int, q_bool, q_str, q_sl, q_nils, e_exit, e_ret, e_nrm, e_ret_exit, e_exit_ret, e_nrm_exit, e_nrm_ret, e_exit_nrm, e_ret_nrm, Nat.zero_add, Nat.reduceAdd, noslR, noslP, noslB, noslA, List.all_cons, List.all_nil]
        exact res_none (if_pos (.inr (.inl (by rw [hm]; exact hl))))
      · have f6 : ltB 10 ((b :: r : List UInt8).length : Int) = false := decide_eq_false (by omega)
        rw [f6]
        simp only [Bool.false_or, bnd_some, ctl_true, ctl_false, ctl_and, ctl_or', ctl_or2, x_toPV, x_toCs, x_toCs2, x_toEs, x_bEs, x_bCs, x_aPV, x_aCs, x_int, x_bool, x_str, x_es, x_esn, nth_0, nth_1, nth_2, nth_3, nth_4, nth_5, nth_6, nth_7, nth_8, nth_9, y_nil, y_int, y_bool, y_str, y_sl, y_nils, y_agg, y_ownp, y_own, z_nil, z_int, z_bool, z_str, z_sl, z_nils, b_nil, b_arr, b_box1, b_box2, b_box3, b_box4, List.map_cons, List.map_nil, Bool.and_self, Bool.and_true, Bool.true_and, Bool.not_true, Bool.not_false, Bool.or_false, Bool.false_or, cond_true, cond_false, okPack, okPut, okPutBlks, okPutCells, q_isP, q_isAg, q_isBox, q_isArr, q_int, q_bool, q_str, q_sl, q_nils, e_exit, e_ret, e_nrm, e_ret_exit, e_exit_ret, e_nrm_exit, e_nrm_ret, e_exit_nrm, e_ret_nrm, Nat.zero_add, Nat.reduceAdd, noslR, noslP, noslB, noslA, List.all_cons, List.all_nil]
        by_cases hz : b = 48 ∧ (b :: r) ≠ [48]
        · have g1 : (b == 48) = true := by simpa using hz.1
          have g2 : ((b :: r : List UInt8) == [48]) = false := by
            rw [beq_eq_false_iff_ne]; exact hz.2
          rw [g1, g2]
          simp only [Bool.not_false, Bool.and_self, bnd_some, ctl_true, ctl_false, ctl_and, ctl_or', ctl_or2, x_toPV, x_toCs, x_toCs2, x_toEs, x_bEs, x_bCs, x_aPV, x_aCs, x_int, x_bool, x_str, x_es, x_esn, nth_0, nth_1, nth_2, nth_3, nth_4, nth_5, nth_6, nth_7, nth_8, nth_9, y_nil, y_int, y_bool, y_str, y_sl, y_nils, y_agg, y_ownp, y_own, z_nil, z_int, z_bool, z_str, z_sl, z_nils, b_nil, b_arr, b_box1, b_box2, b_box3, b_box4, List.map_cons, List.map_nil, Bool.and_self, Bool.and_true, Bool.true_and, Bool.not_true, Bool.not_false, Bool.or_false, Bool.false_or, cond_true, cond_false, okPack, okPut, okPutBlks, okPutCells, q_isP, q_isAg, q_isBox, q_isArr, q_int, q_bool, q_str, q_sl, q_nils, e_exit, e_ret, e_nrm, e_ret_exit, e_exit_ret, e_nrm_exit, e_nrm_ret, e_exit_nrm, e_ret_nrm, Nat.zero_add, Nat.reduceAdd, noslR, noslP, noslB, noslA, List.all_cons, List.all_nil]
          exact res_none (if_pos (.inr (.inr (.inl ⟨by rw [hm, hz.1]; rfl, hz.2⟩))))
        · have g0 : (b == 48 && !((b :: r : List UInt8) == [48])) = false := by
            by_cases h48 : b = 48
            · have : (b :: r) = [48] := Classical.byContradiction fun h => hz ⟨h48, h⟩
              rw [this, beq_self_eq_true, Bool.not_true, Bool.and_false]
            · have : (b == 48) = false := by simpa using h48
              rw [this]; rfl
          rw [g0]
          simp only [bnd_some, ctl_true, ctl_false, ctl_and, ctl_or', ctl_or2, x_toPV, x_toCs, x_toCs2, x_toEs, x_bEs, x_bCs, x_aPV, x_aCs, x_int, x_bool, x_str, x_es, x_esn, nth_0, nth_1, nth_2, nth_3, nth_4, nth_5, nth_6, nth_7, nth_8, nth_9, y_nil, y_int, y_bool, y_str, y_sl, y_nils, y_agg, y_ownp, y_own, z_nil, z_int, z_bool, z_str, z_sl, z_nils, b_nil, b_arr, b_box1, b_box2, b_box3, b_box4, List.map_cons, List.map_nil, Bool.and_self, Bool.and_true, Bool.true_and, Bool.not_true, Bool.not_false, Bool.or_false, Bool.false_or, cond_true, cond_false, okPack, okPut, okPutBlks, okPutCells, q_isP, q_isAg, q_isBox, q_isArr, q_int, q_bool, q_str, q_sl, q_nils, e_exit, e_ret, e_nrm, e_ret_exit, e_exit_ret, e_nrm_exit, e_nrm_ret, e_exit_nrm, e_ret_nrm, Nat.zero_add, Nat.reduceAdd, noslR, noslP, noslB, noslA, List.all_cons, List.all_nil]
          have hlp := l_num (b :: r) (b :: r) [] (by simpa using hl) rfl
          simp only [List.nil_append, List.length_nil] at hlp
          have hlp' : lp E (denC E) 22 0 [] 0 { vals := [AV.str (b :: r), AV.str (b :: r), AV.int .i64 0, AV.int .i64 0], blks := [] } = _ := hlp
          rw [hlp']
          cases hd : (b :: r).all isD with
          | false =>
            simp only [bnd_some, ctl_true, ctl_false, ctl_and, ctl_or', ctl_or2, x_toPV, x_toCs, x_toCs2, x_toEs, x_bEs, x_bCs, x_aPV, x_aCs, x_int, x_bool, x_str, x_es, x_esn, nth_0, nth_1, nth_2, nth_3, nth_4, nth_5, nth_6, nth_7, nth_8, nth_9, y_nil, y_int, y_bool, y_str, y_sl, y_nils, y_agg, y_ownp, y_own, z_nil, z_int, z_bool, z_str, z_sl, z_nils, b_nil, b_arr, b_box1, b_box2, b_box3, b_box4, List.map_cons, List.map_nil, Bool.and_self, Bool.and_true, Bool.true_and, Bool.not_true, Bool.not_false, Bool.or_false, Bool.false_or, cond_true, cond_false, okPack, okPut, okPutBlks, okPutCells, q_isP, q_isAg, q_isBox, q_isArr, q_int, q_bool, q_str, q_sl, q_nils, e_exit, e_ret, e_nrm, e_ret_exit, e_exit_ret, e_nrm_exit, e_nrm_ret, e_exit_nrm, e_ret_nrm, Nat.zero_add, Nat.reduceAdd, noslR, noslP, noslB, noslA, List.all_cons, List.all_nil]
            exact res_none (if_pos (.inr (.inr (.inr (by rw [hm]; exact hd)))))
          | true =>
            have hn := num_of hm hng (by simp) hl (fun h => hz ⟨by simpa using h.1, h.2⟩) hd
            simp only [cond_true, bnd_some, ctl_true, ctl_false, ctl_and, ctl_or', ctl_or2, x_toPV, x_toCs, x_toCs2, x_toEs, x_bEs, x_bCs, x_aPV, x_aCs, x_int, x_bool, x_str, x_es, x_esn, nth_0, nth_1, nth_2, nth_3, nth_4, nth_5, nth_6, nth_7, nth_8, nth_9, y_nil, y_int, y_bool, y_str, y_sl, y_nils, y_agg, y_ownp, y_own, z_nil, z_int, z_bool, z_str, z_sl, z_nils, b_nil, b_arr, b_box1, b_box2, b_box3, b_box4, List.map_cons, List.map_nil, Bool.and_self, Bool.and_true, Bool.true_and, Bool.not_true, Bool.not_false, Bool.or_false, Bool.false_or, cond_true, cond_false, okPack, okPut, okPutBlks, okPutCells, q_isP, q_isAg, q_isBox, q_isArr, q_int, q_bool, q_str, q_sl, q_nils, e_exit, e_ret, e_nrm, e_ret_exit, e_exit_ret, e_nrm_exit, e_nrm_ret, e_exit_nrm, e_ret_nrm, Nat.zero_add, Nat.reduceAdd, noslR, noslP, noslB, noslA, List.all_cons, List.all_nil]
            rw [e1, e2, e45, hb]
            simp only [bnd_some, ctl_true, ctl_false, ctl_and, ctl_or', ctl_or2, x_toPV, x_toCs, x_toCs2, x_toEs, x_bEs, x_bCs, x_aPV, x_aCs, x_int, x_bool, x_str, x_es, x_esn, nth_0, nth_1, nth_2, nth_3, nth_4, nth_5, nth_6, nth_7, nth_8, nth_9, y_nil, y_int, y_bool, y_str, y_sl, y_nils, y_agg, y_ownp, y_own, z_nil, z_int, z_bool, z_str, z_sl, z_nils, b_nil, b_arr, b_box1, b_box2, b_box3, b_box4, List.map_cons, List.map_nil, Bool.and_self, Bool.and_true, Bool.true_and, Bool.not_true, Bool.not_false, Bool.or_false, Bool.false_or, cond_true, cond_false, okPack, okPut, okPutBlks, okPutCells, q_isP, q_isAg, q_isBox, q_isArr, q_int, q_bool, q_str, q_sl, q_nils, e_exit, e_ret, e_nrm, e_ret_exit, e_exit_ret, e_nrm_exit, e_nrm_ret, e_exit_nrm, e_ret_nrm, Nat.zero_add, Nat.reduceAdd, noslR, noslP, noslB, noslA, List.all_cons, List.all_nil]
            rw [if_neg (by decide)] at hn
            exact res_some hn

end Go.Proofs.YtcopadohnlcheaaDoor.Vm
