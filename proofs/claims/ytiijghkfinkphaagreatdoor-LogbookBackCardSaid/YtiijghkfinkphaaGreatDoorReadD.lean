import Derived.Test.YtiijghkfinkphaaGreatDoorBookH
import Derived.Lib.AtoiAllCases
import Derived.Test.YtiijghkfinkphaaGreatDoorRaw
/- Numbers and their texts: plain laws. -/
namespace Go.Proofs.YtiijghkfinkphaaGreatDoor.Vm
set_option linter.unusedVariables false
set_option linter.unusedSimpArgs false

def isD (b : UInt8) : Bool := decide (48 ≤ b.toNat) && decide (b.toNat ≤ 57)
def valD (acc : Nat) (l : List UInt8) : Nat := l.foldl (fun a b => 10 * a + (b.toNat - 48)) acc
theorem valD_snoc (acc : Nat) (l : List UInt8) (b : UInt8) : valD acc (l ++ [b]) = 10 * valD acc l + (b.toNat - 48) := by simp [valD]
theorem valD_ge (l : List UInt8) : ∀ acc, acc ≤ valD acc l := by
  induction l with
  | nil => intro acc; exact Nat.le_refl _
  | cons b l ih => intro acc; have := ih (10 * acc + (b.toNat - 48)); unfold valD at this ⊢; rw [List.foldl_cons]; omega
theorem valD_lt (l : List UInt8) (h : l.all isD = true) : ∀ acc, valD acc l < (acc + 1) * 10 ^ l.length := by
  induction l with
  | nil => intro acc; simp [valD]
  | cons b l ih =>
    intro acc
    simp only [List.all_cons, Bool.and_eq_true] at h
    have hb := h.1
    unfold isD at hb
    simp only [Bool.and_eq_true, decide_eq_true_eq] at hb
    have := ih h.2 (10 * acc + (b.toNat - 48))
    have h2 : (10 * acc + (b.toNat - 48) + 1) * 10 ^ l.length ≤ (10 * (acc + 1)) * 10 ^ l.length := Nat.mul_le_mul_right _ (by omega)
    have e : (acc + 1) * 10 ^ (b :: l).length = (10 * (acc + 1)) * 10 ^ l.length := by rw [List.length_cons, Nat.pow_succ]; ac_rfl
    rw [e]
    exact Nat.lt_of_lt_of_le this h2

theorem dec_small {u : Nat} (h : u < 10) : Lib.decDigits u = [UInt8.ofNat (48 + u)] := Lib.decDigits_one h
theorem dec_big {u : Nat} (h : ¬ u < 10) : Lib.decDigits u = Lib.decDigits (u / 10) ++ [UInt8.ofNat (48 + u % 10)] := by rw [Lib.decDigits, dif_neg h]
theorem digit_nat {u : Nat} (h : u < 10) : (UInt8.ofNat (48 + u)).toNat = 48 + u := by simp; omega
theorem isD_digit {u : Nat} (h : u < 10) : isD (UInt8.ofNat (48 + u)) = true := by
  unfold isD; rw [digit_nat h]; simp; omega

theorem dec_spec (u : Nat) : (Lib.decDigits u).all isD = true ∧ valD 0 (Lib.decDigits u) = u ∧ ∃ b r, Lib.decDigits u = b :: r ∧ (b = 48 → u = 0 ∧ r = []) := by
  induction u using Nat.strongRecOn with
  | _ u ih =>
    by_cases h : u < 10
    · rw [dec_small h]
      refine ⟨by rw [List.all_cons, isD_digit h]; rfl, by simp [valD, digit_nat h]; omega, _, _, rfl, fun e => ⟨?_, rfl⟩⟩
      have := congrArg UInt8.toNat e
      rw [digit_nat h] at this
      have e2 : (48 : UInt8).toNat = 48 := rfl
      omega
    · obtain ⟨h1, h2, b, r, h3, h4⟩ := ih (u / 10) (by omega)
      rw [dec_big h]
      refine ⟨by rw [List.all_append, h1, List.all_cons, isD_digit (u := u % 10) (by omega)]; rfl, ?_, b, r ++ [UInt8.ofNat (48 + u % 10)], by rw [h3]; rfl, fun e => ?_⟩
      · rw [valD_snoc, h2, digit_nat (by omega)]; omega
      · have := (h4 e).1; omega

theorem dec_len (k : Nat) : ∀ u : Nat, u < 10 ^ (k + 1) → (Lib.decDigits u).length ≤ k + 1 := by
  induction k with
  | zero => intro u h; rw [dec_small (by simpa using h)]; simp
  | succ k ih =>
    intro u h
    by_cases hu : u < 10
    · rw [dec_small hu]; simp
    · have := ih (u / 10) (by rw [Nat.pow_succ] at h; omega)
      rw [dec_big hu]; simp; omega

def magS (s : List UInt8) : List UInt8 := match s with | [] => [] | b :: r => if b = 45 then r else b :: r
def negS (s : List UInt8) : Bool := match s with | [] => false | b :: _ => b == 45
def num (s : List UInt8) : Option Int :=
  if (magS s).length < 1 ∨ 10 < (magS s).length ∨ ((magS s).head? = some 48 ∧ s ≠ [48]) ∨ (magS s).all isD = false then none
  else some (if negS s = true then -(valD 0 (magS s) : Int) else valD 0 (magS s))

theorem num_itoa {n : Int} (h : -10000000000 < n ∧ n < 10000000000) : num (Lib.itoa n) = some n := by
  unfold Lib.itoa
  by_cases hn : n < 0
  · rw [if_pos hn]
    obtain ⟨h1, h2, b, r, h3, h4⟩ := dec_spec n.natAbs
    have hl := dec_len 9 n.natAbs (by omega)
    have e1 : magS (45 :: Lib.decDigits n.natAbs) = Lib.decDigits n.natAbs := rfl
    have e2 : negS (45 :: Lib.decDigits n.natAbs) = true := rfl
    unfold num
    rw [e1, e2, h2, if_neg, if_pos rfl]
    · congr 1; omega
    · simp only [not_or, Nat.not_lt, not_and, Bool.not_eq_false]
      refine ⟨by rw [h3]; simp, hl, fun h5 => ?_, h1⟩
      rw [h3] at h5
      have := (h4 (by simpa using h5)).1
      omega
  · rw [if_neg hn]
    obtain ⟨h1, h2, b, r, h3, h4⟩ := dec_spec n.toNat
    have hl := dec_len 9 n.toNat (by omega)
    have hb : b ≠ 45 := fun hb => by
      rw [h3] at h1
      simp only [List.all_cons, Bool.and_eq_true] at h1
      rw [hb] at h1
      exact absurd h1.1 (by decide)
    have e1 : magS (Lib.decDigits n.toNat) = Lib.decDigits n.toNat := by rw [h3]; simp [magS, hb]
    have e2 : negS (Lib.decDigits n.toNat) = false := by rw [h3]; simp [negS, hb]
    unfold num
    rw [e1, e2, h2, if_neg]
    · simp only [Bool.false_eq_true, if_false]; congr 1; omega
    · simp only [not_or, Nat.not_lt, not_and, Bool.not_eq_false]
      refine ⟨by rw [h3]; simp, hl, fun h5 => ?_, h1⟩
      rw [h3] at h5
      obtain ⟨h6, h7⟩ := h4 (by simpa using h5)
      rw [h6]
      simp [dec_small]

theorem parse_dec (l : List UInt8) (h : l.all isD = true) : ∀ acc, valD acc l < 1844674407370955162 → Lib.parseUint10 acc l = .ok (valD acc l) := by
  induction l with
  | nil => intro acc h; rfl
  | cons b l ih =>
    intro acc hv
    simp only [List.all_cons, Bool.and_eq_true] at h
    have hb := h.1
    unfold isD at hb
    simp only [Bool.and_eq_true, decide_eq_true_eq] at hb
    have hge := valD_ge l (10 * acc + (b.toNat - 48))
    have e : valD acc (b :: l) = valD (10 * acc + (b.toNat - 48)) l := rfl
    rw [e] at hv ⊢
    rw [Lib.parseUint10, if_pos hb, if_neg (by omega), if_neg (by omega), Nat.mul_comm acc 10, ih h.2 _ hv]

theorem atoi_itoa {n : Int} (h : -10000000000 < n ∧ n < 10000000000) : Lib.atoiAll (Lib.itoa n) = .ok n := by
  unfold Lib.itoa
  by_cases hn : n < 0
  · rw [if_pos hn]
    obtain ⟨h1, h2, b, r, h3, h4⟩ := dec_spec n.natAbs
    have hne : Lib.decDigits n.natAbs ≠ [] := by rw [h3]; simp
    have hp := parse_dec _ h1 0 (by rw [h2]; omega)
    rw [h2] at hp
    have e45 : (45 : UInt8).toNat = 45 := rfl
    unfold Lib.atoiAll Lib.parseMag
    simp only [e45, or_true, if_true, if_neg hne, hp, not_true, false_and, if_false, true_and]
    rw [if_neg (by omega)]
    congr 1; omega
  · rw [if_neg hn]
    obtain ⟨h1, h2, b, r, h3, h4⟩ := dec_spec n.toNat
    have hp := parse_dec _ h1 0 (by rw [h2]; omega)
    rw [h2] at hp
    rw [h3] at h1 hp ⊢
    simp only [List.all_cons, Bool.and_eq_true] at h1
    have hb := h1.1
    unfold isD at hb
    simp only [Bool.and_eq_true, decide_eq_true_eq] at hb
    have n43 : ¬ b.toNat = 43 := by omega
    have n45 : ¬ b.toNat = 45 := by omega
    unfold Lib.atoiAll Lib.parseMag
    simp only [n43, n45, or_self, if_false, reduceCtorEq, hp, not_false_eq_true, true_and, false_and]
    rw [if_neg (by omega)]
    congr 1; omega

end Go.Proofs.YtiijghkfinkphaaGreatDoor.Vm

/- Contracts of chapter 06: numbers and their texts. -/
namespace Go.Proofs.YtiijghkfinkphaaGreatDoor.Vm
set_option linter.unusedVariables false
set_option linter.unusedSimpArgs false

theorem c_Atoi (s : List UInt8) (h : s.length ≤ 281474976710656) : denC E 55 [AV.str s] [] = some ([RV.p (PV.int .i64 (atoiP s).1), RV.p (PV.ifc (atoiP s).2)], []) := by
  rw [denC_eq]
  have : funK E (denC E) 55 [AV.str s] [] = match pAtoi [AV.str s] with | some rs => some (rs, []) | none => none := by kernel_rfl
  rw [this]
  unfold pAtoi
  simp only [h, if_true]

def numI (s : List UInt8) : Int := (num s).getD 0
def numB (s : List UInt8) : Bool := (num s).isSome
theorem res_none {s : List UInt8} (h : num s = none) : (some ([RV.p (PV.int .i64 0), RV.p (PV.bool false)], []) : Option Res) = some ([RV.p (PV.int .i64 (numI s)), RV.p (PV.bool (numB s))], []) := by
  unfold numI numB; rw [h]; rfl
theorem res_some {s : List UInt8} {v : Int} (h : num s = some v) : (some ([RV.p (PV.int .i64 v), RV.p (PV.bool true)], []) : Option Res) = some ([RV.p (PV.int .i64 (numI s)), RV.p (PV.bool (numB s))], []) := by
  unfold numI numB; rw [h]; rfl

theorem u8w {x : Int} (h : 0 ≤ x ∧ x ≤ 255) : IntKind.u8.wrap x = x := IntWalk.u8_in _ (by omega)

theorem l_num (text : List UInt8) (l : List UInt8) : ∀ (pre : List UInt8), (pre ++ l).length ≤ 10 → pre.all isD = true → lp E (denC E) 57 0 [] 0 { vals := [AV.str text, AV.str (pre ++ l), AV.int .i64 (valD 0 pre), AV.int .i64 pre.length], blks := [] } =
    some (bif l.all isD then (Ex.exit 0, { vals := [AV.str text, AV.int .i64 (valD 0 (pre ++ l))], blks := [] }) else (Ex.ret, { vals := [AV.int .i64 0, AV.bool false], blks := [] })) := by
  induction l with
  | nil =>
    intro pre h hp
    rw [r57_0, ctl_dec, if_neg (by simp), List.append_nil]
    rfl
  | cons b l ih =>
    intro pre h hp
    have hlt := valD_lt pre hp 0
    have hpw : 10 ^ pre.length ≤ 10 ^ 10 := Nat.pow_le_pow_right (by decide) (by simp at h; omega)
    have hp2 : (10 : Nat) ^ 10 = 10000000000 := by decide
    have hbt := b.toNat_lt
    rw [r57_0, ctl_dec, if_pos (by simp; omega), in_mid, byteAt_mid]
    simp only [ctl_true]
    by_cases hb : isD b = true
    · have hb2 := hb
      unfold isD at hb2
      simp only [Bool.and_eq_true, decide_eq_true_eq] at hb2
      have e1 : ltB (b.toNat : Int) 48 = false := decide_eq_false (by omega)
      have e2 : ltB 57 (b.toNat : Int) = false := decide_eq_false (by omega)
      have e3 : IntKind.i64.wrap (IntKind.i64.wrap (10 * ((valD 0 pre : Nat) : Int)) + IntKind.i64.wrap (IntKind.u8.wrap ((b.toNat : Int) - 48))) = ((valD 0 (pre ++ [b]) : Nat) : Int) := by
        rw [valD_snoc, u8w (by omega), w64 (n := 10 * ((valD 0 pre : Nat) : Int)) (by omega), w64 (n := (b.toNat : Int) - 48) (by omega), w64 (by omega)]; omega
      rw [e1, e2, e3, w64 (by simp at h; omega), len_snoc pre b, app_cons]
      simp only [bnd_some, ctl_true, ctl_false, ctl_and, ctl_or', ctl_or2, x_toPV, x_toCs, x_toCs2, x_toEs, x_bEs, x_bCs, x_aPV, x_aCs, x_int, x_bool, x_str, x_es, x_esn, nth_0, nth_1, nth_2, nth_3, nth_4, nth_5, nth_6, nth_7, nth_8, nth_9, y_nil, y_int, y_bool, y_str, y_sl, y_nils, y_agg, y_ownp, y_own, z_nil, z_int, z_bool, z_str, z_sl, z_nils, b_nil, b_arr, b_box1, b_box2, b_box3, b_box4, List.map_cons, List.map_nil, Bool.and_self, Bool.and_true, Bool.true_and, Bool.not_true, Bool.not_false, Bool.or_false, Bool.false_or, cond_true, cond_false, okPack, okPut, okPutBlks, okPutCells, q_isP, q_isAg, q_isBox, q_isArr, q_int, q_bool, q_str, q_sl, q_nils, e_exit, e_ret, e_nrm, e_ret_exit, e_exit_ret, e_nrm_exit, e_nrm_ret, e_exit_nrm, e_ret_nrm, Nat.zero_add, Nat.reduceAdd, noslR, noslP, noslB, noslA, List.all_cons, List.all_nil]
      rw [ih (pre ++ [b]) (by simpa using h) (by simp [hp, hb])]
      simp only [List.all_cons, hb, Bool.true_and]
    · have hb' : isD b = false := by simpa using hb
      have hor : ltB (b.toNat : Int) 48 = true ∨ (ltB (b.toNat : Int) 48 = false ∧ ltB 57 (b.toNat : Int) = true) := by
        by_cases hx : b.toNat < 48
        · exact .inl (decide_eq_true (by omega))
        · refine .inr ⟨decide_eq_false (by omega), decide_eq_true ?_⟩
          have h57 : ¬ b.toNat ≤ 57 := fun hy => hb (by unfold isD; simp only [Bool.and_eq_true, decide_eq_true_eq]; omega)
          omega
      simp only [List.all_cons, hb', Bool.false_and, cond_false]
      rcases hor with e1 | ⟨e1, e2⟩
      · rw [e1]; rfl
      · rw [e1, e2]; rfl

theorem num_of {s r : List UInt8} {g : Bool} (hm : magS s = r) (hg : negS s = g) (h1 : ¬ r.length < 1) (h2 : ¬ 10 < r.length) (h3 : ¬ (r.head? = some 48 ∧ s ≠ [48])) (h4 : r.all isD = true) : num s = some (if g = true then -(valD 0 r : Int) else valD 0 r) := by
  unfold num
  rw [hm, hg, if_neg]
  rintro (h | h | h | h)
  · exact h1 h
  · exact h2 h
  · exact h3 h
  · rw [h4] at h; cases h

theorem c_rNumber (s : List UInt8) (h : s.length ≤ 1000000) : denC E 57 [AV.str s] [] = some ([RV.p (PV.int .i64 (numI s)), RV.p (PV.bool (numB s))], []) := by
  rw [denC_eq, r57]
  cases s with
  | nil => rfl
  | cons b r =>
    have e0 : ((b :: r : List UInt8) == []) = false := rfl
    have e1 : ltB 0 ((b :: r : List UInt8).length : Int) = true := decide_eq_true (by simp only [List.length_cons]; omega)
    have e2 : byteAt (b :: r) 0 = (b.toNat : Int) := rfl
    have e45 : ((b.toNat : Int) == 45) = (b == 45) := b_eq b 45
    have e48 : ((b.toNat : Int) == 48) = (b == 48) := b_eq b 48
    rw [e0, e1, e2, e45]
    simp only [Bool.not_false, Bool.and_self, ctl_true, bnd_some, ctl_true, ctl_false, ctl_and, ctl_or', ctl_or2, x_toPV, x_toCs, x_toCs2, x_toEs, x_bEs, x_bCs, x_aPV, x_aCs, x_int, x_bool, x_str, x_es, x_esn, nth_0, nth_1, nth_2, nth_3, nth_4, nth_5, nth_6, nth_7, nth_8, nth_9, y_nil, y_int, y_bool, y_str, y_sl, y_nils, y_agg, y_ownp, y_own, z_nil, z_int, z_bool, z_str, z_sl, z_nils, b_nil, b_arr, b_box1, b_box2, b_box3, b_box4, List.map_cons, List.map_nil, Bool.and_self, Bool.and_true, Bool.true_and, Bool.not_true, Bool.not_false, Bool.or_false, Bool.false_or, cond_true, cond_false, okPack, okPut, okPutBlks, okPutCells, q_isP, q_isAg, q_isBox, q_isArr, q_int, q_bool, q_str, q_sl, q_nils, e_exit, e_ret, e_nrm, e_ret_exit, e_exit_ret, e_nrm_exit, e_nrm_ret, e_exit_nrm, e_ret_nrm, Nat.zero_add, Nat.reduceAdd, noslR, noslP, noslB, noslA, List.all_cons, List.all_nil]
    cases hb : (b == 45) with
    | true =>
      have hb' : b = 45 := beq_iff_eq.1 hb
      subst hb'
      have hm : magS (45 :: r) = r := rfl
      have hng : negS (45 :: r) = true := rfl
      have hc : cutI (45 :: r : List UInt8) 1 ((45 :: r : List UInt8).length : Int) = r := by
        unfold cutI; simp
      have e3 : (leB 1 ((45 :: r : List UInt8).length : Int) && leB ((45 :: r : List UInt8).length : Int) ((45 :: r : List UInt8).length : Int)) = true := by
        rw [show leB 1 ((45 :: r : List UInt8).length : Int) = true from decide_eq_true (by simp only [List.length_cons]; omega), show leB ((45 :: r : List UInt8).length : Int) ((45 :: r : List UInt8).length : Int) = true from decide_eq_true (Int.le_refl _)]; rfl
      rw [hc, e3]
      simp only [ctl_true]
      cases r with
      | nil => rfl
      | cons c q =>
        have f1 : ltB ((c :: q : List UInt8).length : Int) 1 = false := decide_eq_false (by simp; omega)
        have f2 : ltB 0 ((c :: q : List UInt8).length : Int) = true := decide_eq_true (by simp only [List.length_cons]; omega)
        have f3 : byteAt (c :: q) 0 = (c.toNat : Int) := rfl
        have f4 : ((c.toNat : Int) == 48) = (c == 48) := b_eq c 48
        have f5 : ((45 :: c :: q : List UInt8) == [48]) = false := rfl
        rw [f1, f2, f3, f4, f5]
        simp only [Bool.not_false, Bool.false_or, Bool.or_false, bnd_some, ctl_true, ctl_false, ctl_and, ctl_or', ctl_or2, x_toPV, x_toCs, x_toCs2, x_toEs, x_bEs, x_bCs, x_aPV, x_aCs, x_int, x_bool, x_str, x_es, x_esn, nth_0, nth_1, nth_2, nth_3, nth_4, nth_5, nth_6, nth_7, nth_8, nth_9, y_nil, y_int, y_bool, y_str, y_sl, y_nils, y_agg, y_ownp, y_own, z_nil, z_int, z_bool, z_str, z_sl, z_nils, b_nil, b_arr, b_box1, b_box2, b_box3, b_box4, List.map_cons, List.map_nil, Bool.and_self, Bool.and_true, Bool.true_and, Bool.not_true, Bool.not_false, Bool.or_false, Bool.false_or, cond_true, cond_false, okPack, okPut, okPutBlks, okPutCells, q_isP, q_isAg, q_isBox, q_isArr, q_int, q_bool, q_str, q_sl, q_nils, e_exit, e_ret, e_nrm, e_ret_exit, e_exit_ret, e_nrm_exit, e_nrm_ret, e_exit_nrm, e_ret_nrm, Nat.zero_add, Nat.reduceAdd, noslR, noslP, noslB, noslA, List.all_cons, List.all_nil]
        by_cases hl : 10 < (c :: q).length
        · have f6 : ltB 10 ((c :: q : List UInt8).length : Int) = true := decide_eq_true (by omega)
          rw [f6]
          simp only [Bool.true_or, bnd_some, ctl_true, ctl_false, ctl_and, ctl_or', ctl_or2, x_toPV, x_toCs, x_toCs2, x_toEs, x_bEs, x_bCs, x_aPV, x_aCs, x_int, x_bool, x_str, x_es, x_esn, nth_0, nth_1, nth_2, nth_3, nth_4, nth_5, nth_6, nth_7, nth_8, nth_9, y_nil, y_int, y_bool, y_str, y_sl, y_nils, y_agg, y_ownp, y_own, z_nil, z_int, z_bool, z_str, z_sl, z_nils, b_nil, b_arr, b_box1, b_box2, b_box3, b_box4, List.map_cons, List.map_nil, Bool.and_self, Bool.and_true, Bool.true_and, Bool.not_true, Bool.not_false, Bool.or_false, Bool.false_or, cond_true, cond_false, okPack, okPut, okPutBlks, okPutCells, q_isP, q_isAg, q_isBox, q_isArr, q_int, q_bool, q_str, q_sl, q_nils, e_exit, e_ret, e_nrm, e_ret_exit, e_exit_ret, e_nrm_exit, e_nrm_ret, e_exit_nrm, e_ret_nrm, Nat.zero_add, Nat.reduceAdd, noslR, noslP, noslB, noslA, List.all_cons, List.all_nil]
          exact res_none (if_pos (.inr (.inl hl)))
        · have f6 : ltB 10 ((c :: q : List UInt8).length : Int) = false := decide_eq_false (by omega)
          rw [f6]
          simp only [Bool.false_or, bnd_some, ctl_true, ctl_false, ctl_and, ctl_or', ctl_or2, x_toPV, x_toCs, x_toCs2, x_toEs, x_bEs, x_bCs, x_aPV, x_aCs, x_int, x_bool, x_str, x_es, x_esn, nth_0, nth_1, nth_2, nth_3, nth_4, nth_5, nth_6, nth_7, nth_8, nth_9, y_nil, y_int, y_bool, y_str, y_sl, y_nils, y_agg, y_ownp, y_own, z_nil, z_int, z_bool, z_str, z_sl, z_nils, b_nil, b_arr, b_box1, b_box2, b_box3, b_box4, List.map_cons, List.map_nil, Bool.and_self, Bool.and_true, Bool.true_and, Bool.not_true, Bool.not_false, Bool.or_false, Bool.false_or, cond_true, cond_false, okPack, okPut, okPutBlks, okPutCells, q_isP, q_isAg, q_isBox, q_isArr, q_int, q_bool, q_str, q_sl, q_nils, e_exit, e_ret, e_nrm, e_ret_exit, e_exit_ret, e_nrm_exit, e_nrm_ret, e_exit_nrm, e_ret_nrm, Nat.zero_add, Nat.reduceAdd, noslR, noslP, noslB, noslA, List.all_cons, List.all_nil]
          by_cases hc48 : c = 48
          · have g1 : (c == 48) = true := by simpa using hc48
            rw [g1]
            simp only [bnd_some, ctl_true, ctl_false, ctl_and, ctl_or', ctl_or2, x_toPV, x_toCs, x_toCs2, x_toEs, x_bEs, x_bCs, x_aPV, x_aCs, x_int, x_bool, x_str, x_es, x_esn, nth_0, nth_1, nth_2, nth_3, nth_4, nth_5, nth_6, nth_7, nth_8, nth_9, y_nil, y_int, y_bool, y_str, y_sl, y_nils, y_agg, y_ownp, y_own, z_nil, z_int, z_bool, z_str, z_sl, z_nils, b_nil, b_arr, b_box1, b_box2, b_box3, b_box4, List.map_cons, List.map_nil, Bool.and_self, Bool.and_true, Bool.true_and, Bool.not_true, Bool.not_false, Bool.or_false, Bool.false_or, cond_true, cond_false, okPack, okPut, okPutBlks, okPutCells, q_isP, q_isAg, q_isBox, q_isArr, q_int, q_bool, q_str, q_sl, q_nils, e_exit, e_ret, e_nrm, e_ret_exit, e_exit_ret, e_nrm_exit, e_nrm_ret, e_exit_nrm, e_ret_nrm, Nat.zero_add, Nat.reduceAdd, noslR, noslP, noslB, noslA, List.all_cons, List.all_nil]
            exact res_none (if_pos (.inr (.inr (.inl ⟨by rw [hm, hc48]; rfl, by simp⟩))))
          · have g1 : (c == 48) = false := by simpa using hc48
            rw [g1]
            simp only [bnd_some, ctl_true, ctl_false, ctl_and, ctl_or', ctl_or2, x_toPV, x_toCs, x_toCs2, x_toEs, x_bEs, x_bCs, x_aPV, x_aCs, x_int, x_bool, x_str, x_es, x_esn, nth_0, nth_1, nth_2, nth_3, nth_4, nth_5, nth_6, nth_7, nth_8, nth_9, y_nil, y_int, y_bool, y_str, y_sl, y_nils, y_agg, y_ownp, y_own, z_nil, z_int, z_bool, z_str, z_sl, z_nils, b_nil, b_arr, b_box1, b_box2, b_box3, b_box4, List.map_cons, List.map_nil, Bool.and_self, Bool.and_true, Bool.true_and, Bool.not_true, Bool.not_false, Bool.or_false, Bool.false_or, cond_true, cond_false, okPack, okPut, okPutBlks, okPutCells, q_isP, q_isAg, q_isBox, q_isArr, q_int, q_bool, q_str, q_sl, q_nils, e_exit, e_ret, e_nrm, e_ret_exit, e_exit_ret, e_nrm_exit, e_nrm_ret, e_exit_nrm, e_ret_nrm, Nat.zero_add, Nat.reduceAdd, noslR, noslP, noslB, noslA, List.all_cons, List.all_nil]
            have hlp := l_num (45 :: c :: q) (c :: q) [] (by simpa using hl) rfl
            simp only [List.nil_append, List.length_nil] at hlp
            have hlp' : lp E (denC E) 57 0 [] 0 { vals := [AV.str (45 :: c :: q), AV.str (c :: q), AV.int .i64 0, AV.int .i64 0], blks := [] } = _ := hlp
            rw [hlp']
            cases hd : (c :: q).all isD with
            | false =>
              simp only [bnd_some, ctl_true, ctl_false, ctl_and, ctl_or', ctl_or2, x_toPV, x_toCs, x_toCs2, x_toEs, x_bEs, x_bCs, x_aPV, x_aCs, x_int, x_bool, x_str, x_es, x_esn, nth_0, nth_1, nth_2, nth_3, nth_4, nth_5, nth_6, nth_7, nth_8, nth_9, y_nil, y_int, y_bool, y_str, y_sl, y_nils, y_agg, y_ownp, y_own, z_nil, z_int, z_bool, z_str, z_sl, z_nils, b_nil, b_arr, b_box1, b_box2, b_box3, b_box4, List.map_cons, List.map_nil, Bool.and_self, Bool.and_true, Bool.true_and, Bool.not_true, Bool.not_false, Bool.or_false, Bool.false_or, cond_true, cond_false, okPack, okPut, okPutBlks, okPutCells, q_isP, q_isAg, q_isBox, q_isArr, q_int, q_bool, q_str, q_sl, q_nils, e_exit, e_ret, e_nrm, e_ret_exit, e_exit_ret, e_nrm_exit, e_nrm_ret, e_exit_nrm, e_ret_nrm, Nat.zero_add, Nat.reduceAdd, noslR, noslP, noslB, noslA, List.all_cons, List.all_nil]
              exact res_none (if_pos (.inr (.inr (.inr hd))))
            | true =>
              have hlt := valD_lt (c :: q) hd 0
              have hpw : 10 ^ (c :: q).length ≤ 10 ^ 10 := Nat.pow_le_pow_right (by decide) (by omega)
              have hp2 : (10 : Nat) ^ 10 = 10000000000 := by decide
              have hn := num_of hm hng (by simp) hl (fun h => hc48 (by simpa using h.1)) hd
              have g2 : byteAt (45 :: c :: q) 0 = 45 := rfl
              simp only [cond_true, bnd_some, ctl_true, ctl_false, ctl_and, ctl_or', ctl_or2, x_toPV, x_toCs, x_toCs2, x_toEs, x_bEs, x_bCs, x_aPV, x_aCs, x_int, x_bool, x_str, x_es, x_esn, nth_0, nth_1, nth_2, nth_3, nth_4, nth_5, nth_6, nth_7, nth_8, nth_9, y_nil, y_int, y_bool, y_str, y_sl, y_nils, y_agg, y_ownp, y_own, z_nil, z_int, z_bool, z_str, z_sl, z_nils, b_nil, b_arr, b_box1, b_box2, b_box3, b_box4, List.map_cons, List.map_nil, Bool.and_self, Bool.and_true, Bool.true_and, Bool.not_true, Bool.not_false, Bool.or_false, Bool.false_or, cond_true, cond_false, okPack, okPut, okPutBlks, okPutCells, q_isP, q_isAg, q_isBox, q_isArr, q_int, q_bool, q_str, q_sl, q_nils, e_exit, e_ret, e_nrm, e_ret_exit, e_exit_ret, e_nrm_exit, e_nrm_ret, e_exit_nrm, e_ret_nrm, Nat.zero_add, Nat.reduceAdd, noslR, noslP, noslB, noslA, List.all_cons, List.all_nil]
              rw [e1, g2, w64 (by omega)]
              simp only [beq_self_eq_true, bnd_some, ctl_true, ctl_false, ctl_and, ctl_or', ctl_or2, x_toPV, x_toCs, x_toCs2, x_toEs, x_bEs, x_bCs, x_aPV, x_aCs, x_int, x_bool, x_str, x_es, x_esn, nth_0, nth_1, nth_2, nth_3, nth_4, nth_5, nth_6, nth_7, nth_8, nth_9, y_nil, y_int, y_bool, y_str, y_sl, y_nils, y_agg, y_ownp, y_own, z_nil, z_int, z_bool, z_str, z_sl, z_nils, b_nil, b_arr, b_box1, b_box2, b_box3, b_box4, List.map_cons, List.map_nil, Bool.and_self, Bool.and_true, Bool.true_and, Bool.not_true, Bool.not_false, Bool.or_false, Bool.false_or, cond_true, cond_false, okPack, okPut, okPutBlks, okPutCells, q_isP, q_isAg, q_isBox, q_isArr, q_int, q_bool, q_str, q_sl, q_nils, e_exit, e_ret, e_nrm, e_ret_exit, e_exit_ret, e_nrm_exit, e_nrm_ret, e_exit_nrm, e_ret_nrm, Nat.zero_add, Nat.reduceAdd, noslR, noslP, noslB, noslA, List.all_cons, List.all_nil]
              rw [if_pos rfl] at hn
              have : (0 : Int) - ((valD 0 (c :: q) : Nat) : Int) = -((valD 0 (c :: q) : Nat) : Int) := by omega
              rw [this]
              exact res_some hn
    | false =>
      have hb' : ¬ b = 45 := by simpa using hb
      have hm : magS (b :: r) = b :: r := by simp [magS, hb']
      have hng : negS (b :: r) = false := hb
      simp only [ctl_false]
      have f1 : ltB ((b :: r : List UInt8).length : Int) 1 = false := decide_eq_false (by simp; omega)
      rw [f1, e48]
      simp only [Bool.not_false, Bool.false_or, Bool.or_false, bnd_some, ctl_true, ctl_false, ctl_and, ctl_or', ctl_or2, x_toPV, x_toCs, x_toCs2, x_toEs, x_bEs, x_bCs, x_aPV, x_aCs, x_int, x_bool, x_str, x_es, x_esn, nth_0, nth_1, nth_2, nth_3, nth_4, nth_5, nth_6, nth_7, nth_8, nth_9, y_nil, y_int, y_bool, y_str, y_sl, y_nils, y_agg, y_ownp, y_own, z_nil, z_int, z_bool, z_str, z_sl, z_nils, b_nil, b_arr, b_box1, b_box2, b_box3, b_box4, List.map_cons, List.map_nil, Bool.and_self, Bool.and_true, Bool.true_and, Bool.not_true, Bool.not_false, Bool.or_false, Bool.false_or, cond_true, cond_false, okPack, okPut, okPutBlks, okPutCells, q_isP, q_isAg, q_isBox, q_isArr, q_int, q_bool, q_str, q_sl, q_nils, e_exit, e_ret, e_nrm, e_ret_exit, e_exit_ret, e_nrm_exit, e_nrm_ret, e_exit_nrm, e_ret_nrm, Nat.zero_add, Nat.reduceAdd, noslR, noslP, noslB, noslA, List.all_cons, List.all_nil]
      by_cases hl : 10 < (b :: r).length
      · have f6 : ltB 10 ((b :: r : List UInt8).length : Int) = true := decide_eq_true (by omega)
        rw [f6]
        simp only [Bool.true_or, bnd_some, ctl_true, ctl_false, ctl_and, ctl_or', ctl_or2, x_toPV, x_toCs, x_toCs2, x_toEs, x_bEs, x_bCs, x_aPV, x_aCs, x_int, x_bool, x_str, x_es, x_esn, nth_0, nth_1, nth_2, nth_3, nth_4, nth_5, nth_6, nth_7, nth_8, nth_9, y_nil, y_int, y_bool, y_str, y_sl, y_nils, y_agg, y_ownp, y_own, z_nil, z_int, z_bool, z_str, z_sl, z_nils, b_nil, b_arr, b_box1, b_box2, b_box3, b_box4, List.map_cons, List.map_nil, Bool.and_self, Bool.and_true, Bool.true_and, Bool.not_true, Bool.not_false, Bool.or_false, Bool.false_or, cond_true, cond_false, okPack, okPut, okPutBlks, okPutCells, q_isP, q_isAg, q_isBox, q_isArr, q_int, q_bool, q_str, q_sl, q_nils, e_exit, e_ret, e_nrm, e_ret_exit, e_exit_ret, e_nrm_exit, e_nrm_ret, e_exit_nrm, e_ret_nrm, Nat.zero_add, Nat.reduceAdd, noslR, noslP, noslB, noslA, List.all_cons, List.all_nil]
        exact res_none (if_pos (.inr (.inl (by rw [hm]; exact hl))))
      · have f6 : ltB 10 ((b :: r : List UInt8).length : Int) = false := decide_eq_false (by omega)
        rw [f6]
        simp only [Bool.false_or, bnd_some, ctl_true, ctl_false, ctl_and, ctl_or', ctl_or2, x_toPV, x_toCs, x_toCs2, x_toEs, x_bEs, x_bCs, x_aPV, x_aCs, x_int, x_bool, x_str, x_es, x_esn, nth_0, nth_1, nth_2, nth_3, nth_4, nth_5, nth_6, nth_7, nth_8, nth_9, y_nil, y_int, y_bool, y_str, y_sl, y_nils, y_agg, y_ownp, y_own, z_nil, z_int, z_bool, z_str, z_sl, z_nils, b_nil, b_arr, b_box1, b_box2, b_box3, b_box4, List.map_cons, List.map_nil, Bool.and_self, Bool.and_true, Bool.true_and, Bool.not_true, Bool.not_false, Bool.or_false, Bool.false_or, cond_true, cond_false, okPack, okPut, okPutBlks, okPutCells, q_isP, q_isAg, q_isBox, q_isArr, q_int, q_bool, q_str, q_sl, q_nils, e_exit, e_ret, e_nrm, e_ret_exit, e_exit_ret, e_nrm_exit, e_nrm_ret, e_exit_nrm, e_ret_nrm, Nat.zero_add, Nat.reduceAdd, noslR, noslP, noslB, noslA, List.all_cons, List.all_nil]
        by_cases hz : b = 48 ∧ (b :: r) ≠ [48]
        · have g1 : (b == 48) = true := by simpa using hz.1
          have g2 : ((b :: r : List UInt8) == [48]) = false := by
            rw [beq_eq_false_iff_ne]; exact hz.2
          rw [g1, g2]
          simp only [Bool.not_false, Bool.and_self, bnd_some, ctl_true, ctl_false, ctl_and, ctl_or', ctl_or2, x_toPV, x_toCs, x_toCs2, x_toEs, x_bEs, x_bCs, x_aPV, x_aCs, x_int, x_bool, x_str, x_es, x_esn, nth_0, nth_1, nth_2, nth_3, nth_4, nth_5, nth_6, nth_7, nth_8, nth_9, y_nil, y_int, y_bool, y_str, y_sl, y_nils, y_agg, y_ownp, y_own, z_nil, z_int, z_bool, z_str, z_sl, z_nils, b_nil, b_arr, b_box1, b_box2, b_box3, b_box4, List.map_cons, List.map_nil, Bool.and_self, Bool.and_true, Bool.true_and, Bool.not_true, Bool.not_false, Bool.or_false, Bool.false_or, cond_true, cond_false, okPack, okPut, okPutBlks, okPutCells, q_isP, q_isAg, q_isBox, q_isArr, q_int, q_bool, q_str, q_sl, q_nils, e_exit, e_ret, e_nrm, e_ret_exit, e_exit_ret, e_nrm_exit, e_nrm_ret, e_exit_nrm, e_ret_nrm, Nat.zero_add, Nat.reduceAdd, noslR, noslP, noslB, noslA, List.all_cons, List.all_nil]
          exact res_none (if_pos (.inr (.inr (.inl ⟨by rw [hm, hz.1]; rfl, hz.2⟩))))
        · have g0 : (b == 48 && !((b :: r : List UInt8) == [48])) = false := by
            by_cases h48 : b = 48
            · have : (b :: r) = [48] := Classical.byContradiction fun h => hz ⟨h48, h⟩
              rw [this, beq_self_eq_true, Bool.not_true, Bool.and_false]
            · have : (b == 48) = false := by simpa using h48
              rw [this]; rfl
          rw [g0]
          simp only [bnd_some, ctl_true, ctl_false, ctl_and, ctl_or', ctl_or2, x_toPV, x_toCs, x_toCs2, x_toEs, x_bEs, x_bCs, x_aPV, x_aCs, x_int, x_bool, x_str, x_es, x_esn, nth_0, nth_1, nth_2, nth_3, nth_4, nth_5, nth_6, nth_7, nth_8, nth_9, y_nil, y_int, y_bool, y_str, y_sl, y_nils, y_agg, y_ownp, y_own, z_nil, z_int, z_bool, z_str, z_sl, z_nils, b_nil, b_arr, b_box1, b_box2, b_box3, b_box4, List.map_cons, List.map_nil, Bool.and_self, Bool.and_true, Bool.true_and, Bool.not_true, Bool.not_false, Bool.or_false, Bool.false_or, cond_true, cond_false, okPack, okPut, okPutBlks, okPutCells, q_isP, q_isAg, q_isBox, q_isArr, q_int, q_bool, q_str, q_sl, q_nils, e_exit, e_ret, e_nrm, e_ret_exit, e_exit_ret, e_nrm_exit, e_nrm_ret, e_exit_nrm, e_ret_nrm, Nat.zero_add, Nat.reduceAdd, noslR, noslP, noslB, noslA, List.all_cons, List.all_nil]
          have hlp := l_num (b :: r) (b :: r) [] (by simpa using hl) rfl
          simp only [List.nil_append, List.length_nil] at hlp
          have hlp' : lp E (denC E) 57 0 [] 0 { vals := [AV.str (b :: r), AV.str (b :: r), AV.int .i64 0, AV.int .i64 0], blks := [] } = _ := hlp
          rw [hlp']
          cases hd : (b :: r).all isD with
          | false =>
            simp only [bnd_some, ctl_true, ctl_false, ctl_and, ctl_or', ctl_or2, x_toPV, x_toCs, x_toCs2, x_toEs, x_bEs, x_bCs, x_aPV, x_aCs, x_int, x_bool, x_str, x_es, x_esn, nth_0, nth_1, nth_2, nth_3, nth_4, nth_5, nth_6, nth_7, nth_8, nth_9, y_nil, y_int, y_bool, y_str, y_sl, y_nils, y_agg, y_ownp, y_own, z_nil, z_int, z_bool, z_str, z_sl, z_nils, b_nil, b_arr, b_box1, b_box2, b_box3, b_box4, List.map_cons, List.map_nil, Bool.and_self, Bool.and_true, Bool.true_and, Bool.not_true, Bool.not_false, Bool.or_false, Bool.false_or, cond_true, cond_false, okPack, okPut, okPutBlks, okPutCells, q_isP, q_isAg, q_isBox, q_isArr, q_int, q_bool, q_str, q_sl, q_nils, e_exit, e_ret, e_nrm, e_ret_exit, e_exit_ret, e_nrm_exit, e_nrm_ret, e_exit_nrm, e_ret_nrm, Nat.zero_add, Nat.reduceAdd, noslR, noslP, noslB, noslA, List.all_cons, List.all_nil]
            exact res_none (if_pos (.inr (.inr (.inr (by rw [hm]; exact hd)))))
          | true =>
            have hn := num_of hm hng (by simp) hl (fun h => hz ⟨by simpa using h.1, h.2⟩) hd
            simp only [cond_true, bnd_some, ctl_true, ctl_false, ctl_and, ctl_or', ctl_or2, x_toPV, x_toCs, x_toCs2, x_toEs, x_bEs, x_bCs, x_aPV, x_aCs, x_int, x_bool, x_str, x_es, x_esn, nth_0, nth_1, nth_2, nth_3, nth_4, nth_5, nth_6, nth_7, nth_8, nth_9, y_nil, y_int, y_bool, y_str, y_sl, y_nils, y_agg, y_ownp, y_own, z_nil, z_int, z_bool, z_str, z_sl, z_nils, b_nil, b_arr, b_box1, b_box2, b_box3, b_box4, List.map_cons, List.map_nil, Bool.and_self, Bool.and_true, Bool.true_and, Bool.not_true, Bool.not_false, Bool.or_false, Bool.false_or, cond_true, cond_false, okPack, okPut, okPutBlks, okPutCells, q_isP, q_isAg, q_isBox, q_isArr, q_int, q_bool, q_str, q_sl, q_nils, e_exit, e_ret, e_nrm, e_ret_exit, e_exit_ret, e_nrm_exit, e_nrm_ret, e_exit_nrm, e_ret_nrm, Nat.zero_add, Nat.reduceAdd, noslR, noslP, noslB, noslA, List.all_cons, List.all_nil]
            rw [e1, e2, e45, hb]
            simp only [bnd_some, ctl_true, ctl_false, ctl_and, ctl_or', ctl_or2, x_toPV, x_toCs, x_toCs2, x_toEs, x_bEs, x_bCs, x_aPV, x_aCs, x_int, x_bool, x_str, x_es, x_esn, nth_0, nth_1, nth_2, nth_3, nth_4, nth_5, nth_6, nth_7, nth_8, nth_9, y_nil, y_int, y_bool, y_str, y_sl, y_nils, y_agg, y_ownp, y_own, z_nil, z_int, z_bool, z_str, z_sl, z_nils, b_nil, b_arr, b_box1, b_box2, b_box3, b_box4, List.map_cons, List.map_nil, Bool.and_self, Bool.and_true, Bool.true_and, Bool.not_true, Bool.not_false, Bool.or_false, Bool.false_or, cond_true, cond_false, okPack, okPut, okPutBlks, okPutCells, q_isP, q_isAg, q_isBox, q_isArr, q_int, q_bool, q_str, q_sl, q_nils, e_exit, e_ret, e_nrm, e_ret_exit, e_exit_ret, e_nrm_exit, e_nrm_ret, e_exit_nrm, e_ret_nrm, Nat.zero_add, Nat.reduceAdd, noslR, noslP, noslB, noslA, List.all_cons, List.all_nil]
            rw [if_neg (by decide)] at hn
            exact res_some hn

end Go.Proofs.YtiijghkfinkphaaGreatDoor.Vm

/- Lines, words and what is read of them: plain laws. -/
namespace Go.Proofs.YtiijghkfinkphaaGreatDoor.Vm
set_option linter.unusedVariables false
set_option linter.unusedSimpArgs false

theorem spl_noC {c : UInt8} {s : List UInt8} (h : ∀ b ∈ s, b ≠ c) : spl c s = [s] := by
  induction s with
  | nil => rfl
  | cons b l ih =>
    have hb : (b == c) = false := by simpa using h b (by simp)
    unfold spl
    rw [hb, ih fun x hx => h x (by simp [hx])]
    rfl

theorem spl_appC {c : UInt8} {s : List UInt8} (h : ∀ b ∈ s, b ≠ c) (t : List UInt8) : spl c (s ++ c :: t) = s :: spl c t := by
  induction s with
  | nil =>
    rw [List.nil_append, spl, beq_self_eq_true]
    rfl
  | cons b l ih =>
    have hb : (b == c) = false := by simpa using h b (by simp)
    rw [List.cons_append, spl, hb, ih fun x hx => h x (by simp [hx])]
    rfl

theorem join_two (x y : List UInt8) (r : List (List UInt8)) (c : UInt8) : Lib.join (x :: y :: r) [c] = x ++ c :: Lib.join (y :: r) [c] := by
  rw [Lib.join_cons, Lib.join_cons]
  simp [Lib.joinTail]

theorem spl_joinC {c : UInt8} : ∀ (x : List UInt8) (r : List (List UInt8)), (∀ s ∈ x :: r, ∀ b ∈ s, b ≠ c) → spl c (Lib.join (x :: r) [c]) = x :: r
  | x, [], h => by
    rw [Lib.join_one]
    exact spl_noC (h x (by simp))
  | x, y :: r, h => by
    rw [join_two, spl_appC (h x (by simp)), spl_joinC y r fun s hs => h s (by simp [hs])]

theorem words_sep {s : List UInt8} (h : ∀ b ∈ s, (b == 32 || b == 10) = false) {c : UInt8} (hc : (c == 32 || c == 10) = true) (t : List UInt8) : wordsB (s ++ c :: t) = s :: wordsB t := by
  induction s with
  | nil => rw [List.nil_append, wordsB, hc]; rfl
  | cons b l ih => rw [List.cons_append, wordsB, h b (by simp), cond_false, ih fun x hx => h x (by simp [hx])]

theorem words_join : ∀ (x : List UInt8) (r : List (List UInt8)), (∀ s ∈ x :: r, ∀ b ∈ s, (b == 32 || b == 10) = false) → wordsB (Lib.join (x :: r) [32] ++ [10]) = x :: r
  | x, [], h => by
    rw [Lib.join_one, words_sep (h x (by simp)) rfl]
    rfl
  | x, y :: r, h => by
    rw [join_two, List.append_assoc, List.cons_append, words_sep (h x (by simp)) rfl, words_join y r fun s hs => h s (by simp [hs])]

theorem itoa_char (n : Int) : ∀ b ∈ Lib.itoa n, b = 45 ∨ isD b = true := by
  intro b hb
  unfold Lib.itoa at hb
  split at hb
  · rcases List.mem_cons.1 hb with h | h
    · exact .inl h
    · exact .inr (List.all_eq_true.1 (dec_spec _).1 b h)
  · exact .inr (List.all_eq_true.1 (dec_spec _).1 b hb)

theorem char_ne {b : UInt8} (h : b = 45 ∨ isD b = true) : b ≠ 32 ∧ b ≠ 10 ∧ b ≠ 61 := by
  rcases h with rfl | h
  · decide
  · refine ⟨?_, ?_, ?_⟩ <;> rintro rfl <;> exact absurd h (by decide)

theorem itoa_ne32 (n : Int) : ∀ b ∈ Lib.itoa n, b ≠ 32 := fun b hb => (char_ne (itoa_char n b hb)).1

theorem itoa_sep (n : Int) : ∀ b ∈ Lib.itoa n, (b == 32 || b == 10) = false := fun b hb => by
  have := char_ne (itoa_char n b hb)
  simp [this.1, this.2.1]

def lineWs (t k : Int) (ws : List Int) : List (List UInt8) := Lib.itoa t :: Lib.itoa k :: ws.map Lib.itoa

theorem lineWs_all {P : UInt8 → Prop} (hP : ∀ n, ∀ b ∈ Lib.itoa n, P b) (t k : Int) (ws : List Int) : ∀ s ∈ lineWs t k ws, ∀ b ∈ s, P b := by
  intro s hs b hb
  unfold lineWs at hs
  rcases List.mem_cons.1 hs with rfl | hs
  · exact hP _ b hb
  · rcases List.mem_cons.1 hs with rfl | hs
    · exact hP _ b hb
    · obtain ⟨n, _, rfl⟩ := List.mem_map.1 hs
      exact hP _ b hb

theorem trim_nl (y : List UInt8) : Lib.trimSuffix (y ++ [10]) [10] = y := by
  unfold Lib.trimSuffix Lib.hasSuffix
  have : ([10] : List UInt8).isSuffixOf (y ++ [10]) = true := List.isSuffixOf_iff_suffix.2 ⟨y, rfl⟩
  rw [if_pos this]
  simp

theorem spl_line (t k : Int) (ws : List Int) : spl 32 (Lib.trimSuffix (lineP t k ws) [10]) = lineWs t k ws := by
  unfold lineP
  rw [trim_nl]
  exact spl_joinC _ _ (lineWs_all (P := fun b => b ≠ 32) itoa_ne32 t k ws)

theorem words_line (t k : Int) (ws : List Int) : wordsB (lineP t k ws) = lineWs t k ws :=
  words_join _ _ (lineWs_all (P := fun b => (b == 32 || b == 10) = false) itoa_sep t k ws)

def IsE (x : List UInt8) (e : En) : Prop := validP e.t e.k e.ws = true ∧ lineP e.t e.k e.ws = x

theorem valid_ten {t k : Int} {ws : List Int} (h : validP t k ws = true) : (-10000000000 < t ∧ t < 10000000000) ∧ (-10000000000 < k ∧ k < 10000000000) ∧ ∀ x ∈ ws, -10000000000 < x ∧ x < 10000000000 := by
  unfold validP at h
  simp only [Bool.and_eq_true, decide_eq_true_eq] at h
  obtain ⟨⟨⟨h1, h2⟩, h3⟩, h4⟩ := h
  have hk := wordsP_kind (k := k) (by omega)
  refine ⟨by omega, by omega, fun x hx => ?_⟩
  have := List.all_eq_true.1 h4 x hx
  simp only [Bool.and_eq_true, decide_eq_true_eq] at this
  omega

theorem itoa_inj {n m : Int} (hn : -10000000000 < n ∧ n < 10000000000) (hm : -10000000000 < m ∧ m < 10000000000) (h : Lib.itoa n = Lib.itoa m) : n = m := by
  have h1 := num_itoa hn
  rw [h, num_itoa hm] at h1
  exact (Option.some.inj h1).symm

theorem itoas_inj : ∀ {a b : List Int}, (∀ x ∈ a, -10000000000 < x ∧ x < 10000000000) → (∀ x ∈ b, -10000000000 < x ∧ x < 10000000000) → a.map Lib.itoa = b.map Lib.itoa → a = b
  | [], [], _, _, _ => rfl
  | [], y :: b, _, _, h => by simp at h
  | x :: a, [], _, _, h => by simp at h
  | x :: a, y :: b, ha, hb, h => by
    simp only [List.map_cons, List.cons.injEq] at h
    rw [itoa_inj (ha x (.head _)) (hb y (.head _)) h.1, itoas_inj (fun z hz => ha z (.tail _ hz)) (fun z hz => hb z (.tail _ hz)) h.2]

theorem IsE.unique {x : List UInt8} {a b : En} (ha : IsE x a) (hb : IsE x b) : a = b := by
  have h1 := words_line a.t a.k a.ws
  rw [ha.2, ← hb.2, words_line b.t b.k b.ws] at h1
  obtain ⟨a1, a2, a3⟩ := valid_ten ha.1
  obtain ⟨b1, b2, b3⟩ := valid_ten hb.1
  unfold lineWs at h1
  simp only [List.cons.injEq] at h1
  have e1 := itoa_inj b1 a1 h1.1
  have e2 := itoa_inj b2 a2 h1.2.1
  have e3 := itoas_inj b3 a3 h1.2.2
  cases a; cases b
  simp only at e1 e2 e3
  subst e1 e2 e3
  rfl

open Classical in
noncomputable def lineE (x : List UInt8) : Option En := if h : ∃ e, IsE x e then some h.choose else none

theorem lineE_some {x : List UInt8} {e : En} (h : IsE x e) : lineE x = some e := by
  have hx : ∃ e, IsE x e := ⟨e, h⟩
  unfold lineE
  rw [dif_pos hx]
  exact congrArg some (hx.choose_spec.unique h)
theorem lineE_none {x : List UInt8} (h : ¬ ∃ e, IsE x e) : lineE x = none := dif_neg h
theorem lineE_is {x : List UInt8} {e : En} (h : lineE x = some e) : IsE x e := by
  unfold lineE at h
  split at h
  · rename_i hx
    have := hx.choose_spec
    rw [Option.some.inj h] at this
    exact this
  · cases h

noncomputable def rdP : List (List UInt8) → List En → Int → Int → List En × Int × Int
  | [], es, s, n => (es, s, n)
  | x :: xs, es, s, n => if x = lastP s then (es, s, n + (x.length : Nat)) else match lineE x with
    | some e => if lateP es e.t = true ∧ es.length ≠ 200 then rdP xs (es ++ [e]) (sumB s x) (n + (x.length : Nat)) else (es, s, n)
    | none => (es, s, n)

theorem line_head {x : List UInt8} {e : En} (h : IsE x e) : ∃ b r, x = b :: r ∧ b ≠ 61 := by
  obtain ⟨hv, rfl⟩ := h
  have hc : ∀ n, Lib.itoa n ≠ [] := fun n => by
    unfold Lib.itoa
    split
    · simp
    · obtain ⟨_, _, b, r, h3, _⟩ := dec_spec n.toNat
      rw [h3]; simp
  unfold lineP
  rw [Lib.join_cons]
  cases hi : Lib.itoa e.t with
  | nil => exact absurd hi (hc _)
  | cons b r =>
    refine ⟨b, _, rfl, (char_ne (itoa_char e.t b ?_)).2.2⟩
    rw [hi]
    exact List.mem_cons_self ..

theorem last_noE (s : Int) : lineE (lastP s) = none := lineE_none fun ⟨e, h⟩ => by
  obtain ⟨b, r, h1, h2⟩ := line_head h
  unfold lastP at h1
  simp only [List.cons_append, List.cons.injEq] at h1
  exact h2 h1.1.symm

theorem no10_of_chars {l : List UInt8} (h : ∀ b ∈ l, b ≠ 10) (r : List UInt8) : linesB (l ++ 10 :: r) = (l ++ [10]) :: linesB r := by
  induction l with
  | nil => simp [linesB]
  | cons b l ih =>
    have hb : (b == 10) = false := by simpa using h b (by simp)
    rw [List.cons_append, linesB, hb, cond_false, ih fun x hx => h x (by simp [hx])]
    rfl
theorem lines_no10 {l : List UInt8} (h : ∀ b ∈ l, b ≠ 10) (hne : l ≠ []) : linesB l = [l] := by
  induction l with
  | nil => exact absurd rfl hne
  | cons b l ih =>
    have hb : (b == 10) = false := by simpa using h b (by simp)
    rw [linesB, hb, cond_false]
    cases l with
    | nil => rfl
    | cons c l => rw [ih (fun x hx => h x (by simp [hx])) (by simp)]

theorem join_no10 : ∀ (x : List UInt8) (r : List (List UInt8)), (∀ s ∈ x :: r, ∀ b ∈ s, b ≠ 10) → ∀ b ∈ Lib.join (x :: r) [32], b ≠ 10
  | x, [], h => by
    rw [Lib.join_one]
    exact h x (by simp)
  | x, y :: r, h => by
    rw [join_two]
    intro b hb
    rcases List.mem_append.1 hb with hb | hb
    · exact h x (by simp) b hb
    · rcases List.mem_cons.1 hb with rfl | hb
      · decide
      · exact join_no10 y r (fun s hs => h s (by simp [hs])) b hb
theorem line_form (t k : Int) (ws : List Int) : ∃ l, lineP t k ws = l ++ [10] ∧ ∀ b ∈ l, b ≠ 10 :=
  ⟨_, rfl, join_no10 _ _ (lineWs_all (P := fun b => b ≠ 10) (fun n b hb => (char_ne (itoa_char n b hb)).2.1) t k ws)⟩
theorem last_form (s : Int) : ∃ l, lastP s = l ++ [10] ∧ ∀ b ∈ l, b ≠ 10 := by
  refine ⟨[61, 32] ++ Lib.itoa s, rfl, fun b hb => ?_⟩
  rcases List.mem_append.1 hb with hb | hb
  · simp at hb
    rcases hb with rfl | rfl <;> decide
  · exact (char_ne (itoa_char s b hb)).2.1

theorem noend_noE {x : List UInt8} (h : ∀ b ∈ x, b ≠ 10) : lineE x = none ∧ ∀ s, x ≠ lastP s := by
  constructor
  · refine lineE_none fun ⟨e, he⟩ => ?_
    obtain ⟨l, h1, _⟩ := line_form e.t e.k e.ws
    rw [he.2] at h1
    exact h 10 (by rw [h1]; simp) rfl
  · rintro s rfl
    obtain ⟨l, h1, _⟩ := last_form s
    exact h 10 (by rw [h1]; simp) rfl

end Go.Proofs.YtiijghkfinkphaaGreatDoor.Vm

/- Contracts of chapter 36: what is read. -/
namespace Go.Proofs.YtiijghkfinkphaaGreatDoor.Vm
set_option linter.unusedVariables false
set_option linter.unusedSimpArgs false

theorem c_SplitR (s : List UInt8) (c : UInt8) (h : s.length < 4294967281) : denC E 53 [AV.str s, AV.str [c]] [] = some ([RV.p (PV.sl 1 (strsK (spl c s)))], []) := by
  rw [denC_eq]
  have : funK E (denC E) 53 [AV.str s, AV.str [c]] [] = match pSplit [AV.str s, AV.str [c]] with | some rs => some (rs, []) | none => none := by kernel_rfl
  rw [this]
  unfold pSplit
  simp only [h, if_true]

theorem c_TrimR (s p : List UInt8) (h : s.length ≤ 9223372036854775807) : denC E 54 [AV.str s, AV.str p] [] = some ([RV.p (PV.str (Lib.trimSuffix s p))], []) := by
  rw [denC_eq]
  have : funK E (denC E) 54 [AV.str s, AV.str p] [] = match pTrimSuffix [AV.str s, AV.str p] with | some rs => some (rs, []) | none => none := by kernel_rfl
  rw [this]
  unfold pTrimSuffix
  simp only [h, if_true]

theorem spl_lenC (c : UInt8) : ∀ s : List UInt8, (spl c s).length ≤ s.length + 1 ∧ ∀ u ∈ spl c s, u.length ≤ s.length
  | [] => by simp [spl]
  | b :: l => by
    obtain ⟨h1, h2⟩ := spl_lenC c l
    unfold spl
    split
    · refine ⟨by simp; omega, fun u hu => ?_⟩
      rcases List.mem_cons.1 hu with rfl | hu
      · simp
      · have := h2 u hu
        simp; omega
    · split
      · simp
      · rename_i p r hp
        rw [hp] at h1 h2
        refine ⟨by simp at h1 ⊢; omega, fun u hu => ?_⟩
        rcases List.mem_cons.1 hu with rfl | hu
        · have := h2 p (.head _)
          simp; omega
        · have := h2 u (.tail _ hu)
          simp; omega

def badRs : List RV := [.agg [.int .i64 0, .int .i64 0, .nils], .p (.bool false)]

theorem a_parseWs (K : List Int → Ask) : ∀ (us : List (List UInt8)) (ns : List Int), (∀ u ∈ us, u.length ≤ 281474976710656) →
    (parseWs 55 (strsK us) ns K).run (denC E) = if us.all (fun u => (atoiP u).2) = true then (K (ns ++ us.map fun u => (atoiP u).1)).run (denC E) else some badRs
  | [], ns, _ => by simp [parseWs, strsK]
  | u :: us, ns, h => by
    have ih := fun ns => a_parseWs K us ns fun v hv => h v (.tail _ hv)
    have hc := c_Atoi u (h u (.head _))
    have e1 : strsK (u :: us) = [PV.str u] :: strsK us := rfl
    rw [e1]
    have hc' : denC E 55 [.t (.p (.str u))] [] = some ([RV.p (PV.int .i64 (atoiP u).1), RV.p (PV.ifc (atoiP u).2)], []) := hc
    simp only [parseWs, Ask.run, hc']
    cases hb : (atoiP u).2 with
    | true =>
      simp only
      rw [ih]
      simp [hb]
    | false => simp [hb, badE, Ask.run, badRs]

theorem a_parseRs (K : List Int → Ask) : ∀ (us : List (List UInt8)) (ns : List Int), (∀ u ∈ us, u.length ≤ 1000000) →
    (parseRs 57 us ns K).run (denC E) = if us.all (fun u => numB u) = true then (K (ns ++ us.map fun u => numI u)).run (denC E) else some badRs
  | [], ns, _ => by simp [parseRs]
  | u :: us, ns, h => by
    have ih := fun ns => a_parseRs K us ns fun v hv => h v (.tail _ hv)
    have hc := c_rNumber u (h u (.head _))
    have hc' : denC E 57 [.t (.p (.str u))] [] = some ([RV.p (PV.int .i64 (numI u)), RV.p (PV.bool (numB u))], []) := hc
    simp only [parseRs, Ask.run, hc']
    cases hb : numB u with
    | true =>
      simp only
      rw [ih]
      simp [hb]
    | false => simp [hb, badE, Ask.run, badRs]

def endRs (x : List UInt8) : List Int → List RV
  | t :: k :: ws => [.agg [.int .i64 t, .int .i64 k, .sl 1 (intsK .i64 ws)], .p (.bool (validP t k ws && (lineP t k ws == x)))]
  | _ => badRs
theorem a_parseEnd {valid line : Nat} (hvalid : ∀ t k ws, ws.length ≤ 1000000 → denC E valid [AV.agg [PV.int .i64 t, PV.int .i64 k, PV.sl 1 (intsK .i64 ws)]] [] = some ([RV.p (PV.bool (validP t k ws))], []))
    (hline : ∀ t k ws, validP t k ws = true → denC E line [AV.agg [PV.int .i64 t, PV.int .i64 k, PV.sl 1 (intsK .i64 ws)]] [] = some ([RV.p (PV.str (lineP t k ws))], [])) (x : List UInt8) (l : List Int) (h : l.length ≤ 1000000) :
    (parseEnd valid line x l).run (denC E) = some (endRs x l) := by
  match l, h with
  | [], _ => rfl
  | [_], _ => rfl
  | t :: k :: ws, h =>
    simp only [List.length_cons] at h
    show (Ask.bool valid [.t (.agg [.int .i64 t, .int .i64 k, .sl 1 (intsK .i64 ws)])] fun v => cond v (.str line [.t (.agg [.int .i64 t, .int .i64 k, .sl 1 (intsK .i64 ws)])] fun y => .ret (some [.agg [.int .i64 t, .int .i64 k, .sl 1 (intsK .i64 ws)], .p (.bool (y == x))]))
      (.ret (some [.agg [.int .i64 t, .int .i64 k, .sl 1 (intsK .i64 ws)], .p (.bool false)]))).run (denC E) = _
    rw [a_bool (hvalid t k ws (by omega))]
    cases hv : validP t k ws with
    | false =>
      simp only [cond_false, Ask.run, endRs, hv, Bool.false_and]
    | true =>
      rw [cond_true, a_str (hline t k ws hv)]
      simp only [Ask.run, endRs, hv, Bool.true_and]

theorem e_valid (t k : Int) (ws : List Int) (h : ws.length ≤ 1000000) : denC E 37 [AV.agg [PV.int .i64 t, PV.int .i64 k, PV.sl 1 (intsK .i64 ws)]] [] = some ([RV.p (PV.bool (validP t k ws))], []) := c_ValidE t k ws (by omega)
theorem e_line (t k : Int) (ws : List Int) (h : validP t k ws = true) : denC E 21 [AV.agg [PV.int .i64 t, PV.int .i64 k, PV.sl 1 (intsK .i64 ws)]] [] = some ([RV.p (PV.str (lineP t k ws))], []) := by
  obtain ⟨v1, v2, v3, v4, v5, v6, v7⟩ := validP_all h
  exact c_lineE t k ws v2 v3 v4 (by omega) (by omega)
theorem d_valid (t k : Int) (ws : List Int) (h : ws.length ≤ 1000000) : denC E 47 [AV.agg [PV.int .i64 t, PV.int .i64 k, PV.sl 1 (intsK .i64 ws)]] [] = some ([RV.p (PV.bool (validP t k ws))], []) := c_ValidD t k ws (by omega)
theorem d_line (t k : Int) (ws : List Int) (h : validP t k ws = true) : denC E 49 [AV.agg [PV.int .i64 t, PV.int .i64 k, PV.sl 1 (intsK .i64 ws)]] [] = some ([RV.p (PV.str (lineP t k ws))], []) := by
  obtain ⟨v1, v2, v3, v4, v5, v6, v7⟩ := validP_all h
  exact c_lineD t k ws v2 v3 v4 (by omega) (by omega)

def ParseIs (x : List UInt8) (rs : List RV) : Prop :=
  (∃ e, lineE x = some e ∧ rs = [.agg (enK e), .p (.bool true)]) ∨ lineE x = none ∧ ∃ a b p, (p = PV.nils ∨ ∃ es, p = PV.sl 1 es) ∧ rs = [.agg [.int .i64 a, .int .i64 b, p], .p (.bool false)]

theorem bad_is {x : List UInt8} (h : lineE x = none) : ParseIs x badRs := .inr ⟨h, 0, 0, .nils, .inl rfl, rfl⟩
theorem end_is {x : List UInt8} {l : List Int} (h : ∀ e, IsE x e → l = e.t :: e.k :: e.ws) : ParseIs x (endRs x l) := by
  match l, h with
  | [], h => exact bad_is (lineE_none fun ⟨e, he⟩ => by cases h e he)
  | [_], h => exact bad_is (lineE_none fun ⟨e, he⟩ => by cases h e he)
  | t :: k :: ws, h =>
    cases hv : (validP t k ws && (lineP t k ws == x)) with
    | true =>
      refine .inl ⟨⟨t, k, ws⟩, lineE_some ⟨?_, ?_⟩, ?_⟩
      · simp only [Bool.and_eq_true] at hv; exact hv.1
      · simp only [Bool.and_eq_true, beq_iff_eq] at hv; exact hv.2
      · simp only [endRs, hv]; rfl
    | false =>
      refine .inr ⟨lineE_none fun ⟨e, he⟩ => ?_, t, k, .sl 1 (intsK .i64 ws), .inr ⟨_, rfl⟩, by simp only [endRs, hv]⟩
      have := h e he
      simp only [List.cons.injEq] at this
      obtain ⟨rfl, rfl, rfl⟩ := this
      rw [he.1, he.2] at hv
      simp at hv

theorem c_parseE (x : List UInt8) (hx : x.length ≤ 100000) : ∃ rs, denC E 29 [AV.str x] [] = some (rs, []) ∧ ParseIs x rs := by
  have hy := Lib.trimSuffix_le x [10]
  obtain ⟨h1, h2⟩ := spl_lenC 32 (Lib.trimSuffix x [10])
  have key : (parseT 54 53 55 37 21 [AV.str x]).run (denC E) =
      some (if (spl 32 (Lib.trimSuffix x [10])).all (fun u => (atoiP u).2) = true then endRs x ((spl 32 (Lib.trimSuffix x [10])).map fun u => (atoiP u).1) else badRs) := by
    have hs := c_SplitR (Lib.trimSuffix x [10]) 32 (by omega)
    have hs' : denC E 53 [.t (.p (.str (Lib.trimSuffix x [10]))), .t (.p (.str [32]))] [] = some ([RV.p (PV.sl 1 (strsK (spl 32 (Lib.trimSuffix x [10]))))], []) := hs
    simp only [parseT]
    rw [Nat.ble_eq_true_of_le hx, cond_true, a_str (c_TrimR x [10] (by omega))]
    simp only [Ask.run, hs']
    rw [strsK_length, Nat.ble_eq_true_of_le (by omega), cond_true, a_parseWs _ _ _ (fun u hu => by have := h2 u hu; omega)]
    split
    · rw [List.nil_append, a_parseEnd e_valid e_line x _ (by rw [List.length_map]; omega)]
    · rfl
  refine ⟨if (spl 32 (Lib.trimSuffix x [10])).all (fun u => (atoiP u).2) = true then endRs x ((spl 32 (Lib.trimSuffix x [10])).map fun u => (atoiP u).1) else badRs, ?_, ?_⟩
  · rw [denC_eq]
    have : funK E (denC E) 29 [AV.str x] [] =
      match (parseT 54 53 55 37 21 [AV.str x]).run (denC E) with | some rs => some (rs, []) | none => none := by kernel_rfl
    rw [this, key]
  · have hw : ∀ e, IsE x e → (spl 32 (Lib.trimSuffix x [10])).all (fun u => (atoiP u).2) = true ∧ (spl 32 (Lib.trimSuffix x [10])).map (fun u => (atoiP u).1) = e.t :: e.k :: e.ws := by
      intro e he
      obtain ⟨a1, a2, a3⟩ := valid_ten he.1
      rw [← he.2, spl_line]
      have hat : ∀ n : Int, -10000000000 < n ∧ n < 10000000000 → atoiP (Lib.itoa n) = (n, true) := fun n hn => by unfold atoiP; rw [atoi_itoa hn]
      have e3 : (e.ws.map Lib.itoa).map (fun u => (atoiP u).1) = e.ws := by
        rw [List.map_map]
        conv => rhs; rw [← List.map_id e.ws]
        exact List.map_congr_left fun n hn => by simp [Function.comp, hat n (a3 n hn)]
      constructor
      · unfold lineWs
        simp only [List.all_cons, hat _ a1, hat _ a2, Bool.true_and, List.all_eq_true, List.mem_map]
        rintro u ⟨n, hn, rfl⟩
        rw [hat n (a3 n hn)]
      · unfold lineWs
        simp only [List.map_cons, hat _ a1, hat _ a2, e3]
    by_cases hall : (spl 32 (Lib.trimSuffix x [10])).all (fun u => (atoiP u).2) = true
    · rw [if_pos hall]
      exact end_is fun e he => (hw e he).2
    · rw [if_neg hall]
      exact bad_is (lineE_none fun ⟨e, he⟩ => hall (hw e he).1)

theorem words_small : ∀ (x : List UInt8), (wordsB x).length ≤ x.length ∧ ∀ u ∈ wordsB x, u.length ≤ x.length
  | [] => by simp [wordsB]
  | b :: l => by
    obtain ⟨h1, h2⟩ := words_small l
    unfold wordsB
    cases (b == 32 || b == 10) with
    | true =>
      rw [cond_true]
      refine ⟨by simp; omega, fun u hu => ?_⟩
      rcases List.mem_cons.1 hu with rfl | hu
      · simp
      · have := h2 u hu
        simp; omega
    | false =>
      rw [cond_false]
      split
      · simp
      · rename_i p r hp
        rw [hp] at h1 h2
        refine ⟨by simp at h1 ⊢; omega, fun u hu => ?_⟩
        rcases List.mem_cons.1 hu with rfl | hu
        · have := h2 p (.head _)
          simp; omega
        · have := h2 u (.tail _ hu)
          simp; omega

theorem c_parseD (x : List UInt8) (hx : x.length ≤ 100000) : ∃ rs, denC E 33 [AV.str x] [] = some (rs, []) ∧ ParseIs x rs := by
  obtain ⟨h1, h2⟩ := words_small x
  have key : (parseRT 57 47 49 [AV.str x]).run (denC E) =
      some (if (wordsB x).all (fun u => numB u) = true then endRs x ((wordsB x).map fun u => numI u) else badRs) := by
    simp only [parseRT]
    rw [Nat.ble_eq_true_of_le hx, cond_true, a_parseRs _ _ _ (fun u hu => by have := h2 u hu; omega)]
    split
    · rw [List.nil_append, a_parseEnd d_valid d_line x _ (by rw [List.length_map]; omega)]
    · rfl
  refine ⟨if (wordsB x).all (fun u => numB u) = true then endRs x ((wordsB x).map fun u => numI u) else badRs, ?_, ?_⟩
  · rw [denC_eq]
    have : funK E (denC E) 33 [AV.str x] [] =
      match (parseRT 57 47 49 [AV.str x]).run (denC E) with | some rs => some (rs, []) | none => none := by kernel_rfl
    rw [this, key]
  · have hw : ∀ e, IsE x e → (wordsB x).all (fun u => numB u) = true ∧ (wordsB x).map (fun u => numI u) = e.t :: e.k :: e.ws := by
      intro e he
      obtain ⟨a1, a2, a3⟩ := valid_ten he.1
      rw [← he.2, words_line]
      have hat : ∀ n : Int, -10000000000 < n ∧ n < 10000000000 → numI (Lib.itoa n) = n ∧ numB (Lib.itoa n) = true := fun n hn => by unfold numI numB; rw [num_itoa hn]; exact ⟨rfl, rfl⟩
      have e3 : (e.ws.map Lib.itoa).map (fun u => numI u) = e.ws := by
        rw [List.map_map]
        conv => rhs; rw [← List.map_id e.ws]
        exact List.map_congr_left fun n hn => by simp [Function.comp, (hat n (a3 n hn)).1]
      constructor
      · unfold lineWs
        simp only [List.all_cons, (hat _ a1).2, (hat _ a2).2, Bool.true_and, List.all_eq_true, List.mem_map]
        rintro u ⟨n, hn, rfl⟩
        rw [(hat n (a3 n hn)).2]
      · unfold lineWs
        simp only [List.map_cons, (hat _ a1).1, (hat _ a2).1, e3]
    by_cases hall : (wordsB x).all (fun u => numB u) = true
    · rw [if_pos hall]
      exact end_is fun e he => (hw e he).2
    · rw [if_neg hall]
      exact bad_is (lineE_none fun ⟨e, he⟩ => hall (hw e he).1)

theorem sum_in (s : Int) (x : List UInt8) (h : 0 ≤ s ∧ s ≤ 18446744073709551615) : 0 ≤ sumB s x ∧ sumB s x ≤ 18446744073709551615 := sumB_rng x s h

def rdRs (r : List En × Int × Int) : List RV := [.agg [.sl 3 (ensK r.1), .int .u64 r.2.1], .p (.int .i64 r.2.2)]

theorem a_readA : ∀ (xs : List (List UInt8)) (es : List En) (s n : Int), (∀ x ∈ xs, x.length ≤ 100000) → es.length ≤ 200 → (∀ e ∈ es, e.ws.length ≤ 1000000) → 0 ≤ s ∧ s ≤ 18446744073709551615 →
    (readA 23 29 30 31 32 xs (ensK es) s n).run (denC E) = some (rdRs (rdP xs es s n))
  | [], es, s, n, _, _, _, _ => rfl
  | x :: xs, es, s, n, hx, hl, hw, hs => by
    unfold readA rdP
    rw [a_str (c_lastE (ensK es) s hs)]
    by_cases hxe : x = lastP s
    · have : (x == lastP s) = true := by simpa using hxe
      rw [this, cond_true, if_pos hxe]
      rfl
    · have : (x == lastP s) = false := by simpa using hxe
      rw [this, cond_false, if_neg hxe]
      obtain ⟨rs, hc, hp⟩ := c_parseE x (hx x (.head _))
      have hc' : denC E 29 [.t (.p (.str x))] [] = some (rs, []) := hc
      simp only [Ask.run, hc']
      rcases hp with ⟨e, h1, rfl⟩ | ⟨h1, a, b, p, hp, rfl⟩
      · rw [h1]
        have hv := (lineE_is h1).1
        obtain ⟨v1, v2, v3, v4, v5, v6, v7⟩ := validP_all hv
        simp only [enK]
        have hlt := c_late es s e (by omega)
        unfold enK at hlt
        rw [a_bool hlt]
        cases hla : lateP es e.t with
        | false =>
          rw [cond_false, if_neg (by simp)]
          rfl
        | true =>
          rw [cond_true, ensK_len]
          by_cases h200 : es.length = 200
          · rw [h200]
            rw [if_neg (by simp)]
            rfl
          · have h2 : Nat.beq es.length 200 = false := by
              cases hb : Nat.beq es.length 200 with
              | false => rfl
              | true => exact absurd (Nat.eq_of_beq_eq_true hb) h200
            rw [h2, cond_false, if_pos ⟨rfl, h200⟩, a_entry e (by omega), a_u64 (c_SumL s x (by have := hx x (.head _); omega))]
            have e1 : ensK es ++ [enK e] = ensK (es ++ [e]) := by simp [ensK]
            rw [e1]
            exact a_readA xs (es ++ [e]) (sumB s x) _ (fun y hy => hx y (.tail _ hy)) (by simp; omega) (fun y hy => by
              rcases List.mem_append.1 hy with hy | hy
              · exact hw y hy
              · simp at hy; subst hy; omega) (sum_in s x hs)
      · rw [h1]
        rcases hp with rfl | ⟨es', rfl⟩ <;> rfl

theorem lines_small (x : List UInt8) : ∀ y ∈ linesB x, y.length ≤ x.length := fun y hy => by
  have h : (linesB x).flatten = x := by
    clear hy
    induction x with
    | nil => rfl
    | cons b l ih =>
      unfold linesB
      cases hb : b == 10 with
      | true => simp [ih]
      | false =>
        rw [cond_false]
        split
        · rename_i h
          rw [h] at ih
          simp at ih
          subst ih
          rfl
        · rename_i h
          rw [h] at ih
          simpa using ih
  have := (List.sublist_flatten_of_mem hy).length_le
  rw [h] at this
  exact this

theorem c_ReadE (x : List UInt8) (hx : x.length ≤ 100000) : denC E 11 [AV.str x] [] = some (rdRs (rdP (linesB x) [] begin36 0), []) := by
  rw [denC_eq]
  have : funK E (denC E) 11 [AV.str x] [] =
    match (readT 17 23 29 30 31 32 [AV.str x]).run (denC E) with | some rs => some (rs, []) | none => none := by kernel_rfl
  have key : (readT 17 23 29 30 31 32 [AV.str x]).run (denC E) = some (rdRs (rdP (linesB x) [] begin36 0)) := by
    simp only [readT]
    rw [Nat.ble_eq_true_of_le hx, cond_true]
    simp only [Ask.run, c_New36]
    exact a_readA (linesB x) [] begin36 0 (fun y hy => by have := lines_small x y hy; omega) (by simp) (fun e he => by simp at he) (by decide)
  rw [this, key]

end Go.Proofs.YtiijghkfinkphaaGreatDoor.Vm

/- Contracts of chapter 36: the document's Read. -/
namespace Go.Proofs.YtiijghkfinkphaaGreatDoor.Vm
set_option linter.unusedVariables false
set_option linter.unusedSimpArgs false

theorem l_rdEnd (x : List UInt8) (hx : x.length ≤ 100000) (at5 : Int) (z0 : List (List PV)) (z1 : Int) (b0 : List (List PV)) (b1 : Int) (rest : List UInt8) (hr : rest = [] ∨ ∃ r, rest = 10 :: r) : ∀ (l pre : List UInt8), x = pre ++ (l ++ rest) → (∀ b ∈ l, b ≠ 10) →
    lp E (denC E) 12 0 [] 2 { vals := [AV.str x, AV.int .i64 at5, AV.int .i64 pre.length], blks := [Blk.box [AV.sl 3 z0, AV.int .u64 z1], Blk.box [AV.sl 3 b0, AV.int .u64 b1]] } =
      some (Ex.exit 2, { vals := [AV.str x, AV.int .i64 at5, AV.int .i64 ((pre ++ l).length : Nat)], blks := [Blk.box [AV.sl 3 z0, AV.int .u64 z1], Blk.box [AV.sl 3 b0, AV.int .u64 b1]] })
  | [], pre, hxx, _ => by
    rw [r12_2]
    rcases hr with rfl | ⟨r, rfl⟩
    · have h1 : ltB (pre.length : Int) (x.length : Int) = false := decide_eq_false (by rw [hxx]; simp)
      rw [h1]
      simp only [bnd_some, ctl_true, ctl_false, ctl_and, ctl_or', ctl_or2, x_toPV, x_toCs, x_toCs2, x_toEs, x_bEs, x_bCs, x_aPV, x_aCs, x_int, x_bool, x_str, x_es, x_esn, nth_0, nth_1, nth_2, nth_3, nth_4, nth_5, nth_6, nth_7, nth_8, nth_9, y_nil, y_int, y_bool, y_str, y_sl, y_nils, y_agg, y_ownp, y_own, z_nil, z_int, z_bool, z_str, z_sl, z_nils, b_nil, b_arr, b_box1, b_box2, b_box3, b_box4, List.map_cons, List.map_nil, Bool.and_self, Bool.and_true, Bool.true_and, Bool.not_true, Bool.not_false, Bool.or_false, Bool.false_or, cond_true, cond_false, okPack, okPut, okPutBlks, okPutCells, q_isP, q_isAg, q_isBox, q_isArr, q_int, q_bool, q_str, q_sl, q_nils, e_exit, e_ret, e_nrm, e_ret_exit, e_exit_ret, e_nrm_exit, e_nrm_ret, e_exit_nrm, e_ret_nrm, Nat.zero_add, Nat.reduceAdd, noslR, noslP, noslB, noslA, List.all_cons, List.all_nil, List.append_nil]
    · rw [List.nil_append] at hxx
      have h1 : ltB (pre.length : Int) (x.length : Int) = true := decide_eq_true (by rw [hxx]; simp; omega)
      have h2 : (leB 0 (pre.length : Int) && ltB (pre.length : Int) (x.length : Int)) = true := by rw [hxx]; exact in_mid pre 10 r
      have h3 : byteAt x (pre.length : Int) = 10 := by rw [hxx, byteAt_mid]; rfl
      rw [h2, h1, h3]
      have h4 : ((10 : Int) != 10) = false := rfl
      simp only [bnd_some, ctl_true, ctl_false, ctl_and, ctl_or', ctl_or2, x_toPV, x_toCs, x_toCs2, x_toEs, x_bEs, x_bCs, x_aPV, x_aCs, x_int, x_bool, x_str, x_es, x_esn, nth_0, nth_1, nth_2, nth_3, nth_4, nth_5, nth_6, nth_7, nth_8, nth_9, y_nil, y_int, y_bool, y_str, y_sl, y_nils, y_agg, y_ownp, y_own, z_nil, z_int, z_bool, z_str, z_sl, z_nils, b_nil, b_arr, b_box1, b_box2, b_box3, b_box4, List.map_cons, List.map_nil, Bool.and_self, Bool.and_true, Bool.true_and, Bool.not_true, Bool.not_false, Bool.or_false, Bool.false_or, cond_true, cond_false, okPack, okPut, okPutBlks, okPutCells, q_isP, q_isAg, q_isBox, q_isArr, q_int, q_bool, q_str, q_sl, q_nils, e_exit, e_ret, e_nrm, e_ret_exit, e_exit_ret, e_nrm_exit, e_nrm_ret, e_exit_nrm, e_ret_nrm, Nat.zero_add, Nat.reduceAdd, noslR, noslP, noslB, noslA, List.all_cons, List.all_nil, h4, List.append_nil]
  | b :: l, pre, hxx, hl => by
    have hb : (b == 10) = false := by simpa using hl b (.head _)
    have hxx' : x = pre ++ b :: (l ++ rest) := by rw [hxx]; rfl
    rw [r12_2]
    have h1 : ltB (pre.length : Int) (x.length : Int) = true := decide_eq_true (by rw [hxx']; simp; omega)
    have h2 : (leB 0 (pre.length : Int) && ltB (pre.length : Int) (x.length : Int)) = true := by rw [hxx']; exact in_mid pre b _
    have h3 : (byteAt x (pre.length : Int) != 10) = true := by
      rw [hxx', byteAt_mid]
      have := b_eq b 10
      show (!((b.toNat : Int) == 10)) = true
      rw [show ((b.toNat : Int) == 10) = (b == 10) from this, hb]
      rfl
    rw [h2, h1]
    simp only [bnd_some, ctl_true, ctl_false, ctl_and, ctl_or', ctl_or2, x_toPV, x_toCs, x_toCs2, x_toEs, x_bEs, x_bCs, x_aPV, x_aCs, x_int, x_bool, x_str, x_es, x_esn, nth_0, nth_1, nth_2, nth_3, nth_4, nth_5, nth_6, nth_7, nth_8, nth_9, y_nil, y_int, y_bool, y_str, y_sl, y_nils, y_agg, y_ownp, y_own, z_nil, z_int, z_bool, z_str, z_sl, z_nils, b_nil, b_arr, b_box1, b_box2, b_box3, b_box4, List.map_cons, List.map_nil, Bool.and_self, Bool.and_true, Bool.true_and, Bool.not_true, Bool.not_false, Bool.or_false, Bool.false_or, cond_true, cond_false, okPack, okPut, okPutBlks, okPutCells, q_isP, q_isAg, q_isBox, q_isArr, q_int, q_bool, q_str, q_sl, q_nils, e_exit, e_ret, e_nrm, e_ret_exit, e_exit_ret, e_nrm_exit, e_nrm_ret, e_exit_nrm, e_ret_nrm, Nat.zero_add, Nat.reduceAdd, noslR, noslP, noslB, noslA, List.all_cons, List.all_nil, h3]
    have hlen : x.length = pre.length + (l.length + rest.length + 1) := by rw [hxx']; simp
    rw [w64 (by omega), len_snoc pre b, l_rdEnd x hx at5 z0 z1 b0 b1 rest hr l (pre ++ [b]) (by rw [hxx']; simp) (fun c hc => hl c (.tail _ hc))]
    simp

theorem first10 : ∀ (x : List UInt8), (∀ b ∈ x, b ≠ 10) ∨ ∃ l r, x = l ++ 10 :: r ∧ ∀ b ∈ l, b ≠ 10
  | [] => .inl (by simp)
  | b :: x => by
    by_cases hb : b = 10
    · exact .inr ⟨[], x, by rw [hb]; rfl, by simp⟩
    · rcases first10 x with h | ⟨l, r, rfl, h⟩
      · exact .inl fun c hc => by
          rcases List.mem_cons.1 hc with rfl | hc
          · exact hb
          · exact h c hc
      · exact .inr ⟨b :: l, r, rfl, fun c hc => by
          rcases List.mem_cons.1 hc with rfl | hc
          · exact hb
          · exact h c hc⟩
theorem first10_eq : ∀ {l l' r r' : List UInt8}, (∀ b ∈ l, b ≠ 10) → (∀ b ∈ l', b ≠ 10) → l ++ 10 :: r = l' ++ 10 :: r' → l = l' ∧ r = r'
  | [], [], _, _, _, _, h => by simpa using h
  | [], b :: l', _, _, _, h2, h => by
    simp only [List.nil_append, List.cons_append, List.cons.injEq] at h
    exact absurd h.1.symm (h2 b (.head _))
  | b :: l, [], _, _, h1, _, h => by
    simp only [List.nil_append, List.cons_append, List.cons.injEq] at h
    exact absurd h.1 (h1 b (.head _))
  | b :: l, b' :: l', _, _, h1, h2, h => by
    simp only [List.cons_append, List.cons.injEq] at h
    obtain ⟨rfl, h⟩ := h
    obtain ⟨rfl, e⟩ := first10_eq (fun c hc => h1 c (.tail _ hc)) (fun c hc => h2 c (.tail _ hc)) h
    exact ⟨rfl, e⟩

def endN (s : Int) (rest : List UInt8) (n : Int) : Int := if (lastP s).isPrefixOf rest = true then n + ((lastP s).length : Nat) else n

theorem endN_line {s : Int} {l r : List UInt8} (h : ∀ b ∈ l, b ≠ 10) (n : Int) : endN s (l ++ 10 :: r) n = if l ++ [10] = lastP s then n + ((l ++ [10]).length : Nat) else n := by
  obtain ⟨q, h1, h2⟩ := last_form s
  unfold endN
  rw [h1]
  by_cases he : l = q
  · subst he
    rw [if_pos (List.isPrefixOf_iff_prefix.2 ⟨r, by simp⟩), if_pos rfl]
  · rw [if_neg, if_neg]
    · intro e
      exact he (List.append_cancel_right e)
    · intro hp
      obtain ⟨t, ht⟩ := List.isPrefixOf_iff_prefix.1 hp
      rw [List.append_assoc] at ht
      exact he (first10_eq h2 h ht).1.symm

theorem l_rd (x : List UInt8) (hx : x.length ≤ 100000) (z0 : List (List PV)) (z1 : Int) : ∀ (N : Nat) (pre rest : List UInt8) (es : List En) (s : Int), rest.length ≤ N → pre ++ rest = x → checkP es s = 0 →
    ∃ res, lp E (denC E) 12 0 [] 0 { vals := [AV.str x, AV.int .i64 pre.length], blks := [Blk.box [AV.sl 3 z0, AV.int .u64 z1], Blk.box [AV.sl 3 (ensK es), AV.int .u64 s]] } = some res ∧
      ((∃ es' s' n', rdP (linesB rest) es s pre.length = (es', s', n') ∧ res = (Ex.ret, { vals := [AV.int .i64 n'], blks := [Blk.box [AV.sl 3 (ensK es'), AV.int .u64 s']] })) ∨
       ∃ pre' rest' es' s', pre' ++ rest' = x ∧ checkP es' s' = 0 ∧ rdP (linesB rest) es s pre.length = (es', s', endN s' rest' pre'.length) ∧
         res = (Ex.exit 0, { vals := [AV.str x, AV.int .i64 pre'.length], blks := [Blk.box [AV.sl 3 z0, AV.int .u64 z1], Blk.box [AV.sl 3 (ensK es'), AV.int .u64 s']] })) := by
  intro N
  induction N with
  | zero =>
    intro pre rest es s hN hpr hck
    obtain rfl : rest = [] := List.length_eq_zero_iff.1 (by omega)
    rw [r12_0, l_rdEnd x hx _ z0 z1 (ensK es) s [] (.inl rfl) [] pre (by rw [← hpr]; simp) (by simp)]
    have h1 : (((pre ++ []).length : Int) == (x.length : Int)) = true := by rw [← hpr]; simp
    simp only [bnd_some, ctl_true, ctl_false, ctl_and, ctl_or', ctl_or2, x_toPV, x_toCs, x_toCs2, x_toEs, x_bEs, x_bCs, x_aPV, x_aCs, x_int, x_bool, x_str, x_es, x_esn, nth_0, nth_1, nth_2, nth_3, nth_4, nth_5, nth_6, nth_7, nth_8, nth_9, y_nil, y_int, y_bool, y_str, y_sl, y_nils, y_agg, y_ownp, y_own, z_nil, z_int, z_bool, z_str, z_sl, z_nils, b_nil, b_arr, b_box1, b_box2, b_box3, b_box4, List.map_cons, List.map_nil, Bool.and_self, Bool.and_true, Bool.true_and, Bool.not_true, Bool.not_false, Bool.or_false, Bool.false_or, cond_true, cond_false, okPack, okPut, okPutBlks, okPutCells, q_isP, q_isAg, q_isBox, q_isArr, q_int, q_bool, q_str, q_sl, q_nils, e_exit, e_ret, e_nrm, e_ret_exit, e_exit_ret, e_nrm_exit, e_nrm_ret, e_exit_nrm, e_ret_nrm, Nat.zero_add, Nat.reduceAdd, noslR, noslP, noslB, noslA, List.all_cons, List.all_nil, h1]
    exact ⟨_, rfl, .inl ⟨es, s, _, rfl, rfl⟩⟩
  | succ N ih =>
    intro pre rest es s hN hpr hck
    have hrng := checkP_rng hck
    rcases first10 rest with hno | ⟨l, r, rfl, hno⟩
    · rw [r12_0, l_rdEnd x hx _ z0 z1 (ensK es) s [] (.inl rfl) rest pre (by rw [← hpr]; simp) hno]
      have h1 : (((pre ++ rest).length : Int) == (x.length : Int)) = true := by rw [← hpr]; simp
      simp only [bnd_some, ctl_true, ctl_false, ctl_and, ctl_or', ctl_or2, x_toPV, x_toCs, x_toCs2, x_toEs, x_bEs, x_bCs, x_aPV, x_aCs, x_int, x_bool, x_str, x_es, x_esn, nth_0, nth_1, nth_2, nth_3, nth_4, nth_5, nth_6, nth_7, nth_8, nth_9, y_nil, y_int, y_bool, y_str, y_sl, y_nils, y_agg, y_ownp, y_own, z_nil, z_int, z_bool, z_str, z_sl, z_nils, b_nil, b_arr, b_box1, b_box2, b_box3, b_box4, List.map_cons, List.map_nil, Bool.and_self, Bool.and_true, Bool.true_and, Bool.not_true, Bool.not_false, Bool.or_false, Bool.false_or, cond_true, cond_false, okPack, okPut, okPutBlks, okPutCells, q_isP, q_isAg, q_isBox, q_isArr, q_int, q_bool, q_str, q_sl, q_nils, e_exit, e_ret, e_nrm, e_ret_exit, e_exit_ret, e_nrm_exit, e_nrm_ret, e_exit_nrm, e_ret_nrm, Nat.zero_add, Nat.reduceAdd, noslR, noslP, noslB, noslA, List.all_cons, List.all_nil, h1]
      refine ⟨_, rfl, .inl ⟨es, s, _, ?_, rfl⟩⟩
      by_cases hr : rest = []
      · subst hr; rfl
      · obtain ⟨a1, a2⟩ := noend_noE hno
        rw [lines_no10 hno hr, rdP, if_neg (a2 s), a1]
    · have hlen : x.length = pre.length + (l.length + (r.length + 1)) := by rw [← hpr]; simp
      rw [r12_0, l_rdEnd x hx _ z0 z1 (ensK es) s (10 :: r) (.inr ⟨r, rfl⟩) l pre (by rw [← hpr]) hno]
      have h1 : (((pre ++ l).length : Int) == (x.length : Int)) = false := by
        rw [beq_eq_false_iff_ne]
        simp; omega
      have hw : IntKind.i64.wrap (((pre ++ l).length : Int) + 1) = ((pre ++ (l ++ [10])).length : Nat) := by
        rw [w64 (by simp; omega)]
        simp; omega
      have hcut : cutI x (pre.length : Int) ((pre ++ (l ++ [10])).length : Nat) = l ++ [10] := by
        unfold cutI
        rw [← hpr]
        have : pre ++ (l ++ 10 :: r) = (pre ++ (l ++ [10])) ++ r := by simp
        rw [this, Int.toNat_natCast, Int.toNat_natCast, List.take_left, List.drop_left]
      have hin : (leB 0 (pre.length : Int) && (leB (pre.length : Int) ((pre ++ (l ++ [10])).length : Nat) && leB ((pre ++ (l ++ [10])).length : Nat) (x.length : Int))) = true := by
        have a1 : leB 0 (pre.length : Int) = true := decide_eq_true (by omega)
        have a2 : leB (pre.length : Int) ((pre ++ (l ++ [10])).length : Nat) = true := decide_eq_true (by simp; omega)
        have a3 : leB ((pre ++ (l ++ [10])).length : Nat) (x.length : Int) = true := decide_eq_true (by simp; omega)
        rw [a1, a2, a3]; rfl
      obtain ⟨rs, hc, hp⟩ := c_parseD (l ++ [10]) (by simp; omega)
      have hlines : linesB (l ++ 10 :: r) = (l ++ [10]) :: linesB r := no10_of_chars hno r
      rw [hlines]
      rcases hp with ⟨e, he, rfl⟩ | ⟨he, a, b, p, hp, rfl⟩
      · have hne : l ++ [10] ≠ lastP s := fun h => by rw [h, last_noE] at he; cases he
        obtain ⟨hv, hle⟩ := lineE_is he
        obtain ⟨v1, v2, v3, v4, v5, v6, v7⟩ := validP_all hv
        have happ := c_AppendD es s e (checkP_ws hck) (by omega)
        simp only [bnd_some, ctl_true, ctl_false, ctl_and, ctl_or', ctl_or2, x_toPV, x_toCs, x_toCs2, x_toEs, x_bEs, x_bCs, x_aPV, x_aCs, x_int, x_bool, x_str, x_es, x_esn, nth_0, nth_1, nth_2, nth_3, nth_4, nth_5, nth_6, nth_7, nth_8, nth_9, y_nil, y_int, y_bool, y_str, y_sl, y_nils, y_agg, y_ownp, y_own, z_nil, z_int, z_bool, z_str, z_sl, z_nils, b_nil, b_arr, b_box1, b_box2, b_box3, b_box4, List.map_cons, List.map_nil, Bool.and_self, Bool.and_true, Bool.true_and, Bool.not_true, Bool.not_false, Bool.or_false, Bool.false_or, cond_true, cond_false, okPack, okPut, okPutBlks, okPutCells, q_isP, q_isAg, q_isBox, q_isArr, q_int, q_bool, q_str, q_sl, q_nils, e_exit, e_ret, e_nrm, e_ret_exit, e_exit_ret, e_nrm_exit, e_nrm_ret, e_exit_nrm, e_ret_nrm, Nat.zero_add, Nat.reduceAdd, noslR, noslP, noslB, noslA, List.all_cons, List.all_nil, h1, hw, hin, hcut, hc, enK]
        unfold enK at happ
        rw [happ]
        have hl200 := checkP_len hck
        by_cases hgo : lateP es e.t = true ∧ es.length ≠ 200
        · have hap : appR es s e = [RV.agg [PV.sl 3 (ensK (es ++ [e])), PV.int .u64 (sumB s (lineP e.t e.k e.ws))], RV.p (PV.int .i64 0)] := appR_ok hck hv hgo.1 (by omega)
          have hck' := checkP_snoc hck hv hgo.1 (by omega)
          rw [hle] at hap hck'
          rw [hap]
          have h0 : ((0 : Int) != 0) = false := rfl
          simp only [bnd_some, ctl_true, ctl_false, ctl_and, ctl_or', ctl_or2, x_toPV, x_toCs, x_toCs2, x_toEs, x_bEs, x_bCs, x_aPV, x_aCs, x_int, x_bool, x_str, x_es, x_esn, nth_0, nth_1, nth_2, nth_3, nth_4, nth_5, nth_6, nth_7, nth_8, nth_9, y_nil, y_int, y_bool, y_str, y_sl, y_nils, y_agg, y_ownp, y_own, z_nil, z_int, z_bool, z_str, z_sl, z_nils, b_nil, b_arr, b_box1, b_box2, b_box3, b_box4, List.map_cons, List.map_nil, Bool.and_self, Bool.and_true, Bool.true_and, Bool.not_true, Bool.not_false, Bool.or_false, Bool.false_or, cond_true, cond_false, okPack, okPut, okPutBlks, okPutCells, q_isP, q_isAg, q_isBox, q_isArr, q_int, q_bool, q_str, q_sl, q_nils, e_exit, e_ret, e_nrm, e_ret_exit, e_exit_ret, e_nrm_exit, e_nrm_ret, e_exit_nrm, e_ret_nrm, Nat.zero_add, Nat.reduceAdd, noslR, noslP, noslB, noslA, List.all_cons, List.all_nil, h0]
          have hrd : rdP ((l ++ [10]) :: linesB r) es s pre.length = rdP (linesB r) (es ++ [e]) (sumB s (l ++ [10])) ((pre ++ (l ++ [10])).length : Nat) := by
            rw [rdP, if_neg hne, he]
            simp only
            rw [if_pos hgo]
            congr 1
            simp
          rw [hrd]
          exact ih (pre ++ (l ++ [10])) r (es ++ [e]) (sumB s (l ++ [10])) (by simp at hN; omega) (by rw [← hpr]; simp) hck'
        · have hbad : appE es s e ≠ 0 := by
            unfold appE
            rw [if_neg (by simp [hck, hv])]
            split
            · decide
            · rename_i hl
              have : lateP es e.t = true := by simpa using hl
              rw [if_pos (by
                rcases Nat.lt_or_ge es.length 200 with h | h
                · exact absurd ⟨this, by omega⟩ hgo
                · omega)]
              decide
          have hap : appR es s e = [RV.agg [PV.nils, PV.int .u64 0], RV.p (PV.int .i64 (appE es s e))] := by unfold appR; rw [if_neg hbad]
          rw [hap]
          have h0 : (appE es s e != 0) = true := by simpa using hbad
          simp only [bnd_some, ctl_true, ctl_false, ctl_and, ctl_or', ctl_or2, x_toPV, x_toCs, x_toCs2, x_toEs, x_bEs, x_bCs, x_aPV, x_aCs, x_int, x_bool, x_str, x_es, x_esn, nth_0, nth_1, nth_2, nth_3, nth_4, nth_5, nth_6, nth_7, nth_8, nth_9, y_nil, y_int, y_bool, y_str, y_sl, y_nils, y_agg, y_ownp, y_own, z_nil, z_int, z_bool, z_str, z_sl, z_nils, b_nil, b_arr, b_box1, b_box2, b_box3, b_box4, List.map_cons, List.map_nil, Bool.and_self, Bool.and_true, Bool.true_and, Bool.not_true, Bool.not_false, Bool.or_false, Bool.false_or, cond_true, cond_false, okPack, okPut, okPutBlks, okPutCells, q_isP, q_isAg, q_isBox, q_isArr, q_int, q_bool, q_str, q_sl, q_nils, e_exit, e_ret, e_nrm, e_ret_exit, e_exit_ret, e_nrm_exit, e_nrm_ret, e_exit_nrm, e_ret_nrm, Nat.zero_add, Nat.reduceAdd, noslR, noslP, noslB, noslA, List.all_cons, List.all_nil, h0]
          refine ⟨_, rfl, .inr ⟨pre, l ++ 10 :: r, es, s, hpr, hck, ?_, rfl⟩⟩
          rw [rdP, if_neg hne, he, endN_line hno, if_neg hne]
          simp only
          rw [if_neg hgo]
      · have hbad : ∀ q : PV, (q = PV.nils ∨ ∃ es, q = PV.sl 1 es) → okCs [Sh.int IntKind.i64, Sh.int IntKind.i64, Sh.sl 1] [PV.int .i64 a, PV.int .i64 b, q] = true := by
          rintro q (rfl | ⟨es, rfl⟩) <;> simp only [bnd_some, ctl_true, ctl_false, ctl_and, ctl_or', ctl_or2, x_toPV, x_toCs, x_toCs2, x_toEs, x_bEs, x_bCs, x_aPV, x_aCs, x_int, x_bool, x_str, x_es, x_esn, nth_0, nth_1, nth_2, nth_3, nth_4, nth_5, nth_6, nth_7, nth_8, nth_9, y_nil, y_int, y_bool, y_str, y_sl, y_nils, y_agg, y_ownp, y_own, z_nil, z_int, z_bool, z_str, z_sl, z_nils, b_nil, b_arr, b_box1, b_box2, b_box3, b_box4, List.map_cons, List.map_nil, Bool.and_self, Bool.and_true, Bool.true_and, Bool.not_true, Bool.not_false, Bool.or_false, Bool.false_or, cond_true, cond_false, okPack, okPut, okPutBlks, okPutCells, q_isP, q_isAg, q_isBox, q_isArr, q_int, q_bool, q_str, q_sl, q_nils, e_exit, e_ret, e_nrm, e_ret_exit, e_exit_ret, e_nrm_exit, e_nrm_ret, e_exit_nrm, e_ret_nrm, Nat.zero_add, Nat.reduceAdd, noslR, noslP, noslB, noslA, List.all_cons, List.all_nil]
        have hbp := hbad p hp
        simp only [bnd_some, ctl_true, ctl_false, ctl_and, ctl_or', ctl_or2, x_toPV, x_toCs, x_toCs2, x_toEs, x_bEs, x_bCs, x_aPV, x_aCs, x_int, x_bool, x_str, x_es, x_esn, nth_0, nth_1, nth_2, nth_3, nth_4, nth_5, nth_6, nth_7, nth_8, nth_9, y_nil, y_int, y_bool, y_str, y_sl, y_nils, y_agg, y_ownp, y_own, z_nil, z_int, z_bool, z_str, z_sl, z_nils, b_nil, b_arr, b_box1, b_box2, b_box3, b_box4, List.map_cons, List.map_nil, Bool.and_self, Bool.and_true, Bool.true_and, Bool.not_true, Bool.not_false, Bool.or_false, Bool.false_or, cond_true, cond_false, okPack, okPut, okPutBlks, okPutCells, q_isP, q_isAg, q_isBox, q_isArr, q_int, q_bool, q_str, q_sl, q_nils, e_exit, e_ret, e_nrm, e_ret_exit, e_exit_ret, e_nrm_exit, e_nrm_ret, e_exit_nrm, e_ret_nrm, Nat.zero_add, Nat.reduceAdd, noslR, noslP, noslB, noslA, List.all_cons, List.all_nil, h1, hw, hin, hcut, hc]
        simp only [z_int] at hbp
        simp only [bnd_some, ctl_true, ctl_false, ctl_and, ctl_or', ctl_or2, x_toPV, x_toCs, x_toCs2, x_toEs, x_bEs, x_bCs, x_aPV, x_aCs, x_int, x_bool, x_str, x_es, x_esn, nth_0, nth_1, nth_2, nth_3, nth_4, nth_5, nth_6, nth_7, nth_8, nth_9, y_nil, y_int, y_bool, y_str, y_sl, y_nils, y_agg, y_ownp, y_own, z_nil, z_int, z_bool, z_str, z_sl, z_nils, b_nil, b_arr, b_box1, b_box2, b_box3, b_box4, List.map_cons, List.map_nil, Bool.and_self, Bool.and_true, Bool.true_and, Bool.not_true, Bool.not_false, Bool.or_false, Bool.false_or, cond_true, cond_false, okPack, okPut, okPutBlks, okPutCells, q_isP, q_isAg, q_isBox, q_isArr, q_int, q_bool, q_str, q_sl, q_nils, e_exit, e_ret, e_nrm, e_ret_exit, e_exit_ret, e_nrm_exit, e_nrm_ret, e_exit_nrm, e_ret_nrm, Nat.zero_add, Nat.reduceAdd, noslR, noslP, noslB, noslA, List.all_cons, List.all_nil, hbp]
        refine ⟨_, rfl, .inr ⟨pre, l ++ 10 :: r, es, s, hpr, hck, ?_, rfl⟩⟩
        rw [rdP, endN_line hno, he]
        split
        · simp
        · rfl

theorem c_ReadD (x : List UInt8) (hx : x.length ≤ 100000) : denC E 12 [AV.str x] [] = some (rdRs (rdP (linesB x) [] begin36 0), []) := by
  rw [denC_eq, r12, c_NewD]
  simp only [bnd_some, ctl_true, ctl_false, ctl_and, ctl_or', ctl_or2, x_toPV, x_toCs, x_toCs2, x_toEs, x_bEs, x_bCs, x_aPV, x_aCs, x_int, x_bool, x_str, x_es, x_esn, nth_0, nth_1, nth_2, nth_3, nth_4, nth_5, nth_6, nth_7, nth_8, nth_9, y_nil, y_int, y_bool, y_str, y_sl, y_nils, y_agg, y_ownp, y_own, z_nil, z_int, z_bool, z_str, z_sl, z_nils, b_nil, b_arr, b_box1, b_box2, b_box3, b_box4, List.map_cons, List.map_nil, Bool.and_self, Bool.and_true, Bool.true_and, Bool.not_true, Bool.not_false, Bool.or_false, Bool.false_or, cond_true, cond_false, okPack, okPut, okPutBlks, okPutCells, q_isP, q_isAg, q_isBox, q_isArr, q_int, q_bool, q_str, q_sl, q_nils, e_exit, e_ret, e_nrm, e_ret_exit, e_exit_ret, e_nrm_exit, e_nrm_ret, e_exit_nrm, e_ret_nrm, Nat.zero_add, Nat.reduceAdd, noslR, noslP, noslB, noslA, List.all_cons, List.all_nil]
  obtain ⟨res, h1, h2⟩ := l_rd x hx [] 0 x.length [] x [] begin36 (Nat.le_refl _) rfl checkP_nil
  have e0 : (([] : List UInt8).length : Int) = 0 := rfl
  rw [e0] at h1 h2
  have e1 : ensK [] = [] := rfl
  rw [e1] at h1
  rw [h1]
  rcases h2 with ⟨es', s', n', h3, rfl⟩ | ⟨pre', rest', es', s', h4, hck, h3, rfl⟩
  · rw [h3]
    simp only [bnd_some, ctl_true, ctl_false, ctl_and, ctl_or', ctl_or2, x_toPV, x_toCs, x_toCs2, x_toEs, x_bEs, x_bCs, x_aPV, x_aCs, x_int, x_bool, x_str, x_es, x_esn, nth_0, nth_1, nth_2, nth_3, nth_4, nth_5, nth_6, nth_7, nth_8, nth_9, y_nil, y_int, y_bool, y_str, y_sl, y_nils, y_agg, y_ownp, y_own, z_nil, z_int, z_bool, z_str, z_sl, z_nils, b_nil, b_arr, b_box1, b_box2, b_box3, b_box4, List.map_cons, List.map_nil, Bool.and_self, Bool.and_true, Bool.true_and, Bool.not_true, Bool.not_false, Bool.or_false, Bool.false_or, cond_true, cond_false, okPack, okPut, okPutBlks, okPutCells, q_isP, q_isAg, q_isBox, q_isArr, q_int, q_bool, q_str, q_sl, q_nils, e_exit, e_ret, e_nrm, e_ret_exit, e_exit_ret, e_nrm_exit, e_nrm_ret, e_exit_nrm, e_ret_nrm, Nat.zero_add, Nat.reduceAdd, noslR, noslP, noslB, noslA, List.all_cons, List.all_nil, rdRs]
  · have hr := checkP_rng hck
    simp only [bnd_some, ctl_true, ctl_false, ctl_and, ctl_or', ctl_or2, x_toPV, x_toCs, x_toCs2, x_toEs, x_bEs, x_bCs, x_aPV, x_aCs, x_int, x_bool, x_str, x_es, x_esn, nth_0, nth_1, nth_2, nth_3, nth_4, nth_5, nth_6, nth_7, nth_8, nth_9, y_nil, y_int, y_bool, y_str, y_sl, y_nils, y_agg, y_ownp, y_own, z_nil, z_int, z_bool, z_str, z_sl, z_nils, b_nil, b_arr, b_box1, b_box2, b_box3, b_box4, List.map_cons, List.map_nil, Bool.and_self, Bool.and_true, Bool.true_and, Bool.not_true, Bool.not_false, Bool.or_false, Bool.false_or, cond_true, cond_false, okPack, okPut, okPutBlks, okPutCells, q_isP, q_isAg, q_isBox, q_isArr, q_int, q_bool, q_str, q_sl, q_nils, e_exit, e_ret, e_nrm, e_ret_exit, e_exit_ret, e_nrm_exit, e_nrm_ret, e_exit_nrm, e_ret_nrm, Nat.zero_add, Nat.reduceAdd, noslR, noslP, noslB, noslA, List.all_cons, List.all_nil]
    rw [c_lastD (ensK es') s' hr, h3]
    simp only [bnd_some, ctl_true, ctl_false, ctl_and, ctl_or', ctl_or2, x_toPV, x_toCs, x_toCs2, x_toEs, x_bEs, x_bCs, x_aPV, x_aCs, x_int, x_bool, x_str, x_es, x_esn, nth_0, nth_1, nth_2, nth_3, nth_4, nth_5, nth_6, nth_7, nth_8, nth_9, y_nil, y_int, y_bool, y_str, y_sl, y_nils, y_agg, y_ownp, y_own, z_nil, z_int, z_bool, z_str, z_sl, z_nils, b_nil, b_arr, b_box1, b_box2, b_box3, b_box4, List.map_cons, List.map_nil, Bool.and_self, Bool.and_true, Bool.true_and, Bool.not_true, Bool.not_false, Bool.or_false, Bool.false_or, cond_true, cond_false, okPack, okPut, okPutBlks, okPutCells, q_isP, q_isAg, q_isBox, q_isArr, q_int, q_bool, q_str, q_sl, q_nils, e_exit, e_ret, e_nrm, e_ret_exit, e_exit_ret, e_nrm_exit, e_nrm_ret, e_exit_nrm, e_ret_nrm, Nat.zero_add, Nat.reduceAdd, noslR, noslP, noslB, noslA, List.all_cons, List.all_nil, rdRs]
    have hll := lastP_len hr
    have hpl : pre'.length ≤ 100000 := by rw [← h4] at hx; simp at hx; omega
    have hw : IntKind.i64.wrap ((pre'.length : Int) + ((lastP s').length : Int)) = ((pre'.length + (lastP s').length : Nat) : Int) := by
      rw [w64 (by omega)]
      omega
    rw [hw]
    by_cases hle : pre'.length + (lastP s').length ≤ x.length
    · have a1 : leB ((pre'.length + (lastP s').length : Nat) : Int) (x.length : Int) = true := decide_eq_true (by omega)
      have a2 : leB 0 (pre'.length : Int) = true := decide_eq_true (by omega)
      have a3 : leB (pre'.length : Int) ((pre'.length + (lastP s').length : Nat) : Int) = true := decide_eq_true (by omega)
      have hcut : cutI x (pre'.length : Int) ((pre'.length + (lastP s').length : Nat) : Int) = rest'.take (lastP s').length := by
        unfold cutI
        rw [← h4, Int.toNat_natCast, Int.toNat_natCast, List.take_append, List.take_of_length_le (by omega), List.drop_left]
        congr 1
        omega
      rw [a1, a2, a3, hcut]
      simp only [bnd_some, ctl_true, ctl_false, ctl_and, ctl_or', ctl_or2, x_toPV, x_toCs, x_toCs2, x_toEs, x_bEs, x_bCs, x_aPV, x_aCs, x_int, x_bool, x_str, x_es, x_esn, nth_0, nth_1, nth_2, nth_3, nth_4, nth_5, nth_6, nth_7, nth_8, nth_9, y_nil, y_int, y_bool, y_str, y_sl, y_nils, y_agg, y_ownp, y_own, z_nil, z_int, z_bool, z_str, z_sl, z_nils, b_nil, b_arr, b_box1, b_box2, b_box3, b_box4, List.map_cons, List.map_nil, Bool.and_self, Bool.and_true, Bool.true_and, Bool.not_true, Bool.not_false, Bool.or_false, Bool.false_or, cond_true, cond_false, okPack, okPut, okPutBlks, okPutCells, q_isP, q_isAg, q_isBox, q_isArr, q_int, q_bool, q_str, q_sl, q_nils, e_exit, e_ret, e_nrm, e_ret_exit, e_exit_ret, e_nrm_exit, e_nrm_ret, e_exit_nrm, e_ret_nrm, Nat.zero_add, Nat.reduceAdd, noslR, noslP, noslB, noslA, List.all_cons, List.all_nil]
      unfold endN
      by_cases hp : (lastP s').isPrefixOf rest' = true
      · obtain ⟨t, ht⟩ := List.isPrefixOf_iff_prefix.1 hp
        have : (rest'.take (lastP s').length == lastP s') = true := by rw [← ht, List.take_left]; simp
        rw [this, if_pos hp]
        simp only [bnd_some, ctl_true, ctl_false, ctl_and, ctl_or', ctl_or2, x_toPV, x_toCs, x_toCs2, x_toEs, x_bEs, x_bCs, x_aPV, x_aCs, x_int, x_bool, x_str, x_es, x_esn, nth_0, nth_1, nth_2, nth_3, nth_4, nth_5, nth_6, nth_7, nth_8, nth_9, y_nil, y_int, y_bool, y_str, y_sl, y_nils, y_agg, y_ownp, y_own, z_nil, z_int, z_bool, z_str, z_sl, z_nils, b_nil, b_arr, b_box1, b_box2, b_box3, b_box4, List.map_cons, List.map_nil, Bool.and_self, Bool.and_true, Bool.true_and, Bool.not_true, Bool.not_false, Bool.or_false, Bool.false_or, cond_true, cond_false, okPack, okPut, okPutBlks, okPutCells, q_isP, q_isAg, q_isBox, q_isArr, q_int, q_bool, q_str, q_sl, q_nils, e_exit, e_ret, e_nrm, e_ret_exit, e_exit_ret, e_nrm_exit, e_nrm_ret, e_exit_nrm, e_ret_nrm, Nat.zero_add, Nat.reduceAdd, noslR, noslP, noslB, noslA, List.all_cons, List.all_nil]
        simp
      · have : (rest'.take (lastP s').length == lastP s') = false := by
          rw [beq_eq_false_iff_ne]
          intro e
          exact hp (List.isPrefixOf_iff_prefix.2 ⟨rest'.drop (lastP s').length, by conv => rhs; rw [← List.take_append_drop (lastP s').length rest', e]⟩)
        rw [this, if_neg hp]
        simp only [bnd_some, ctl_true, ctl_false, ctl_and, ctl_or', ctl_or2, x_toPV, x_toCs, x_toCs2, x_toEs, x_bEs, x_bCs, x_aPV, x_aCs, x_int, x_bool, x_str, x_es, x_esn, nth_0, nth_1, nth_2, nth_3, nth_4, nth_5, nth_6, nth_7, nth_8, nth_9, y_nil, y_int, y_bool, y_str, y_sl, y_nils, y_agg, y_ownp, y_own, z_nil, z_int, z_bool, z_str, z_sl, z_nils, b_nil, b_arr, b_box1, b_box2, b_box3, b_box4, List.map_cons, List.map_nil, Bool.and_self, Bool.and_true, Bool.true_and, Bool.not_true, Bool.not_false, Bool.or_false, Bool.false_or, cond_true, cond_false, okPack, okPut, okPutBlks, okPutCells, q_isP, q_isAg, q_isBox, q_isArr, q_int, q_bool, q_str, q_sl, q_nils, e_exit, e_ret, e_nrm, e_ret_exit, e_exit_ret, e_nrm_exit, e_nrm_ret, e_exit_nrm, e_ret_nrm, Nat.zero_add, Nat.reduceAdd, noslR, noslP, noslB, noslA, List.all_cons, List.all_nil]
    · have a1 : leB ((pre'.length + (lastP s').length : Nat) : Int) (x.length : Int) = false := decide_eq_false (by omega)
      rw [a1]
      simp only [bnd_some, ctl_true, ctl_false, ctl_and, ctl_or', ctl_or2, x_toPV, x_toCs, x_toCs2, x_toEs, x_bEs, x_bCs, x_aPV, x_aCs, x_int, x_bool, x_str, x_es, x_esn, nth_0, nth_1, nth_2, nth_3, nth_4, nth_5, nth_6, nth_7, nth_8, nth_9, y_nil, y_int, y_bool, y_str, y_sl, y_nils, y_agg, y_ownp, y_own, z_nil, z_int, z_bool, z_str, z_sl, z_nils, b_nil, b_arr, b_box1, b_box2, b_box3, b_box4, List.map_cons, List.map_nil, Bool.and_self, Bool.and_true, Bool.true_and, Bool.not_true, Bool.not_false, Bool.or_false, Bool.false_or, cond_true, cond_false, okPack, okPut, okPutBlks, okPutCells, q_isP, q_isAg, q_isBox, q_isArr, q_int, q_bool, q_str, q_sl, q_nils, e_exit, e_ret, e_nrm, e_ret_exit, e_exit_ret, e_nrm_exit, e_nrm_ret, e_exit_nrm, e_ret_nrm, Nat.zero_add, Nat.reduceAdd, noslR, noslP, noslB, noslA, List.all_cons, List.all_nil]
      unfold endN
      rw [if_neg]
      intro hp
      obtain ⟨t, ht⟩ := List.isPrefixOf_iff_prefix.1 hp
      rw [← ht] at h4
      have := congrArg List.length h4
      simp at this
      omega

theorem rd_check : ∀ (xs : List (List UInt8)) (es : List En) (s n : Int), checkP es s = 0 → checkP (rdP xs es s n).1 (rdP xs es s n).2.1 = 0
  | [], es, s, n, h => h
  | x :: xs, es, s, n, h => by
    rw [rdP]
    split
    · exact h
    · split
      · rename_i e he
        split
        · rename_i hg
          obtain ⟨hv, hl⟩ := lineE_is he
          have := checkP_snoc h hv hg.1 (by have := checkP_len h; omega)
          rw [hl] at this
          exact rd_check xs _ _ _ this
        · exact h
      · exact h

end Go.Proofs.YtiijghkfinkphaaGreatDoor.Vm
