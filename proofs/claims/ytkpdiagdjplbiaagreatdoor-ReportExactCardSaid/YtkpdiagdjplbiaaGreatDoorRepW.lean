import Derived.Test.YtkpdiagdjplbiaaGreatDoorRepR
/- Contracts of chapter 40 for any reports: percents, sums, texts of both. -/
namespace Go.Proofs.YtkpdiagdjplbiaaGreatDoor.Vm
set_option linter.unusedVariables false
set_option linter.unusedSimpArgs false

theorem big_half {n d : Int} (hd : 1000000000 < d ∧ d ≤ 10000000000) (hn : 0 ≤ n ∧ n ≤ 1000000000000) : denC E 53 [AV.int .i64 n, AV.int .i64 d] [] = some ([RV.p (PV.int .i64 0), RV.p (PV.int .i64 1)], []) := by
  rw [denC_eq, r53, denC_eq, r70a]
  have h1 : ltB n (-1000000000000000000) = false := decide_eq_false (by omega)
  have h2 : ltB 1000000000000000000 n = false := decide_eq_false (by omega)
  have h3 : ltB d 1 = false := decide_eq_false (by omega)
  have h4 : ltB 1000000000 d = true := decide_eq_true (by omega)
  simp only [h1, h2, h3, h4, Bool.true_or, Bool.or_true, SB, Nat.reduceAdd]

theorem half_up {n d : Int} (hd : 1 ≤ d) (hn : 0 ≤ n) : Half n d = if d - n % d ≤ n % d then n / d + 1 else n / d := by
  have h1 := Int.emod_nonneg n (show d ≠ 0 by omega)
  have h2 := Int.emod_lt_of_pos n (show 0 < d by omega)
  have h3 := Int.mul_ediv_add_emod n d
  unfold Half
  generalize n % d = r at *
  generalize n / d = q at *
  have e : 2 * n + d = (2 * r + d) + q * (2 * d) := by rw [← h3, Int.mul_add, Int.mul_comm q (2 * d), Int.mul_assoc]; omega
  rw [e, Int.add_mul_ediv_right _ _ (by omega)]
  split
  · have : (2 * r + d) / (2 * d) = 1 := Int.ediv_eq_iff_of_pos (by omega) |>.2 (by constructor <;> omega)
    omega
  · have : (2 * r + d) / (2 * d) = 0 := Int.ediv_eq_zero_of_lt (by omega) (by omega)
    omega

theorem c_halfX {n d : Int} (hd : 1 ≤ d ∧ d ≤ 10000000000) (hn : 0 ≤ n ∧ n ≤ 1000000000000) : denC E 35 [AV.int .i64 n, AV.int .i64 d] [] = some ([RV.p (PV.int .i64 (Half n d))], []) := by
  by_cases hb : d ≤ 1000000000
  · exact c_half40 (by omega) (by omega)
  · rw [denC_eq, r35, big_half (by omega) hn]
    have h0 : ((1 : Int) == 0) = false := rfl
    have h1 : neB d 0 = true := by simp; omega
    have e1 : n.tmod d = n % d := Int.tmod_eq_emod_of_nonneg hn.1
    have e2 : n.tdiv d = n / d := Int.tdiv_eq_ediv_of_nonneg hn.1
    have b1 := Int.emod_nonneg n (show d ≠ 0 by omega)
    have b2 := Int.emod_lt_of_pos n (show 0 < d by omega)
    have b3 : 0 ≤ n / d := Int.ediv_nonneg hn.1 (by omega)
    have b4 : n / d ≤ n := Int.ediv_le_self _ hn.1
    rw [half_up hd.1 hn.1]
    simp only [h0, h1, e1, e2, SB, Nat.reduceAdd]
    rw [w64 (n := d - n % d) (by omega), w64 (n := n / d) (by omega)]
    by_cases h : d - n % d ≤ n % d
    · have : leB (d - n % d) (n % d) = true := decide_eq_true h
      rw [this, if_pos h, w64 (n := n / d + 1) (by omega)]
      rfl
    · have : leB (d - n % d) (n % d) = false := decide_eq_false h
      rw [this, if_neg h]
      rfl

theorem c_Round {n d : Int} (hd : 1 ≤ d ∧ d ≤ 10000000000) (hn : 0 ≤ n ∧ n ≤ 1000000000000) : denC E 36 [AV.int .i64 n, AV.int .i64 d] [] = some ([RV.p (PV.int .i64 (Half n d))], []) := by
  rw [denC_eq, r36, w64 (n := 2 * d) (by omega), w64 (n := 2 * n) (by omega), w64 (n := 2 * n + d) (by omega)]
  have h1 : neB (2 * d) 0 = true := by simp; omega
  have e1 : (2 * n + d).tmod (2 * d) = (2 * n + d) % (2 * d) := Int.tmod_eq_emod_of_nonneg (by omega)
  have e2 : (2 * n + d).tdiv (2 * d) = (2 * n + d) / (2 * d) := Int.tdiv_eq_ediv_of_nonneg (by omega)
  have b1 := Int.emod_nonneg (2 * n + d) (show 2 * d ≠ 0 by omega)
  have h2 : ltB ((2 * n + d) % (2 * d)) 0 = false := decide_eq_false (by omega)
  have b3 : 0 ≤ (2 * n + d) / (2 * d) := Int.ediv_nonneg (by omega) (by omega)
  have b4 : (2 * n + d) / (2 * d) ≤ 2 * n + d := Int.ediv_le_self _ (by omega)
  rw [e1, e2, h1, h2, w64 (n := (2 * n + d) / (2 * d)) (by omega)]
  rfl

def posB (n : Int) : Bool := decide (0 ≤ n) && decide (n ≤ 2147483648)
def pctA (t0 t1 t2 t3 L : Int) : Int :=
  if (posB t0 && posB t1 && posB t2 && posB t3) = true ∧ (0 ≤ L ∧ L < 4) ∧ t0 + t1 + t2 + t3 ≠ 0 then Half (100 * (if L = 0 then t0 else if L = 1 then t1 else if L = 2 then t2 else t3)) (t0 + t1 + t2 + t3) else 0
theorem posB_rng {n : Int} (h : posB n = true) : 0 ≤ n ∧ n ≤ 2147483648 := by
  unfold posB at h
  simpa using h

theorem l_PctE (t0 t1 t2 t3 w b s L : Int) :
    lp E (denC E) 16 0 [] 0 { vals := [AV.int .i64 L, AV.int .i64 0, AV.agg [PV.int .i64 t0, PV.int .i64 t1, PV.int .i64 t2, PV.int .i64 t3], AV.int .i64 0], blks := [Blk.box [AV.int .i64 t0, AV.int .i64 t1, AV.int .i64 t2, AV.int .i64 t3, AV.int .i64 w, AV.int .i64 b, AV.int .i64 s]] } =
      some (bif posB t0 && posB t1 && posB t2 && posB t3 then (.exit 0, { vals := [AV.int .i64 L, AV.int .i64 (t0 + t1 + t2 + t3)], blks := [Blk.box [AV.int .i64 t0, AV.int .i64 t1, AV.int .i64 t2, AV.int .i64 t3, AV.int .i64 w, AV.int .i64 b, AV.int .i64 s]] }) else (.ret, { vals := [AV.int .i64 0], blks := [] })) := by
  rw [r16_0]
  simp only [m0, g0, SB, Nat.reduceAdd]
  rw [c_possible]
  show _ = some (bif (posB t0 && posB t1 && posB t2 && posB t3) then _ else _)
  rw [show (decide (0 ≤ t0) && decide (t0 ≤ 2147483648)) = posB t0 from rfl]
  cases h0 : posB t0 with
  | false => simp only [SB, Nat.reduceAdd, Bool.false_and]
  | true =>
  have k0 := posB_rng h0
  simp only [u0, SB, Nat.reduceAdd]
  rw [w64 (n := 0 + t0) (by omega), r16_0]
  simp only [m1, g1, SB, Nat.reduceAdd]
  rw [c_possible, show (decide (0 ≤ t1) && decide (t1 ≤ 2147483648)) = posB t1 from rfl]
  cases h1 : posB t1 with
  | false => simp only [SB, Nat.reduceAdd, Bool.false_and]
  | true =>
  have k1 := posB_rng h1
  simp only [u1, SB, Nat.reduceAdd]
  rw [w64 (n := 0 + t0 + t1) (by omega), r16_0]
  simp only [m2, g2, SB, Nat.reduceAdd]
  rw [c_possible, show (decide (0 ≤ t2) && decide (t2 ≤ 2147483648)) = posB t2 from rfl]
  cases h2 : posB t2 with
  | false => simp only [SB, Nat.reduceAdd, Bool.false_and]
  | true =>
  have k2 := posB_rng h2
  simp only [u2, SB, Nat.reduceAdd]
  rw [w64 (n := 0 + t0 + t1 + t2) (by omega), r16_0]
  simp only [m3, g3, SB, Nat.reduceAdd]
  rw [c_possible, show (decide (0 ≤ t3) && decide (t3 ≤ 2147483648)) = posB t3 from rfl]
  cases h3 : posB t3 with
  | false => simp only [SB, Nat.reduceAdd, Bool.false_and]
  | true =>
  have k3 := posB_rng h3
  simp only [u3, SB, Nat.reduceAdd]
  rw [w64 (n := 0 + t0 + t1 + t2 + t3) (by omega), r16_0]
  simp only [m4, SB, Nat.reduceAdd]
  rw [show (0 : Int) + t0 + t1 + t2 + t3 = t0 + t1 + t2 + t3 by omega]

theorem c_PercentE (t0 t1 t2 t3 w b s L : Int) :
    denC E 16 [AV.agg [PV.int .i64 t0, PV.int .i64 t1, PV.int .i64 t2, PV.int .i64 t3, PV.int .i64 w, PV.int .i64 b, PV.int .i64 s], AV.int .i64 L] [] = some ([RV.p (PV.int .i64 (pctA t0 t1 t2 t3 L))], []) := by
  rw [denC_eq, r16]
  by_cases hL : 0 ≤ L ∧ L < 4
  · have k1 : ltB L 0 = false := decide_eq_false (by omega)
    have k2 : leB 4 L = false := decide_eq_false (by omega)
    rw [k1, k2]
    simp only [SB, Nat.reduceAdd]
    cases hz : (t0 == 0 && (t1 == 0 && (t2 == 0 && t3 == 0))) with
    | true =>
      simp only [Bool.and_eq_true, beq_iff_eq] at hz
      obtain ⟨rfl, rfl, rfl, rfl⟩ := hz
      simp only [SB, Nat.reduceAdd]
      unfold pctA
      rw [if_neg (by simp)]
    | false =>
      rw [ctl_false, l_PctE]
      cases hp : (posB t0 && posB t1 && posB t2 && posB t3) with
      | false =>
        simp only [SB, Nat.reduceAdd]
        unfold pctA
        rw [hp, if_neg (by simp)]
      | true =>
        have hp' := hp
        simp only [Bool.and_eq_true] at hp'
        have a0 := posB_rng hp'.1.1.1
        have a1 := posB_rng hp'.1.1.2
        have a2 := posB_rng hp'.1.2
        have a3 := posB_rng hp'.2
        have hs : t0 + t1 + t2 + t3 ≠ 0 := by
          intro e
          have e0 : t0 = 0 := by omega
          have e1 : t1 = 0 := by omega
          have e2 : t2 = 0 := by omega
          have e3 : t3 = 0 := by omega
          rw [e0, e1, e2, e3] at hz
          cases hz
        have hv : pctA t0 t1 t2 t3 L = Half (100 * (if L = 0 then t0 else if L = 1 then t1 else if L = 2 then t2 else t3)) (t0 + t1 + t2 + t3) := by
          unfold pctA
          rw [if_pos ⟨hp, hL, hs⟩]
        rw [hv]
        simp only [SB, Nat.reduceAdd]
        have key : L = 0 ∨ L = 1 ∨ L = 2 ∨ L = 3 := by omega
        rcases key with rfl | rfl | rfl | rfl
        · simp only [n00, SB, Nat.reduceAdd]
          rw [w64 (n := 100 * t0) (by omega), c_halfX (by omega) (by omega)]
          rfl
        · simp only [n10, n11, SB, Nat.reduceAdd]
          rw [w64 (n := 100 * t1) (by omega), c_halfX (by omega) (by omega)]
          rfl
        · simp only [n20, n21, n22, SB, Nat.reduceAdd]
          rw [w64 (n := 100 * t2) (by omega), c_halfX (by omega) (by omega)]
          rfl
        · simp only [n30, n31, n32, n33, SB, Nat.reduceAdd]
          rw [w64 (n := 100 * t3) (by omega), c_halfX (by omega) (by omega)]
          rfl
  · have hv : pctA t0 t1 t2 t3 L = 0 := by
      unfold pctA
      rw [if_neg (fun h => hL h.2.1)]
    have k : ctl (!ltB L 0) (some (leB 4 L)) (some true) = some true := by
      by_cases h : L < 0
      · have : ltB L 0 = true := decide_eq_true h
        rw [this]; rfl
      · have a : ltB L 0 = false := decide_eq_false h
        have c : leB 4 L = true := decide_eq_true (by omega)
        rw [a, c]; rfl
    rw [k, hv]
    simp only [SB, Nat.reduceAdd]

theorem pos_step (t : Int) : (ltB t 0 || ltB 2147483648 t) = !posB t := by
  unfold posB
  by_cases h : t < 0
  · have a : ltB t 0 = true := decide_eq_true h
    have c : decide (0 ≤ t) = false := decide_eq_false (by omega)
    rw [a, c]; rfl
  · have a : ltB t 0 = false := decide_eq_false h
    have c : decide (0 ≤ t) = true := decide_eq_true (by omega)
    rw [a, c]
    by_cases h2 : 2147483648 < t
    · have b : ltB 2147483648 t = true := decide_eq_true h2
      have d : decide (t ≤ 2147483648) = false := decide_eq_false (by omega)
      rw [b, d]; rfl
    · have b : ltB 2147483648 t = false := decide_eq_false h2
      have d : decide (t ≤ 2147483648) = true := decide_eq_true (by omega)
      rw [b, d]; rfl

theorem l_PctD (t0 t1 t2 t3 w b s L : Int) :
    lp E (denC E) 17 0 [] 0 { vals := [AV.int .i64 L, AV.int .i64 0, AV.agg [PV.int .i64 t0, PV.int .i64 t1, PV.int .i64 t2, PV.int .i64 t3], AV.int .i64 0], blks := [Blk.box [AV.int .i64 t0, AV.int .i64 t1, AV.int .i64 t2, AV.int .i64 t3, AV.int .i64 w, AV.int .i64 b, AV.int .i64 s]] } =
      some (bif posB t0 && posB t1 && posB t2 && posB t3 then (.exit 0, { vals := [AV.int .i64 L, AV.int .i64 (t0 + t1 + t2 + t3)], blks := [Blk.box [AV.int .i64 t0, AV.int .i64 t1, AV.int .i64 t2, AV.int .i64 t3, AV.int .i64 w, AV.int .i64 b, AV.int .i64 s]] }) else (.ret, { vals := [AV.int .i64 0], blks := [] })) := by
  rw [r17_0]
  simp only [m0, g0, SB, Nat.reduceAdd]
  rw [pos_step]
  cases h0 : posB t0 with
  | false => simp only [SB, Nat.reduceAdd, Bool.false_and]
  | true =>
  have k0 := posB_rng h0
  simp only [u0, SB, Nat.reduceAdd]
  rw [w64 (n := 0 + t0) (by omega), r17_0]
  simp only [m1, g1, SB, Nat.reduceAdd]
  rw [pos_step]
  cases h1 : posB t1 with
  | false => simp only [SB, Nat.reduceAdd, Bool.false_and]
  | true =>
  have k1 := posB_rng h1
  simp only [u1, SB, Nat.reduceAdd]
  rw [w64 (n := 0 + t0 + t1) (by omega), r17_0]
  simp only [m2, g2, SB, Nat.reduceAdd]
  rw [pos_step]
  cases h2 : posB t2 with
  | false => simp only [SB, Nat.reduceAdd, Bool.false_and]
  | true =>
  have k2 := posB_rng h2
  simp only [u2, SB, Nat.reduceAdd]
  rw [w64 (n := 0 + t0 + t1 + t2) (by omega), r17_0]
  simp only [m3, g3, SB, Nat.reduceAdd]
  rw [pos_step]
  cases h3 : posB t3 with
  | false => simp only [SB, Nat.reduceAdd, Bool.false_and]
  | true =>
  have k3 := posB_rng h3
  simp only [u3, SB, Nat.reduceAdd]
  rw [w64 (n := 0 + t0 + t1 + t2 + t3) (by omega), r17_0]
  simp only [m4, SB, Nat.reduceAdd]
  rw [show (0 : Int) + t0 + t1 + t2 + t3 = t0 + t1 + t2 + t3 by omega]

theorem c_PercentD (t0 t1 t2 t3 w b s L : Int) :
    denC E 17 [AV.agg [PV.int .i64 t0, PV.int .i64 t1, PV.int .i64 t2, PV.int .i64 t3, PV.int .i64 w, PV.int .i64 b, PV.int .i64 s], AV.int .i64 L] [] = some ([RV.p (PV.int .i64 (pctA t0 t1 t2 t3 L))], []) := by
  rw [denC_eq, r17, l_PctD]
  cases hp : (posB t0 && posB t1 && posB t2 && posB t3) with
  | false =>
    simp only [SB, Nat.reduceAdd]
    unfold pctA
    rw [hp, if_neg (by simp)]
  | true =>
    have hp' := hp
    simp only [Bool.and_eq_true] at hp'
    have a0 := posB_rng hp'.1.1.1
    have a1 := posB_rng hp'.1.1.2
    have a2 := posB_rng hp'.1.2
    have a3 := posB_rng hp'.2
    simp only [SB, Nat.reduceAdd]
    by_cases hL : 0 ≤ L ∧ L < 4
    · have k1 : ltB L 0 = false := decide_eq_false (by omega)
      have k2 : ltB 3 L = false := decide_eq_false (by omega)
      rw [k1, k2]
      simp only [SB, Nat.reduceAdd]
      by_cases hs : t0 + t1 + t2 + t3 = 0
      · have : ((t0 + t1 + t2 + t3 : Int) == 0) = true := by simpa using hs
        rw [this]
        unfold pctA
        rw [if_neg (fun h => h.2.2 hs)]
        rfl
      · have : ((t0 + t1 + t2 + t3 : Int) == 0) = false := beq_eq_false_iff_ne.2 hs
        rw [this]
        have hv : pctA t0 t1 t2 t3 L = Half (100 * (if L = 0 then t0 else if L = 1 then t1 else if L = 2 then t2 else t3)) (t0 + t1 + t2 + t3) := by
          unfold pctA
          rw [if_pos ⟨hp, hL, hs⟩]
        rw [hv]
        simp only [SB, Nat.reduceAdd]
        have key : L = 0 ∨ L = 1 ∨ L = 2 ∨ L = 3 := by omega
        rcases key with rfl | rfl | rfl | rfl
        · simp only [n00, SB, Nat.reduceAdd]
          rw [w64 (n := 100 * t0) (by omega), c_Round (by omega) (by omega)]
          rfl
        · simp only [n10, n11, SB, Nat.reduceAdd]
          rw [w64 (n := 100 * t1) (by omega), c_Round (by omega) (by omega)]
          rfl
        · simp only [n20, n21, n22, SB, Nat.reduceAdd]
          rw [w64 (n := 100 * t2) (by omega), c_Round (by omega) (by omega)]
          rfl
        · simp only [n30, n31, n32, n33, SB, Nat.reduceAdd]
          rw [w64 (n := 100 * t3) (by omega), c_Round (by omega) (by omega)]
          rfl
    · have hv : pctA t0 t1 t2 t3 L = 0 := by
        unfold pctA
        rw [if_neg (fun h => hL h.2.1)]
      have k : (ltB L 0 || ltB 3 L) = true := by
        by_cases h : L < 0
        · have : ltB L 0 = true := decide_eq_true h
          rw [this]; rfl
        · have c : ltB 3 L = true := decide_eq_true (by omega)
          rw [c, Bool.or_true]
      rw [k, hv]
      simp only [Bool.true_or, SB, Nat.reduceAdd]

end Go.Proofs.YtkpdiagdjplbiaaGreatDoor.Vm

/- Contracts of chapter 40 for any reports: sums and texts of the document. -/
namespace Go.Proofs.YtkpdiagdjplbiaaGreatDoor.Vm
set_option linter.unusedVariables false
set_option linter.unusedSimpArgs false

theorem l_AddD (a0 a1 a2 a3 a4 a5 a6 b0 b1 b2 b3 b4 b5 b6 w p q : Int) :
    lp E (denC E) 13 0 [] 0 { vals := [AV.int .i64 0], blks := [Blk.box [AV.int .i64 a0, AV.int .i64 a1, AV.int .i64 a2, AV.int .i64 a3, AV.int .i64 a4, AV.int .i64 a5, AV.int .i64 a6], Blk.box [AV.int .i64 b0, AV.int .i64 b1, AV.int .i64 b2, AV.int .i64 b3, AV.int .i64 b4, AV.int .i64 b5, AV.int .i64 b6], Blk.box [AV.int .i64 0, AV.int .i64 0, AV.int .i64 0, AV.int .i64 0, AV.int .i64 0, AV.int .i64 0, AV.int .i64 0], Blk.box [AV.int .i64 0, AV.int .i64 0, AV.int .i64 0, AV.int .i64 0, AV.int .i64 w, AV.int .i64 p, AV.int .i64 q]] } =
      some (.exit 0, { vals := [], blks := [Blk.box [AV.int .i64 0, AV.int .i64 0, AV.int .i64 0, AV.int .i64 0, AV.int .i64 0, AV.int .i64 0, AV.int .i64 0], Blk.box [AV.int .i64 (IntKind.i64.wrap (a0 + b0)), AV.int .i64 (IntKind.i64.wrap (a1 + b1)), AV.int .i64 (IntKind.i64.wrap (a2 + b2)), AV.int .i64 (IntKind.i64.wrap (a3 + b3)), AV.int .i64 w, AV.int .i64 p, AV.int .i64 q]] }) := by
  rw [r13_0]
  simp only [m0, n00, u0, SB, Nat.reduceAdd]
  rw [r13_0]
  simp only [m1, n10, n11, u1, SB, Nat.reduceAdd]
  rw [r13_0]
  simp only [m2, n20, n21, n22, u2, SB, Nat.reduceAdd]
  rw [r13_0]
  simp only [m3, n30, n31, n32, n33, u3, SB, Nat.reduceAdd]
  rw [r13_0]
  simp only [m4, SB, Nat.reduceAdd]

theorem c_AddD (a0 a1 a2 a3 a4 a5 a6 b0 b1 b2 b3 b4 b5 b6 : Int) :
    denC E 13 [AV.agg [PV.int .i64 a0, PV.int .i64 a1, PV.int .i64 a2, PV.int .i64 a3, PV.int .i64 a4, PV.int .i64 a5, PV.int .i64 a6], AV.agg [PV.int .i64 b0, PV.int .i64 b1, PV.int .i64 b2, PV.int .i64 b3, PV.int .i64 b4, PV.int .i64 b5, PV.int .i64 b6]] [] =
      some ([RV.agg [PV.int .i64 (IntKind.i64.wrap (a0 + b0)), PV.int .i64 (IntKind.i64.wrap (a1 + b1)), PV.int .i64 (IntKind.i64.wrap (a2 + b2)), PV.int .i64 (IntKind.i64.wrap (a3 + b3)), PV.int .i64 (wAdd a4 b4), PV.int .i64 (IntKind.i64.wrap (a5 + b5)), PV.int .i64 (IntKind.i64.wrap (a6 + b6))]], []) := by
  rw [denC_eq, r13, l_AddD, l_AddD]
  unfold wAdd
  by_cases h1 : a4 = 0
  · have k1 : (a4 == 0) = true := by simp [h1]
    rw [if_pos (.inl h1)]
    simp only [k1, Bool.true_or, SB, Nat.reduceAdd]
  · have k1 : (a4 == 0) = false := by simp [h1]
    by_cases h2 : b4 = 0
    · have k2 : (b4 != 0) = false := by simp [h2]
      rw [if_neg (by omega)]
      simp only [k1, k2, Bool.false_and, Bool.or_self, SB, Nat.reduceAdd]
    · have k2 : (b4 != 0) = true := by simp [h2]
      by_cases h3 : b4 < a4
      · have k3 : ltB b4 a4 = true := by simpa [ltB] using h3
        rw [if_pos (.inr ⟨h2, h3⟩)]
        simp only [k1, k2, k3, Bool.or_self, SB, Nat.reduceAdd]
      · have k3 : ltB b4 a4 = false := by simpa [ltB] using h3
        rw [if_neg (by omega)]
        simp only [k1, k2, k3, Bool.or_self, SB, Nat.reduceAdd]

theorem c_TextD40 (a0 a1 a2 a3 a4 a5 a6 : Int) (h : ([a0, a1, a2, a3, a4, a5, a6].all i64B) = true) : denC E 15 [AV.agg [PV.int .i64 a0, PV.int .i64 a1, PV.int .i64 a2, PV.int .i64 a3, PV.int .i64 a4, PV.int .i64 a5, PV.int .i64 a6]] [] = some ([RV.p (PV.str (repB a0 a1 a2 a3 a4 a5 a6))], []) := by
  have hb : ∀ n : Int, i64B n = true → wordOk n := fun n hn => by
    unfold i64B at hn
    simp only [Bool.and_eq_true, decide_eq_true_eq] at hn
    exact hn
  simp only [List.all_cons, List.all_nil, Bool.and_true, Bool.and_eq_true] at h
  obtain ⟨h0, h1, h2, h3, h4, h5, h6⟩ := h
  have w0 := hb _ h0
  have w1 := hb _ h1
  have w2 := hb _ h2
  have w3 := hb _ h3
  have w4 := hb _ h4
  have w5 := hb _ h5
  have w6 := hb _ h6
  have l0 := itoa_len36 w0
  have l1 := itoa_len36 w1
  have l2 := itoa_len36 w2
  have l3 := itoa_len36 w3
  have l4 := itoa_len36 w4
  have l5 := itoa_len36 w5
  have l6 := itoa_len36 w6
  have c0 := c_Itoa a0 w0
  have c1 := c_Itoa a1 w1
  have c2 := c_Itoa a2 w2
  have c3 := c_Itoa a3 w3
  have c4 := c_Itoa a4 w4
  have c5 := c_Itoa a5 w5
  have c6 := c_Itoa a6 w6
  rw [repB_eq]
  generalize Lib.itoa a0 = s0 at *
  generalize Lib.itoa a1 = s1 at *
  generalize Lib.itoa a2 = s2 at *
  generalize Lib.itoa a3 = s3 at *
  generalize Lib.itoa a4 = s4 at *
  generalize Lib.itoa a5 = s5 at *
  generalize Lib.itoa a6 = s6 at *
  have ok : ∀ (x : List UInt8) (k : Nat), x.length ≤ 400 → k ≤ 100 → leN (x.length + k) 9223372036854775807 = true := fun x k hx hk => decide_eq_true (by omega)
  have ok4 : ∀ k : Nat, k ≤ 100 → leN (4 + k) 9223372036854775807 = true := fun k hk => decide_eq_true (by omega)
  rw [denC_eq, r15, c1]
  simp only [SB, Nat.reduceAdd]
  rw [ok4 _ (by omega), ctl_true, ok _ _ (by simp; omega) (by omega), ctl_true, c2]
  simp only [SB, Nat.reduceAdd]
  rw [ok _ _ (by simp; omega) (by omega), ctl_true, ok _ _ (by simp; omega) (by omega), ctl_true, c3]
  simp only [SB, Nat.reduceAdd]
  rw [ok _ _ (by simp; omega) (by omega), ctl_true, ok _ _ (by simp; omega) (by omega), ctl_true, c0]
  simp only [SB, Nat.reduceAdd]
  rw [ok _ _ (by simp; omega) (by omega), ctl_true, ok _ _ (by simp; omega) (by omega), ctl_true, c4]
  simp only [SB, Nat.reduceAdd]
  rw [ok _ _ (by simp; omega) (by omega), ctl_true, ok _ _ (by simp; omega) (by omega), ctl_true, c5]
  simp only [SB, Nat.reduceAdd]
  rw [ok _ _ (by simp; omega) (by omega), ctl_true, ok _ _ (by simp; omega) (by omega), ctl_true, c6]
  simp only [SB, Nat.reduceAdd]
  rw [ok _ _ (by simp; omega) (by omega), ctl_true, ok _ _ (by simp; omega) (by omega), ctl_true]
  simp

end Go.Proofs.YtkpdiagdjplbiaaGreatDoor.Vm

/- Contracts of chapter 40: the document's Of. -/
namespace Go.Proofs.YtkpdiagdjplbiaaGreatDoor.Vm
set_option linter.unusedVariables false
set_option linter.unusedSimpArgs false

theorem tick4_snoc (l : List Sp) (x : Sp) (lev : Int) : tick4 (l ++ [x]) lev = if x.2.2 = lev then tick4 l lev + (x.2.1 - x.1) else tick4 l lev := by
  unfold tick4
  rw [List.foldl_append]
  rfl

theorem tick4_rng (lev : Int) : ∀ (l : List Sp), (∀ x ∈ l, 0 ≤ x.1 ∧ x.1 ≤ x.2.1 ∧ x.2.1 ≤ 2147483648) → 0 ≤ tick4 l lev ∧ tick4 l lev ≤ 2147483648 * l.length
  | [], _ => by simp [tick4]
  | x :: l, h => by
    have ih := tick4_rng lev l fun y hy => h y (.tail _ hy)
    have hx := h x (.head _)
    rw [tick4_cons]
    simp only [List.length_cons]
    split <;> omega

theorem getE_span {sp : List Sp} {i : Int} (hi : 0 ≤ i ∧ i < sp.length) {α : Type} (K : List PV → Option α) : getE (spanK sp) i K = K [PV.int .i64 (sp.getD i.toNat (0, 0, 0)).1, PV.int .i64 (sp.getD i.toNat (0, 0, 0)).2.1, PV.int .i64 (sp.getD i.toNat (0, 0, 0)).2.2] := by
  unfold getE
  have q1 : leB 0 i = true := decide_eq_true hi.1
  have q2 : ltB i ((spanK sp).length : Int) = true := decide_eq_true (by rw [spanK_len]; omega)
  rw [q1, q2]
  simp only [Bool.and_self, ctl_true]
  have hlt : i.toNat < sp.length := by omega
  rw [nth_eq]
  simp [spanK, List.getD, hlt]

abbrev z7b : Blk := Blk.box [AV.int .i64 0, AV.int .i64 0, AV.int .i64 0, AV.int .i64 0, AV.int .i64 0, AV.int .i64 0, AV.int .i64 0]

theorem l_OfD0 (frm to : Int) (b0 : List (List PV)) (b1 : Int) (sp : List Sp) (hsp : ∀ x ∈ sp, 0 ≤ x.1 ∧ x.1 ≤ x.2.1 ∧ x.2.1 ≤ 2147483648) (hl : sp.length ≤ 1000) : ∀ (l done : List Sp), done ++ l = sp →
    lp E (denC E) 10 0 [] 0 { vals := [AV.int .i64 frm, AV.int .i64 to, AV.sl 3 (spanK sp), AV.int .i64 sp.length, AV.int .i64 done.length], blks := [Blk.box [AV.sl 3 b0, AV.int .u64 b1], z7b, Blk.box [AV.int .i64 (tick4 done 0), AV.int .i64 (tick4 done 1), AV.int .i64 (tick4 done 2), AV.int .i64 (tick4 done 3), AV.int .i64 0, AV.int .i64 0, AV.int .i64 0]] } =
      some (.exit 0, { vals := [AV.int .i64 frm, AV.int .i64 to], blks := [Blk.box [AV.sl 3 b0, AV.int .u64 b1], z7b, Blk.box [AV.int .i64 (tick4 sp 0), AV.int .i64 (tick4 sp 1), AV.int .i64 (tick4 sp 2), AV.int .i64 (tick4 sp 3), AV.int .i64 0, AV.int .i64 0, AV.int .i64 0]] }) := by
  intro l
  induction l with
  | nil =>
    intro done hd
    rw [List.append_nil] at hd
    subst hd
    rw [r10_0]
    have h1 : ltB (done.length : Int) (done.length : Int) = false := decide_eq_false (by omega)
    rw [h1, ctl_false]
  | cons x l ih =>
    intro done hd
    have hlt : 0 ≤ (done.length : Int) ∧ (done.length : Int) < (sp.length : Int) := by rw [← hd]; exact mid_lt done x l
    have h1 : ltB (done.length : Int) (sp.length : Int) = true := decide_eq_true hlt.2
    have hx : sp.getD (done.length : Int).toNat (0, 0, 0) = x := by rw [Int.toNat_natCast, ← hd, getD_mid]
    have hxr := hsp x (by rw [← hd]; simp)
    have hdr : ∀ lev, 0 ≤ tick4 done lev ∧ tick4 done lev ≤ 2147483648 * done.length := fun lev => tick4_rng lev done fun y hy => hsp y (by rw [← hd]; simp [hy])
    have hdl : done.length ≤ 1000 := by omega
    have hs := fun lev => tick4_snoc done x lev
    have ih := ih (done ++ [x]) (by rw [← hd]; simp)
    rw [r10_0, h1, ctl_true, getE_span hlt, hx]
    simp only [SB, Nat.reduceAdd]
    rw [w64 (n := (done.length : Int) + 1) (by omega), len_snoc done x, w64 (n := x.2.1 - x.1) (by omega)]
    simp only [hs] at ih
    obtain ⟨u, v, w⟩ := x
    simp only at hxr ih ⊢
    have a0 := hdr 0
    have a1 := hdr 1
    have a2 := hdr 2
    have a3 := hdr 3
    by_cases hw : 0 ≤ w ∧ w ≤ 3
    · have k1 : leB 0 w = true := decide_eq_true hw.1
      have k2 : leB w 3 = true := decide_eq_true hw.2
      have key : w = 0 ∨ w = 1 ∨ w = 2 ∨ w = 3 := by omega
      rcases key with rfl | rfl | rfl | rfl
      · simp only [k1, k2, n00, SB, Nat.reduceAdd]
        rw [w64 (n := tick4 done 0 + (v - u)) (by omega)]
        simpa using ih
      · simp only [k1, k2, n10, n11, SB, Nat.reduceAdd]
        rw [w64 (n := tick4 done 1 + (v - u)) (by omega)]
        simpa using ih
      · simp only [k1, k2, n20, n21, n22, SB, Nat.reduceAdd]
        rw [w64 (n := tick4 done 2 + (v - u)) (by omega)]
        simpa using ih
      · simp only [k1, k2, n30, n31, n32, n33, SB, Nat.reduceAdd]
        rw [w64 (n := tick4 done 3 + (v - u)) (by omega)]
        simpa using ih
    · have k : ctl (leB 0 w) (some (leB w 3)) (some false) = some false := by
        by_cases h : 0 ≤ w
        · have e1 : leB 0 w = true := decide_eq_true h
          have e2 : leB w 3 = false := decide_eq_false (by omega)
          rw [e1, e2]; rfl
        · have e1 : leB 0 w = false := decide_eq_false h
          rw [e1]; rfl
      have k' : (leB 0 w && leB w 3) = false := by
        rw [ctl_and] at k
        exact Option.some.inj k
      simp only [k', SB, Nat.reduceAdd]
      rw [if_neg (by omega), if_neg (by omega), if_neg (by omega), if_neg (by omega)] at ih
      exact ih

theorem s_OfD2 (frm to : Int) (B : Blk) (x0 x1 x2 x3 w : Int) (b0 : List (List PV)) (b1 : Int) :
    lp E (denC E) 10 0 [] 2 { vals := [AV.int .i64 frm, AV.int .i64 to, AV.int .i64 3], blks := [Blk.box [AV.sl 3 b0, AV.int .u64 b1], z7b, Blk.box [AV.int .i64 x0, AV.int .i64 x1, AV.int .i64 x2, AV.int .i64 x3, AV.int .i64 0, AV.int .i64 0, AV.int .i64 0]] } =
      some (.exit 2, { vals := [AV.int .i64 frm, AV.int .i64 to], blks := [Blk.box [AV.sl 3 b0, AV.int .u64 b1], z7b, Blk.box [AV.int .i64 x0, AV.int .i64 x1, AV.int .i64 x2, AV.int .i64 x3, AV.int .i64 (wst x1 x2 x3), AV.int .i64 0, AV.int .i64 0]] }) := by
  have q3 : leB 1 3 = true := rfl
  have q2 : leB 1 2 = true := rfl
  have q1 : leB 1 1 = true := rfl
  have q0 : leB 1 0 = false := rfl
  have v3 : IntKind.i64.wrap (3 - 1) = 2 := rfl
  have v2 : IntKind.i64.wrap (2 - 1) = 1 := rfl
  have v1 : IntKind.i64.wrap (1 - 1) = 0 := rfl
  unfold wst
  by_cases h3 : 0 < x3 <;> by_cases h2 : 0 < x2 <;> by_cases h1 : 0 < x1
  all_goals
    have k3 : ltB 0 x3 = decide (0 < x3) := rfl
    have k2 : ltB 0 x2 = decide (0 < x2) := rfl
    have k1 : ltB 0 x1 = decide (0 < x1) := rfl
    simp only [h3, h2, h1, decide_true, decide_false] at k3 k2 k1
    simp only [h3, h2, h1, if_true, if_false]
    rw [r10_2]
    simp only [q3, n30, n31, n32, n33, k3, v3, SB, Nat.reduceAdd]
    rw [r10_2]
    simp only [q2, n20, n21, n22, n23, k2, v2, SB, Nat.reduceAdd]
    rw [r10_2]
    simp only [q1, n10, n11, n12, n13, k1, v1, SB, Nat.reduceAdd]
    rw [r10_2]
    simp only [q0, SB, Nat.reduceAdd]

def cntS : Int → List Int → Nat
  | _, [] => 0
  | last, x :: l => if x = last then cntS last l else cntS x l + 1
theorem cntS_dup : ∀ (l : List Int) (last : Int), (noDup (last :: l)).length = cntS last l + 1
  | [], last => rfl
  | x :: l, last => by
    rw [noDup_step, cntS]
    by_cases h : last = x
    · subst h
      rw [if_pos rfl, if_pos rfl, cntS_dup l last]
    · rw [if_neg h, if_neg (fun e => h e.symm), List.length_cons, cntS_dup l x]
theorem cntS_none {l : List Int} (h : ∀ x ∈ l, 0 ≤ x) : cntS (-1) l = (noDup l).length := by
  cases l with
  | nil => rfl
  | cons x l =>
    have := h x (.head _)
    rw [cntS, if_neg (by omega), cntS_dup]
theorem ofKind_cons (t k kind a b : Int) (l : List (Int × Int)) : ofKind ((t, k) :: l) kind a b = if a ≤ t ∧ t < b ∧ k = kind then t :: ofKind l kind a b else ofKind l kind a b := by
  unfold ofKind
  rw [List.filter_cons]
  by_cases h : a ≤ t ∧ t < b ∧ k = kind
  · have : (decide (a ≤ t) && decide (t < b) && decide (k = kind)) = true := by simpa [and_assoc] using h
    rw [if_pos h]
    simp [this]
  · have : (decide (a ≤ t) && decide (t < b) && decide (k = kind)) = false := by
      cases hc : (decide (a ≤ t) && decide (t < b) && decide (k = kind)) with
      | false => rfl
      | true =>
        simp only [Bool.and_eq_true, decide_eq_true_eq] at hc
        exact absurd ⟨hc.1.1, hc.1.2, hc.2⟩ h
    rw [if_neg h]
    simp [this]

theorem l_OfD4 (frm to : Int) (b : List En) (hb : b.length ≤ 1000) (x0 x1 x2 x3 w : Int) : ∀ (l pre : List En) (last br sh : Int), pre ++ l = b → 0 ≤ br ∧ br + l.length ≤ 100000 → 0 ≤ sh ∧ sh + l.length ≤ 100000 →
    lp E (denC E) 10 0 [] 4 { vals := [AV.int .i64 frm, AV.int .i64 to, AV.int .i64 last, AV.sl 3 (ensK b), AV.int .i64 b.length, AV.int .i64 pre.length], blks := [z7b, Blk.box [AV.int .i64 x0, AV.int .i64 x1, AV.int .i64 x2, AV.int .i64 x3, AV.int .i64 w, AV.int .i64 br, AV.int .i64 sh]] } =
      some (.exit 4, { vals := [], blks := [z7b, Blk.box [AV.int .i64 x0, AV.int .i64 x1, AV.int .i64 x2, AV.int .i64 x3, AV.int .i64 w, AV.int .i64 (br + ((ofKind (tkB l) 4 frm to).length : Nat)), AV.int .i64 (sh + (cntS last (ofKind (tkB l) 8 frm to) : Nat))]] }) := by
  intro l
  induction l with
  | nil =>
    intro pre last br sh hp hbr hsh
    rw [r10_4]
    have h1 : ltB (pre.length : Int) (b.length : Int) = false := decide_eq_false (by rw [← hp]; simp)
    rw [h1, ctl_false]
    have e1 : (ofKind (tkB []) 4 frm to).length = 0 := rfl
    have e2 : cntS last (ofKind (tkB []) 8 frm to) = 0 := rfl
    rw [e1, e2]
    simp
  | cons e l ih =>
    intro pre last br sh hp hbr hsh
    have hlt : 0 ≤ (pre.length : Int) ∧ (pre.length : Int) < (b.length : Int) := by rw [← hp]; exact mid_lt pre e l
    have h1 : ltB (pre.length : Int) (b.length : Int) = true := decide_eq_true hlt.2
    have e1 : b.getD (pre.length : Int).toNat default = e := by rw [Int.toNat_natCast, ← hp, getD_mid]
    have e2 : okCs [Sh.int IntKind.i64, Sh.int IntKind.i64, Sh.sl 1] (enK e) = true := rfl
    have c0 : (nth PV.nilp (enK e) 0).toInt = e.t := rfl
    have c1 : (nth PV.nilp (enK e) 1).toInt = e.k := rfl
    have e3 : tkB (e :: l) = (e.t, e.k) :: tkB l := rfl
    have ih := fun last br sh => ih (pre ++ [e]) last br sh (by rw [← hp]; simp)
    simp only [List.length_cons] at hbr hsh
    rw [r10_4, h1, ctl_true, getE_ens hlt, e1, e2, ctl_true, c0, c1, e3, ofKind_cons, ofKind_cons]
    rw [w64 (n := (pre.length : Int) + 1) (by omega), len_snoc pre e]
    by_cases hin : frm ≤ e.t ∧ e.t < to
    · have k1 : ltB e.t frm = false := decide_eq_false (by omega)
      have k2 : leB to e.t = false := decide_eq_false (by omega)
      by_cases h4 : e.k = 4
      · have g1 : (e.k == 4) = true := by simp [h4]
        have g2 : (e.k == 8) = false := by rw [h4]; rfl
        rw [if_pos ⟨hin.1, hin.2, h4⟩, if_neg (by omega)]
        simp only [k1, k2, g1, g2, Bool.or_self, SB, Nat.reduceAdd]
        rw [w64 (n := br + 1) (by omega), ih last (br + 1) sh (by omega) (by omega)]
        simp
        omega
      · have g1 : (e.k == 4) = false := beq_eq_false_iff_ne.2 h4
        rw [if_neg (show ¬ (frm ≤ e.t ∧ e.t < to ∧ e.k = 4) from fun h => h4 h.2.2)]
        by_cases h8 : e.k = 8
        · have g2 : (e.k == 8) = true := by simp [h8]
          rw [if_pos ⟨hin.1, hin.2, h8⟩, cntS]
          by_cases hl : e.t = last
          · have g3 : (e.t != last) = false := by simp [hl]
            rw [if_pos hl]
            simp only [k1, k2, g1, g2, g3, Bool.or_self, Bool.and_false, SB, Nat.reduceAdd]
            rw [ih last br sh (by omega) (by omega)]
          · have g3 : (e.t != last) = true := by simp [hl]
            rw [if_neg hl]
            simp only [k1, k2, g1, g2, g3, Bool.or_self, SB, Nat.reduceAdd]
            rw [w64 (n := sh + 1) (by omega), ih e.t br (sh + 1) (by omega) (by omega)]
            simp
            omega
        · have g2 : (e.k == 8) = false := beq_eq_false_iff_ne.2 h8
          rw [if_neg (show ¬ (frm ≤ e.t ∧ e.t < to ∧ e.k = 8) from fun h => h8 h.2.2)]
          simp only [k1, k2, g1, g2, Bool.or_self, Bool.false_and, SB, Nat.reduceAdd]
          rw [ih last br sh (by omega) (by omega)]
    · have k : (ltB e.t frm || leB to e.t) = true := by
        by_cases h : e.t < frm
        · have : ltB e.t frm = true := decide_eq_true h
          rw [this]; rfl
        · have : leB to e.t = true := decide_eq_true (by omega)
          rw [this, Bool.or_true]
      rw [if_neg (show ¬ (frm ≤ e.t ∧ e.t < to ∧ e.k = 4) from fun h => hin ⟨h.1, h.2.1⟩), if_neg (show ¬ (frm ≤ e.t ∧ e.t < to ∧ e.k = 8) from fun h => hin ⟨h.1, h.2.1⟩)]
      simp only [k, SB, Nat.reduceAdd]
      rw [ih last br sh (by omega) (by omega)]

theorem c_OfD (b : List En) (bs frm to : Int) (hws : ∀ e ∈ b, e.ws.length ≤ 1000000) : denC E 10 [AV.agg [PV.sl 3 (ensK b), PV.int .u64 bs], AV.int .i64 frm, AV.int .i64 to] [] = some (ofR b bs frm to, []) := by
  rw [denC_eq, r10, c_SpansD b bs 1 frm to hws]
  simp only [SB, Nat.reduceAdd]
  unfold ofR
  by_cases h : spanE' b bs 1 frm to = 0
  · have h1 : (spanE' b bs 1 frm to != 0) = false := by simp [h]
    obtain ⟨hc, hr1, hr2, hr3⟩ := spanE_rng h
    have hl := checkP_len hc
    have hok := spanL_oks h
    unfold okSpans at hok
    simp only [Bool.and_eq_true, List.all_eq_true, decide_eq_true_eq] at hok
    have h0 := l_OfD0 frm to (ensK b) bs (spanL b bs 1 frm to) (fun x hx => by have := hok.2 x hx; omega) (Nat.le_of_ble_eq_true hok.1) (spanL b bs 1 frm to) [] rfl
    have z4 : ∀ lev, tick4 [] lev = 0 := fun _ => rfl
    simp only [List.length_nil, Int.ofNat_zero, z4] at h0
    have h4 := fun x0 x1 x2 x3 w => l_OfD4 frm to b (by omega) x0 x1 x2 x3 w b [] (-1) 0 0 rfl (by omega) (by omega)
    simp only [List.length_nil, Int.ofNat_zero, Int.zero_add] at h4
    rw [h1, ctl_false, spanK_len, h0, if_pos h]
    simp only [SB, Nat.reduceAdd]
    rw [s_OfD2 frm to z7b _ _ _ _ 0]
    simp only [SB, Nat.reduceAdd]
    rw [ensK_len, h4]
    simp only [SB, Nat.reduceAdd]
    rw [cntS_none (fun x hx => by have := ofKind_mem hx; omega)]
  · have h1 : (spanE' b bs 1 frm to != 0) = true := by simpa using h
    rw [h1, ctl_true, if_neg h]

end Go.Proofs.YtkpdiagdjplbiaaGreatDoor.Vm

/- Contracts of chapter 40: the document's Read. -/
namespace Go.Proofs.YtkpdiagdjplbiaaGreatDoor.Vm
set_option linter.unusedVariables false
set_option linter.unusedSimpArgs false

def sepB (b : UInt8) : Bool := b == 32 || b == 10
def swA : List (List UInt8) → List UInt8 → List UInt8 → List (List UInt8)
  | done, _, [] => done
  | done, cur, b :: l => if sepB b then swA (done ++ [cur]) [] l else swA done (cur ++ [b]) l

theorem sw_word {w : List UInt8} (h : ∀ b ∈ w, sepB b = false) (d : List (List UInt8)) (cur r : List UInt8) : swA d cur (w ++ r) = swA d (cur ++ w) r := by
  induction w generalizing cur with
  | nil => simp
  | cons b w ih =>
    rw [List.cons_append, swA, h b (.head _)]
    have := ih (fun c hc => h c (.tail _ hc)) (cur ++ [b])
    simpa using this

theorem sw_step {w : List UInt8} (h : ∀ b ∈ w, sepB b = false) {c : UInt8} (hc : sepB c = true) (d : List (List UInt8)) (r : List UInt8) : swA d [] (w ++ c :: r) = swA (d ++ [w]) [] r := by
  rw [sw_word h, swA, hc, List.nil_append, if_pos rfl]

theorem itoa_sepB (n : Int) : ∀ b ∈ Lib.itoa n, sepB b = false := by
  have key : ∀ u : Nat, ∀ b ∈ Lib.decDigits u, sepB b = false := fun u b hb => by
    have := List.all_eq_true.1 (dec_spec u).1 b hb
    unfold isD at this
    simp only [Bool.and_eq_true, decide_eq_true_eq] at this
    unfold sepB
    have h1 : b ≠ 32 := fun e => by rw [e] at this; exact absurd this.1 (by decide)
    have h2 : b ≠ 10 := fun e => by rw [e] at this; exact absurd this.1 (by decide)
    simp [h1, h2]
  intro b hb
  unfold Lib.itoa at hb
  split at hb
  · rcases List.mem_cons.1 hb with rfl | hb
    · rfl
    · exact key _ b hb
  · exact key _ b hb

theorem sw_rep (a0 a1 a2 a3 a4 a5 a6 : Int) : swA [] [] (repB a0 a1 a2 a3 a4 a5 a6) =
    [[114, 101, 100], Lib.itoa a1, [121, 101, 108, 108, 111, 119], Lib.itoa a2, [103, 114, 101, 101, 110], Lib.itoa a3, [110, 111, 110, 101], Lib.itoa a0, [119, 111, 114, 115, 116], Lib.itoa a4, [98, 114, 111, 107, 101, 110], Lib.itoa a5, [115, 104, 111, 114, 116], Lib.itoa a6] := by
  rw [repB_eq]
  have lit : ∀ (w : List UInt8) (c : UInt8) (d : List (List UInt8)) (r : List UInt8), (w.all fun b => !sepB b) = true → sepB c = true → swA d [] (w ++ c :: r) = swA (d ++ [w]) [] r := fun w c d r h hc =>
    sw_step (fun b hb => by have := List.all_eq_true.1 h b hb; simpa using this) hc d r
  have num : ∀ (n : Int) (c : UInt8) (d : List (List UInt8)) (r : List UInt8), sepB c = true → swA d [] (Lib.itoa n ++ c :: r) = swA (d ++ [Lib.itoa n]) [] r := fun n c d r hc => sw_step (itoa_sepB n) hc d r
  refine (lit [114, 101, 100] 32 _ _ rfl rfl).trans ?_
  refine (num a1 32 _ _ rfl).trans ?_
  refine (lit [121, 101, 108, 108, 111, 119] 32 _ _ rfl rfl).trans ?_
  refine (num a2 32 _ _ rfl).trans ?_
  refine (lit [103, 114, 101, 101, 110] 32 _ _ rfl rfl).trans ?_
  refine (num a3 32 _ _ rfl).trans ?_
  refine (lit [110, 111, 110, 101] 32 _ _ rfl rfl).trans ?_
  refine (num a0 10 _ _ rfl).trans ?_
  refine (lit [119, 111, 114, 115, 116] 32 _ _ rfl rfl).trans ?_
  refine (num a4 10 _ _ rfl).trans ?_
  refine (lit [98, 114, 111, 107, 101, 110] 32 _ _ rfl rfl).trans ?_
  refine (num a5 10 _ _ rfl).trans ?_
  refine (lit [115, 104, 111, 114, 116] 32 _ _ rfl rfl).trans ?_
  refine (num a6 10 _ _ rfl).trans ?_
  rfl

theorem sw_len : ∀ (l : List UInt8) (d : List (List UInt8)) (cur : List UInt8) (n : Nat), cur.length + l.length ≤ n → (∀ w ∈ d, w.length ≤ n) → ∀ w ∈ swA d cur l, w.length ≤ n
  | [], d, cur, n, _, hd => hd
  | b :: l, d, cur, n, h, hd => by
    simp only [List.length_cons] at h
    rw [swA]
    split
    · refine sw_len l _ [] n (by simp; omega) fun w hw => ?_
      rcases List.mem_append.1 hw with hw | hw
      · exact hd w hw
      · simp at hw; subst hw; omega
    · exact sw_len l d _ n (by simp; omega) hd

theorem l_RdD0 (text : List UInt8) (ht : text.length ≤ 100000) : ∀ (rest front cur : List UInt8) (done : List (List UInt8)), text = front ++ (cur ++ rest) → done.length + rest.length ≤ 100000 →
    lp E (denC E) 19 0 [] 0 { vals := [AV.str text, AV.int .i64 front.length, AV.int .i64 ((front ++ cur).length : Nat)], blks := [z7b, Blk.arr 1 (strsK done)] } = some (.exit 0, { vals := [AV.str text], blks := [z7b, Blk.arr 1 (strsK (swA done cur rest))] }) := by
  intro rest
  induction rest with
  | nil =>
    intro front cur done he hl
    rw [r19_0]
    have h1 : ltB ((front ++ cur).length : Int) (text.length : Int) = false := decide_eq_false (by rw [he]; simp)
    rw [h1, ctl_false]
    rfl
  | cons b rest ih =>
    intro front cur done he hl
    have he' : text = (front ++ cur) ++ b :: rest := by rw [he]; simp
    have hin : (leB 0 ((front ++ cur).length : Int) && ltB ((front ++ cur).length : Int) (text.length : Int)) = true := by rw [he']; exact in_mid _ b rest
    have h1 : ltB ((front ++ cur).length : Int) (text.length : Int) = true := decide_eq_true (by rw [he']; simp; omega)
    have hby : byteAt text ((front ++ cur).length : Int) = (b.toNat : Int) := by
      rw [he']
      exact byteAt_mid _ b rest
    have hlen : text.length = front.length + cur.length + (rest.length + 1) := by rw [he']; simp <;> omega
    simp only [List.length_cons] at hl
    have hw : IntKind.i64.wrap (((front ++ cur).length : Int) + 1) = (((front ++ cur) ++ [b]).length : Nat) := by
      rw [w64 (by simp; omega)]
      simp <;> omega
    have e32 : ((b.toNat : Int) == 32) = (b == 32) := b_eq b 32
    have e10 : ((b.toNat : Int) == 10) = (b == 10) := b_eq b 10
    have hc : ∀ K : Bool → Option (Ex × Pack), (bnd (ctl (!(b == 32)) (some (b == 10)) (some true)) K) = K (sepB b) := fun K => by
      unfold sepB
      cases b == 32 <;> rfl
    rw [r19_0, hin, h1, hby, e32, e10]
    simp only [ctl_true]
    rw [hc, hw]
    rw [swA]
    cases hs : sepB b with
    | true =>
      have hcut : cutI text (front.length : Int) ((front ++ cur).length : Nat) = cur := by
        unfold cutI
        rw [he', Int.toNat_natCast, Int.toNat_natCast, List.take_left, List.drop_left]
      have hr : (leB 0 (front.length : Int) && (leB (front.length : Int) ((front ++ cur).length : Int) && leB ((front ++ cur).length : Int) (text.length : Int))) = true := by
        have a1 : leB 0 (front.length : Int) = true := decide_eq_true (by omega)
        have a2 : leB (front.length : Int) ((front ++ cur).length : Int) = true := decide_eq_true (by simp <;> omega)
        have a3 : leB ((front ++ cur).length : Int) (text.length : Int) = true := decide_eq_true (by simp; omega)
        rw [a1, a2, a3]; rfl
      have hn : leN (((strsK done).length + 1) * 16) 140737488355328 = true := decide_eq_true (by rw [strsK_length]; omega)
      have hsn : strsK done ++ [[PV.str cur]] = strsK (done ++ [cur]) := by simp [strsK]
      rw [ctl_true, hr, ctl_true, hn, ctl_true, hcut, hsn, if_pos rfl]
      have := ih (front ++ cur ++ [b]) [] (done ++ [cur]) (by rw [he']; simp) (by simp; omega)
      rw [List.append_nil] at this
      exact this
    | false =>
      rw [ctl_false, if_neg (by simp)]
      have := ih front (cur ++ [b]) done (by rw [he']; simp) (by omega)
      rw [← List.append_assoc] at this
      exact this

def okW (w : List UInt8) : Bool := numB w && posB (numI w)
theorem okW_step (w : List UInt8) : (!numB w || ltB (numI w) 0 || ltB 2147483648 (numI w)) = !okW w := by
  unfold okW
  cases numB w with
  | false => rfl
  | true =>
    have := pos_step (numI w)
    simpa using this

theorem p0 : ltB 0 7 = true := rfl
theorem p1 : ltB 1 7 = true := rfl
theorem p2 : ltB 2 7 = true := rfl
theorem p3 : ltB 3 7 = true := rfl
theorem p4 : ltB 4 7 = true := rfl
theorem p5 : ltB 5 7 = true := rfl
theorem p6 : ltB 6 7 = true := rfl
theorem p7 : ltB 7 7 = false := rfl
theorem v4 : IntKind.i64.wrap (4 + 1) = 5 := rfl
theorem v5 : IntKind.i64.wrap (5 + 1) = 6 := rfl
theorem v6 : IntKind.i64.wrap (6 + 1) = 7 := rfl

abbrev odds : List PV := [PV.int .i64 1, PV.int .i64 3, PV.int .i64 5, PV.int .i64 7, PV.int .i64 9, PV.int .i64 11, PV.int .i64 13]

theorem s_RdD2_0 (text : List UInt8) (W : List (List UInt8)) (hW : W.length = 14) (w : List UInt8) (hw : W[1]? = some w) (hl : w.length ≤ 1000000) (x0 x1 x2 x3 x4 x5 x6 : Int) :
    lp E (denC E) 19 0 [] 2 { vals := [AV.str text, AV.agg odds, AV.int .i64 0], blks := [z7b, Blk.arr 1 (strsK W), Blk.box [AV.int .i64 x0, AV.int .i64 x1, AV.int .i64 x2, AV.int .i64 x3, AV.int .i64 x4, AV.int .i64 x5, AV.int .i64 x6]] } =
      bif okW w then lp E (denC E) 19 0 [] 2 { vals := [AV.str text, AV.agg odds, AV.int .i64 1], blks := [z7b, Blk.arr 1 (strsK W), Blk.box [AV.int .i64 (numI w), AV.int .i64 x1, AV.int .i64 x2, AV.int .i64 x3, AV.int .i64 x4, AV.int .i64 x5, AV.int .i64 x6]] }
      else some (.ret, { vals := [AV.int .i64 74], blks := [z7b] }) := by
  have hc := c_rNumber w hl
  have hn : nth [] (strsK W) 1 = [PV.str w] := by
    rw [nth_eq]
    unfold strsK
    simp [List.getD, hw]
  have hlen : ((strsK W).length : Int) = 14 := by rw [strsK_length, hW]; rfl
  have ht : okCs [Sh.str] (List.take 1 (List.drop 0 [PV.str w])) = true := rfl
  have hi : (leB 0 1 && ltB 1 14) = true := rfl
  have tn : (1 : Int).toNat = 1 := rfl
  have g : ∀ K : List PV → Option (Ex × Pack), getE [[PV.int .i64 1], [PV.int .i64 3], [PV.int .i64 5], [PV.int .i64 7], [PV.int .i64 9], [PV.int .i64 11], [PV.int .i64 13]] 0 K = K [PV.int .i64 1] := fun K => rfl
  have pk : ltB 0 7 = true := rfl
  have wk : IntKind.i64.wrap (0 + 1) = 1 := rfl
  have q0 : ((0 : Int) == 0) = true := rfl
  have hst := okW_step w
  rw [r19_2, pk, ctl_true, g, hlen]
  simp only [hi, tn, hn, ht, SB, Nat.reduceAdd]
  rw [hc]
  simp only [Bool.not_not, hst, SB, Nat.reduceAdd]
  cases okW w with
  | false => simp only [SB, Nat.reduceAdd]
  | true => simp only [wk, q0, SB, Nat.reduceAdd]

theorem s_RdD2_1 (text : List UInt8) (W : List (List UInt8)) (hW : W.length = 14) (w : List UInt8) (hw : W[3]? = some w) (hl : w.length ≤ 1000000) (x0 x1 x2 x3 x4 x5 x6 : Int) :
    lp E (denC E) 19 0 [] 2 { vals := [AV.str text, AV.agg odds, AV.int .i64 1], blks := [z7b, Blk.arr 1 (strsK W), Blk.box [AV.int .i64 x0, AV.int .i64 x1, AV.int .i64 x2, AV.int .i64 x3, AV.int .i64 x4, AV.int .i64 x5, AV.int .i64 x6]] } =
      bif okW w then lp E (denC E) 19 0 [] 2 { vals := [AV.str text, AV.agg odds, AV.int .i64 2], blks := [z7b, Blk.arr 1 (strsK W), Blk.box [AV.int .i64 x0, AV.int .i64 (numI w), AV.int .i64 x2, AV.int .i64 x3, AV.int .i64 x4, AV.int .i64 x5, AV.int .i64 x6]] }
      else some (.ret, { vals := [AV.int .i64 74], blks := [z7b] }) := by
  have hc := c_rNumber w hl
  have hn : nth [] (strsK W) 3 = [PV.str w] := by
    rw [nth_eq]
    unfold strsK
    simp [List.getD, hw]
  have hlen : ((strsK W).length : Int) = 14 := by rw [strsK_length, hW]; rfl
  have ht : okCs [Sh.str] (List.take 1 (List.drop 0 [PV.str w])) = true := rfl
  have hi : (leB 0 3 && ltB 3 14) = true := rfl
  have tn : (3 : Int).toNat = 3 := rfl
  have g : ∀ K : List PV → Option (Ex × Pack), getE [[PV.int .i64 1], [PV.int .i64 3], [PV.int .i64 5], [PV.int .i64 7], [PV.int .i64 9], [PV.int .i64 11], [PV.int .i64 13]] 1 K = K [PV.int .i64 3] := fun K => rfl
  have pk : ltB 1 7 = true := rfl
  have wk : IntKind.i64.wrap (1 + 1) = 2 := rfl
  have q0 : ((1 : Int) == 0) = false := rfl
  have q1 : ((1 : Int) == 1) = true := rfl
  have hst := okW_step w
  rw [r19_2, pk, ctl_true, g, hlen]
  simp only [hi, tn, hn, ht, SB, Nat.reduceAdd]
  rw [hc]
  simp only [Bool.not_not, hst, SB, Nat.reduceAdd]
  cases okW w with
  | false => simp only [SB, Nat.reduceAdd]
  | true => simp only [wk, q0, q1, SB, Nat.reduceAdd]

theorem s_RdD2_2 (text : List UInt8) (W : List (List UInt8)) (hW : W.length = 14) (w : List UInt8) (hw : W[5]? = some w) (hl : w.length ≤ 1000000) (x0 x1 x2 x3 x4 x5 x6 : Int) :
    lp E (denC E) 19 0 [] 2 { vals := [AV.str text, AV.agg odds, AV.int .i64 2], blks := [z7b, Blk.arr 1 (strsK W), Blk.box [AV.int .i64 x0, AV.int .i64 x1, AV.int .i64 x2, AV.int .i64 x3, AV.int .i64 x4, AV.int .i64 x5, AV.int .i64 x6]] } =
      bif okW w then lp E (denC E) 19 0 [] 2 { vals := [AV.str text, AV.agg odds, AV.int .i64 3], blks := [z7b, Blk.arr 1 (strsK W), Blk.box [AV.int .i64 x0, AV.int .i64 x1, AV.int .i64 (numI w), AV.int .i64 x3, AV.int .i64 x4, AV.int .i64 x5, AV.int .i64 x6]] }
      else some (.ret, { vals := [AV.int .i64 74], blks := [z7b] }) := by
  have hc := c_rNumber w hl
  have hn : nth [] (strsK W) 5 = [PV.str w] := by
    rw [nth_eq]
    unfold strsK
    simp [List.getD, hw]
  have hlen : ((strsK W).length : Int) = 14 := by rw [strsK_length, hW]; rfl
  have ht : okCs [Sh.str] (List.take 1 (List.drop 0 [PV.str w])) = true := rfl
  have hi : (leB 0 5 && ltB 5 14) = true := rfl
  have tn : (5 : Int).toNat = 5 := rfl
  have g : ∀ K : List PV → Option (Ex × Pack), getE [[PV.int .i64 1], [PV.int .i64 3], [PV.int .i64 5], [PV.int .i64 7], [PV.int .i64 9], [PV.int .i64 11], [PV.int .i64 13]] 2 K = K [PV.int .i64 5] := fun K => rfl
  have pk : ltB 2 7 = true := rfl
  have wk : IntKind.i64.wrap (2 + 1) = 3 := rfl
  have q0 : ((2 : Int) == 0) = false := rfl
  have q1 : ((2 : Int) == 1) = false := rfl
  have q2 : ((2 : Int) == 2) = true := rfl
  have hst := okW_step w
  rw [r19_2, pk, ctl_true, g, hlen]
  simp only [hi, tn, hn, ht, SB, Nat.reduceAdd]
  rw [hc]
  simp only [Bool.not_not, hst, SB, Nat.reduceAdd]
  cases okW w with
  | false => simp only [SB, Nat.reduceAdd]
  | true => simp only [wk, q0, q1, q2, SB, Nat.reduceAdd]

theorem s_RdD2_3 (text : List UInt8) (W : List (List UInt8)) (hW : W.length = 14) (w : List UInt8) (hw : W[7]? = some w) (hl : w.length ≤ 1000000) (x0 x1 x2 x3 x4 x5 x6 : Int) :
    lp E (denC E) 19 0 [] 2 { vals := [AV.str text, AV.agg odds, AV.int .i64 3], blks := [z7b, Blk.arr 1 (strsK W), Blk.box [AV.int .i64 x0, AV.int .i64 x1, AV.int .i64 x2, AV.int .i64 x3, AV.int .i64 x4, AV.int .i64 x5, AV.int .i64 x6]] } =
      bif okW w then lp E (denC E) 19 0 [] 2 { vals := [AV.str text, AV.agg odds, AV.int .i64 4], blks := [z7b, Blk.arr 1 (strsK W), Blk.box [AV.int .i64 x0, AV.int .i64 x1, AV.int .i64 x2, AV.int .i64 (numI w), AV.int .i64 x4, AV.int .i64 x5, AV.int .i64 x6]] }
      else some (.ret, { vals := [AV.int .i64 74], blks := [z7b] }) := by
  have hc := c_rNumber w hl
  have hn : nth [] (strsK W) 7 = [PV.str w] := by
    rw [nth_eq]
    unfold strsK
    simp [List.getD, hw]
  have hlen : ((strsK W).length : Int) = 14 := by rw [strsK_length, hW]; rfl
  have ht : okCs [Sh.str] (List.take 1 (List.drop 0 [PV.str w])) = true := rfl
  have hi : (leB 0 7 && ltB 7 14) = true := rfl
  have tn : (7 : Int).toNat = 7 := rfl
  have g : ∀ K : List PV → Option (Ex × Pack), getE [[PV.int .i64 1], [PV.int .i64 3], [PV.int .i64 5], [PV.int .i64 7], [PV.int .i64 9], [PV.int .i64 11], [PV.int .i64 13]] 3 K = K [PV.int .i64 7] := fun K => rfl
  have pk : ltB 3 7 = true := rfl
  have wk : IntKind.i64.wrap (3 + 1) = 4 := rfl
  have q0 : ((3 : Int) == 0) = false := rfl
  have q1 : ((3 : Int) == 1) = false := rfl
  have q2 : ((3 : Int) == 2) = false := rfl
  have q3 : ((3 : Int) == 3) = true := rfl
  have hst := okW_step w
  rw [r19_2, pk, ctl_true, g, hlen]
  simp only [hi, tn, hn, ht, SB, Nat.reduceAdd]
  rw [hc]
  simp only [Bool.not_not, hst, SB, Nat.reduceAdd]
  cases okW w with
  | false => simp only [SB, Nat.reduceAdd]
  | true => simp only [wk, q0, q1, q2, q3, SB, Nat.reduceAdd]

theorem s_RdD2_4 (text : List UInt8) (W : List (List UInt8)) (hW : W.length = 14) (w : List UInt8) (hw : W[9]? = some w) (hl : w.length ≤ 1000000) (x0 x1 x2 x3 x4 x5 x6 : Int) :
    lp E (denC E) 19 0 [] 2 { vals := [AV.str text, AV.agg odds, AV.int .i64 4], blks := [z7b, Blk.arr 1 (strsK W), Blk.box [AV.int .i64 x0, AV.int .i64 x1, AV.int .i64 x2, AV.int .i64 x3, AV.int .i64 x4, AV.int .i64 x5, AV.int .i64 x6]] } =
      bif okW w then lp E (denC E) 19 0 [] 2 { vals := [AV.str text, AV.agg odds, AV.int .i64 5], blks := [z7b, Blk.arr 1 (strsK W), Blk.box [AV.int .i64 x0, AV.int .i64 x1, AV.int .i64 x2, AV.int .i64 x3, AV.int .i64 (numI w), AV.int .i64 x5, AV.int .i64 x6]] }
      else some (.ret, { vals := [AV.int .i64 74], blks := [z7b] }) := by
  have hc := c_rNumber w hl
  have hn : nth [] (strsK W) 9 = [PV.str w] := by
    rw [nth_eq]
    unfold strsK
    simp [List.getD, hw]
  have hlen : ((strsK W).length : Int) = 14 := by rw [strsK_length, hW]; rfl
  have ht : okCs [Sh.str] (List.take 1 (List.drop 0 [PV.str w])) = true := rfl
  have hi : (leB 0 9 && ltB 9 14) = true := rfl
  have tn : (9 : Int).toNat = 9 := rfl
  have g : ∀ K : List PV → Option (Ex × Pack), getE [[PV.int .i64 1], [PV.int .i64 3], [PV.int .i64 5], [PV.int .i64 7], [PV.int .i64 9], [PV.int .i64 11], [PV.int .i64 13]] 4 K = K [PV.int .i64 9] := fun K => rfl
  have pk : ltB 4 7 = true := rfl
  have wk : IntKind.i64.wrap (4 + 1) = 5 := rfl
  have q0 : ((4 : Int) == 0) = false := rfl
  have q1 : ((4 : Int) == 1) = false := rfl
  have q2 : ((4 : Int) == 2) = false := rfl
  have q3 : ((4 : Int) == 3) = false := rfl
  have q4 : ((4 : Int) == 4) = true := rfl
  have hst := okW_step w
  rw [r19_2, pk, ctl_true, g, hlen]
  simp only [hi, tn, hn, ht, SB, Nat.reduceAdd]
  rw [hc]
  simp only [Bool.not_not, hst, SB, Nat.reduceAdd]
  cases okW w with
  | false => simp only [SB, Nat.reduceAdd]
  | true => simp only [wk, q0, q1, q2, q3, q4, SB, Nat.reduceAdd]

theorem s_RdD2_5 (text : List UInt8) (W : List (List UInt8)) (hW : W.length = 14) (w : List UInt8) (hw : W[11]? = some w) (hl : w.length ≤ 1000000) (x0 x1 x2 x3 x4 x5 x6 : Int) :
    lp E (denC E) 19 0 [] 2 { vals := [AV.str text, AV.agg odds, AV.int .i64 5], blks := [z7b, Blk.arr 1 (strsK W), Blk.box [AV.int .i64 x0, AV.int .i64 x1, AV.int .i64 x2, AV.int .i64 x3, AV.int .i64 x4, AV.int .i64 x5, AV.int .i64 x6]] } =
      bif okW w then lp E (denC E) 19 0 [] 2 { vals := [AV.str text, AV.agg odds, AV.int .i64 6], blks := [z7b, Blk.arr 1 (strsK W), Blk.box [AV.int .i64 x0, AV.int .i64 x1, AV.int .i64 x2, AV.int .i64 x3, AV.int .i64 x4, AV.int .i64 (numI w), AV.int .i64 x6]] }
      else some (.ret, { vals := [AV.int .i64 74], blks := [z7b] }) := by
  have hc := c_rNumber w hl
  have hn : nth [] (strsK W) 11 = [PV.str w] := by
    rw [nth_eq]
    unfold strsK
    simp [List.getD, hw]
  have hlen : ((strsK W).length : Int) = 14 := by rw [strsK_length, hW]; rfl
  have ht : okCs [Sh.str] (List.take 1 (List.drop 0 [PV.str w])) = true := rfl
  have hi : (leB 0 11 && ltB 11 14) = true := rfl
  have tn : (11 : Int).toNat = 11 := rfl
  have g : ∀ K : List PV → Option (Ex × Pack), getE [[PV.int .i64 1], [PV.int .i64 3], [PV.int .i64 5], [PV.int .i64 7], [PV.int .i64 9], [PV.int .i64 11], [PV.int .i64 13]] 5 K = K [PV.int .i64 11] := fun K => rfl
  have pk : ltB 5 7 = true := rfl
  have wk : IntKind.i64.wrap (5 + 1) = 6 := rfl
  have q0 : ((5 : Int) == 0) = false := rfl
  have q1 : ((5 : Int) == 1) = false := rfl
  have q2 : ((5 : Int) == 2) = false := rfl
  have q3 : ((5 : Int) == 3) = false := rfl
  have q4 : ((5 : Int) == 4) = false := rfl
  have q5 : ((5 : Int) == 5) = true := rfl
  have hst := okW_step w
  rw [r19_2, pk, ctl_true, g, hlen]
  simp only [hi, tn, hn, ht, SB, Nat.reduceAdd]
  rw [hc]
  simp only [Bool.not_not, hst, SB, Nat.reduceAdd]
  cases okW w with
  | false => simp only [SB, Nat.reduceAdd]
  | true => simp only [wk, q0, q1, q2, q3, q4, q5, SB, Nat.reduceAdd]

theorem s_RdD2_6 (text : List UInt8) (W : List (List UInt8)) (hW : W.length = 14) (w : List UInt8) (hw : W[13]? = some w) (hl : w.length ≤ 1000000) (x0 x1 x2 x3 x4 x5 x6 : Int) :
    lp E (denC E) 19 0 [] 2 { vals := [AV.str text, AV.agg odds, AV.int .i64 6], blks := [z7b, Blk.arr 1 (strsK W), Blk.box [AV.int .i64 x0, AV.int .i64 x1, AV.int .i64 x2, AV.int .i64 x3, AV.int .i64 x4, AV.int .i64 x5, AV.int .i64 x6]] } =
      bif okW w then lp E (denC E) 19 0 [] 2 { vals := [AV.str text, AV.agg odds, AV.int .i64 7], blks := [z7b, Blk.arr 1 (strsK W), Blk.box [AV.int .i64 x0, AV.int .i64 x1, AV.int .i64 x2, AV.int .i64 x3, AV.int .i64 x4, AV.int .i64 x5, AV.int .i64 (numI w)]] }
      else some (.ret, { vals := [AV.int .i64 74], blks := [z7b] }) := by
  have hc := c_rNumber w hl
  have hn : nth [] (strsK W) 13 = [PV.str w] := by
    rw [nth_eq]
    unfold strsK
    simp [List.getD, hw]
  have hlen : ((strsK W).length : Int) = 14 := by rw [strsK_length, hW]; rfl
  have ht : okCs [Sh.str] (List.take 1 (List.drop 0 [PV.str w])) = true := rfl
  have hi : (leB 0 13 && ltB 13 14) = true := rfl
  have tn : (13 : Int).toNat = 13 := rfl
  have g : ∀ K : List PV → Option (Ex × Pack), getE [[PV.int .i64 1], [PV.int .i64 3], [PV.int .i64 5], [PV.int .i64 7], [PV.int .i64 9], [PV.int .i64 11], [PV.int .i64 13]] 6 K = K [PV.int .i64 13] := fun K => rfl
  have pk : ltB 6 7 = true := rfl
  have wk : IntKind.i64.wrap (6 + 1) = 7 := rfl
  have q0 : ((6 : Int) == 0) = false := rfl
  have q1 : ((6 : Int) == 1) = false := rfl
  have q2 : ((6 : Int) == 2) = false := rfl
  have q3 : ((6 : Int) == 3) = false := rfl
  have q4 : ((6 : Int) == 4) = false := rfl
  have q5 : ((6 : Int) == 5) = false := rfl
  have q6 : ((6 : Int) == 6) = true := rfl
  have hst := okW_step w
  rw [r19_2, pk, ctl_true, g, hlen]
  simp only [hi, tn, hn, ht, SB, Nat.reduceAdd]
  rw [hc]
  simp only [Bool.not_not, hst, SB, Nat.reduceAdd]
  cases okW w with
  | false => simp only [SB, Nat.reduceAdd]
  | true => simp only [wk, q0, q1, q2, q3, q4, q5, q6, SB, Nat.reduceAdd]

theorem okW_itoa {n : Int} (h : okN n) : okW (Lib.itoa n) = true ∧ numI (Lib.itoa n) = n := by
  have hn := num_itoa (n := n) (by unfold okN at h; omega)
  have e : numI (Lib.itoa n) = n := by unfold numI; rw [hn]; rfl
  refine ⟨?_, e⟩
  unfold okW
  rw [e]
  have h1 : numB (Lib.itoa n) = true := by unfold numB; rw [hn]; rfl
  have h2 : posB n = true := by unfold posB okN at *; simpa using h
  rw [h1, h2]
  rfl

theorem l_RdD2 (text : List UInt8) (W : List (List UInt8)) (hW : W.length = 14) (hl : ∀ w ∈ W, w.length ≤ 1000000) (w0 w1 w2 w3 w4 w5 w6 : List UInt8) (h0 : W[1]? = some w0) (h1 : W[3]? = some w1) (h2 : W[5]? = some w2) (h3 : W[7]? = some w3) (h4 : W[9]? = some w4) (h5 : W[11]? = some w5) (h6 : W[13]? = some w6) :
    lp E (denC E) 19 0 [] 2 { vals := [AV.str text, AV.agg odds, AV.int .i64 0], blks := [z7b, Blk.arr 1 (strsK W), z7b] } =
      some (bif okW w0 && okW w1 && okW w2 && okW w3 && okW w4 && okW w5 && okW w6 then (Ex.exit 2, { vals := [AV.str text], blks := [z7b, Blk.box [AV.int .i64 (numI w0), AV.int .i64 (numI w1), AV.int .i64 (numI w2), AV.int .i64 (numI w3), AV.int .i64 (numI w4), AV.int .i64 (numI w5), AV.int .i64 (numI w6)]] }) else (Ex.ret, { vals := [AV.int .i64 74], blks := [z7b] })) := by
  have hm : ∀ {w : List UInt8} {i : Nat}, W[i]? = some w → w.length ≤ 1000000 := fun h => hl _ (List.mem_of_getElem? h)
  have p7 : ltB 7 7 = false := rfl
  rw [s_RdD2_0 text W hW w0 h0 (hm h0)]
  cases o0 : okW w0 with
  | false => simp only [SB, Nat.reduceAdd, Bool.false_and]
  | true =>
  rw [cond_true]
  rw [s_RdD2_1 text W hW w1 h1 (hm h1)]
  cases o1 : okW w1 with
  | false => simp only [SB, Nat.reduceAdd, Bool.false_and]
  | true =>
  rw [cond_true]
  rw [s_RdD2_2 text W hW w2 h2 (hm h2)]
  cases o2 : okW w2 with
  | false => simp only [SB, Nat.reduceAdd, Bool.false_and]
  | true =>
  rw [cond_true]
  rw [s_RdD2_3 text W hW w3 h3 (hm h3)]
  cases o3 : okW w3 with
  | false => simp only [SB, Nat.reduceAdd, Bool.false_and]
  | true =>
  rw [cond_true]
  rw [s_RdD2_4 text W hW w4 h4 (hm h4)]
  cases o4 : okW w4 with
  | false => simp only [SB, Nat.reduceAdd, Bool.false_and]
  | true =>
  rw [cond_true]
  rw [s_RdD2_5 text W hW w5 h5 (hm h5)]
  cases o5 : okW w5 with
  | false => simp only [SB, Nat.reduceAdd, Bool.false_and]
  | true =>
  rw [cond_true]
  rw [s_RdD2_6 text W hW w6 h6 (hm h6)]
  cases o6 : okW w6 with
  | false => simp only [SB, Nat.reduceAdd, Bool.false_and]
  | true =>
  rw [cond_true]
  rw [r19_2, p7, ctl_false]
  rfl

theorem c_ReadD40 (text : List UInt8) (hl : text.length ≤ 1000) :
    (∃ q0 q1 q2 q3 q4 q5 q6, okN q0 ∧ okN q1 ∧ okN q2 ∧ okN q3 ∧ okN q4 ∧ okN q5 ∧ okN q6 ∧ repB q0 q1 q2 q3 q4 q5 q6 = text ∧
      denC E 19 [AV.str text] [] = some ([RV.agg [PV.int .i64 q0, PV.int .i64 q1, PV.int .i64 q2, PV.int .i64 q3, PV.int .i64 q4, PV.int .i64 q5, PV.int .i64 q6], RV.p (PV.int .i64 0)], [])) ∨
    ((∀ q0 q1 q2 q3 q4 q5 q6, okN q0 → okN q1 → okN q2 → okN q3 → okN q4 → okN q5 → okN q6 → repB q0 q1 q2 q3 q4 q5 q6 ≠ text) ∧
      denC E 19 [AV.str text] [] = some ([RV.agg [PV.int .i64 0, PV.int .i64 0, PV.int .i64 0, PV.int .i64 0, PV.int .i64 0, PV.int .i64 0, PV.int .i64 0], RV.p (PV.int .i64 74)], [])) := by
  have h0 := l_RdD0 text (by omega) text [] [] [] rfl (by simp; omega)
  obtain ⟨W, hWd⟩ : ∃ W, swA [] [] text = W := ⟨_, rfl⟩
  have hsm : ∀ w ∈ W, w.length ≤ 1000000 := fun w hw => by
    rw [← hWd] at hw
    have := sw_len text [] [] 1000 (by simp; omega) (fun w hw => by simp at hw) w hw
    omega
  rw [hWd] at h0
  simp only [List.append_nil, List.length_nil, Int.ofNat_zero] at h0
  have e1 : strsK [] = [] := rfl
  rw [e1] at h0
  rw [denC_eq, r19, h0]
  simp only [SB, Nat.reduceAdd]
  rw [strsK_length]
  by_cases hW : W.length = 14
  · have hne : (((W.length : Nat) : Int) != 14) = false := by rw [hW]; rfl
    rw [hne, ctl_false]
    obtain ⟨w0, g0⟩ : ∃ w, W[1]? = some w := ⟨_, List.getElem?_eq_getElem (by omega)⟩
    obtain ⟨w1, g1⟩ : ∃ w, W[3]? = some w := ⟨_, List.getElem?_eq_getElem (by omega)⟩
    obtain ⟨w2, g2⟩ : ∃ w, W[5]? = some w := ⟨_, List.getElem?_eq_getElem (by omega)⟩
    obtain ⟨w3, g3⟩ : ∃ w, W[7]? = some w := ⟨_, List.getElem?_eq_getElem (by omega)⟩
    obtain ⟨w4, g4⟩ : ∃ w, W[9]? = some w := ⟨_, List.getElem?_eq_getElem (by omega)⟩
    obtain ⟨w5, g5⟩ : ∃ w, W[11]? = some w := ⟨_, List.getElem?_eq_getElem (by omega)⟩
    obtain ⟨w6, g6⟩ : ∃ w, W[13]? = some w := ⟨_, List.getElem?_eq_getElem (by omega)⟩
    have hq : ∀ q0 q1 q2 q3 q4 q5 q6, repB q0 q1 q2 q3 q4 q5 q6 = text → w0 = Lib.itoa q1 ∧ w1 = Lib.itoa q2 ∧ w2 = Lib.itoa q3 ∧ w3 = Lib.itoa q0 ∧ w4 = Lib.itoa q4 ∧ w5 = Lib.itoa q5 ∧ w6 = Lib.itoa q6 := by
      intro q0 q1 q2 q3 q4 q5 q6 he
      rw [← he, sw_rep] at hWd
      subst hWd
      simp only [List.getElem?_cons_succ, List.getElem?_cons_zero, Option.some.injEq] at g0 g1 g2 g3 g4 g5 g6
      exact ⟨g0.symm, g1.symm, g2.symm, g3.symm, g4.symm, g5.symm, g6.symm⟩
    rw [l_RdD2 text W hW hsm w0 w1 w2 w3 w4 w5 w6 g0 g1 g2 g3 g4 g5 g6]
    cases hok : (okW w0 && okW w1 && okW w2 && okW w3 && okW w4 && okW w5 && okW w6) with
    | false =>
      simp only [SB, Nat.reduceAdd]
      refine .inr ⟨fun q0 q1 q2 q3 q4 q5 q6 h0 h1 h2 h3 h4 h5 h6 he => ?_, by first | rfl | trivial⟩
      obtain ⟨e10, e11, e12, e13, e14, e15, e16⟩ := hq q0 q1 q2 q3 q4 q5 q6 he
      rw [e10, e11, e12, e13, e14, e15, e16, (okW_itoa h0).1, (okW_itoa h1).1, (okW_itoa h2).1, (okW_itoa h3).1, (okW_itoa h4).1, (okW_itoa h5).1, (okW_itoa h6).1] at hok
      cases hok
    | true =>
      simp only [SB, Nat.reduceAdd]
      simp only [Bool.and_eq_true] at hok
      obtain ⟨⟨⟨⟨⟨⟨o0, o1⟩, o2⟩, o3⟩, o4⟩, o5⟩, o6⟩ := hok
      have okn : ∀ {w : List UInt8}, okW w = true → okN (numI w) := fun {w} h => by
        unfold okW at h
        simp only [Bool.and_eq_true] at h
        exact posB_rng h.2
      have hT := c_TextD40 (numI w3) (numI w0) (numI w1) (numI w2) (numI w4) (numI w5) (numI w6) (okN_i64 (okn o3) (okn o0) (okn o1) (okn o2) (okn o4) (okn o5) (okn o6))
      rw [hT]
      simp only [SB, Nat.reduceAdd]
      by_cases he : repB (numI w3) (numI w0) (numI w1) (numI w2) (numI w4) (numI w5) (numI w6) = text
      · have hb : (repB (numI w3) (numI w0) (numI w1) (numI w2) (numI w4) (numI w5) (numI w6) == text) = true := by simpa using he
        simp only [hb, SB, Nat.reduceAdd]
        exact .inl ⟨numI w3, numI w0, numI w1, numI w2, numI w4, numI w5, numI w6, okn o3, okn o0, okn o1, okn o2, okn o4, okn o5, okn o6, he, rfl⟩
      · have hb : (repB (numI w3) (numI w0) (numI w1) (numI w2) (numI w4) (numI w5) (numI w6) == text) = false := by simpa using he
        simp only [hb, SB, Nat.reduceAdd]
        refine .inr ⟨fun q0 q1 q2 q3 q4 q5 q6 h0 h1 h2 h3 h4 h5 h6 he2 => ?_, by first | rfl | trivial⟩
        obtain ⟨e10, e11, e12, e13, e14, e15, e16⟩ := hq q0 q1 q2 q3 q4 q5 q6 he2
        rw [e10, e11, e12, e13, e14, e15, e16, (okW_itoa h0).2, (okW_itoa h1).2, (okW_itoa h2).2, (okW_itoa h3).2, (okW_itoa h4).2, (okW_itoa h5).2, (okW_itoa h6).2] at he
        exact he he2
  · have hne : (((W.length : Nat) : Int) != 14) = true := by simp; omega
    rw [hne, ctl_true]
    refine .inr ⟨fun q0 q1 q2 q3 q4 q5 q6 h0 h1 h2 h3 h4 h5 h6 he => ?_, by first | rfl | trivial⟩
    rw [← he, sw_rep] at hWd
    exact hW (by rw [← hWd]; rfl)

end Go.Proofs.YtkpdiagdjplbiaaGreatDoor.Vm
