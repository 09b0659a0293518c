import Derived.Test.YtkpdiagdjplbiaaGreatDoorBookG
import Derived.Test.YtkpdiagdjplbiaaGreatDoorSentC
import Derived.Lib.AtoiAllCases
/- Chapter 40: contracts of report's functions. -/
namespace Go.Proofs.YtkpdiagdjplbiaaGreatDoor.Vm
set_option linter.unusedVariables false
set_option linter.unusedSimpArgs false

theorem n00 : ((0 : Int) == 0) = true := rfl

theorem n10 : ((1 : Int) == 0) = false := rfl

theorem n11 : ((1 : Int) == 1) = true := rfl

theorem n12 : ((1 : Int) == 2) = false := rfl

theorem n13 : ((1 : Int) == 3) = false := rfl

theorem n20 : ((2 : Int) == 0) = false := rfl

theorem n21 : ((2 : Int) == 1) = false := rfl

theorem n22 : ((2 : Int) == 2) = true := rfl

theorem n23 : ((2 : Int) == 3) = false := rfl

theorem n30 : ((3 : Int) == 0) = false := rfl

theorem n31 : ((3 : Int) == 1) = false := rfl

theorem n32 : ((3 : Int) == 2) = false := rfl

theorem n33 : ((3 : Int) == 3) = true := rfl

theorem m0 : ltB 0 4 = true := rfl

theorem m1 : ltB 1 4 = true := rfl

theorem m2 : ltB 2 4 = true := rfl

theorem m3 : ltB 3 4 = true := rfl

theorem m4 : ltB 4 4 = false := rfl

theorem u0 : IntKind.i64.wrap (0 + 1) = 1 := rfl

theorem g0 {α : Type} (a b c d : List PV) (K : List PV → Option α) : getE [a, b, c, d] 0 K = K a := rfl

theorem u1 : IntKind.i64.wrap (1 + 1) = 2 := rfl

theorem g1 {α : Type} (a b c d : List PV) (K : List PV → Option α) : getE [a, b, c, d] 1 K = K b := rfl

theorem u2 : IntKind.i64.wrap (2 + 1) = 3 := rfl

theorem g2 {α : Type} (a b c d : List PV) (K : List PV → Option α) : getE [a, b, c, d] 2 K = K c := rfl

theorem u3 : IntKind.i64.wrap (3 + 1) = 4 := rfl

theorem g3 {α : Type} (a b c d : List PV) (K : List PV → Option α) : getE [a, b, c, d] 3 K = K d := rfl

theorem c_possible (n : Int) : denC E 34 [AV.int .i64 n] [] = some ([RV.p (PV.bool (decide (0 ≤ n) && decide (n ≤ 2147483648)))], []) := by
  rw [denC_eq, r34]
  have h1 : leB 0 n = decide (0 ≤ n) := by simp [leB]
  have h2 : leB n 2147483648 = decide (n ≤ 2147483648) := by simp [leB]
  rw [h1, h2]
  simp only [SB, Nat.reduceAdd]

def wst (l1 l2 l3 : Int) : Int := if 0 < l1 then 1 else if 0 < l2 then 2 else if 0 < l3 then 3 else 0

theorem c_worst (l0 l1 l2 l3 : Int) : denC E 25 [AV.agg [PV.int .i64 l0, PV.int .i64 l1, PV.int .i64 l2, PV.int .i64 l3]] [] = some ([RV.p (PV.int .i64 (wst l1 l2 l3))], []) := by
  have q1 : leB 1 3 = true := rfl
  have q2 : leB 2 3 = true := rfl
  have q3 : leB 3 3 = true := rfl
  have q4 : leB 4 3 = false := rfl
  rw [denC_eq, r25, r25_0]
  simp only [q1, n10, n11, u1, SB, Nat.reduceAdd]
  unfold wst
  by_cases h1 : 0 < l1
  · have : ltB 0 l1 = true := by simpa [ltB] using h1
    simp only [this, if_pos h1, SB, Nat.reduceAdd]
  · have : ltB 0 l1 = false := by simpa [ltB] using h1
    simp only [this, if_neg h1, SB, Nat.reduceAdd]
    rw [r25_0]
    simp only [q2, n20, n21, n22, u2, SB, Nat.reduceAdd]
    by_cases h2 : 0 < l2
    · have : ltB 0 l2 = true := by simpa [ltB] using h2
      simp only [this, if_pos h2, SB, Nat.reduceAdd]
    · have : ltB 0 l2 = false := by simpa [ltB] using h2
      simp only [this, if_neg h2, SB, Nat.reduceAdd]
      rw [r25_0]
      simp only [q3, n30, n31, n32, n33, u3, SB, Nat.reduceAdd]
      by_cases h3 : 0 < l3
      · have : ltB 0 l3 = true := by simpa [ltB] using h3
        simp only [this, if_pos h3, SB, Nat.reduceAdd]
      · have : ltB 0 l3 = false := by simpa [ltB] using h3
        simp only [this, if_neg h3, SB, Nat.reduceAdd]
        rw [r25_0]
        simp only [q4, SB, Nat.reduceAdd]

theorem c_half40 {n d : Int} (hd : 1 ≤ d ∧ d ≤ 1000000000) (hn : -1000000000000000000 ≤ n ∧ n ≤ 1000000000000000000) : denC E 35 [AV.int .i64 n, AV.int .i64 d] [] = some ([RV.p (PV.int .i64 (Half n d))], []) := by
  rw [denC_eq, r35, c_Half hd hn]
  have : ((0 : Int) == 0) = true := rfl
  simp only [this, SB, Nat.reduceAdd]

def pct (t s : Int) : Int := if s = 0 then 0 else Half (100 * t) s

theorem c_Percent (t0 t1 t2 t3 w b s : Int) (h0 : 0 ≤ t0 ∧ t0 ≤ 1000000) (h1 : 0 ≤ t1 ∧ t1 ≤ 1000000) (h2 : 0 ≤ t2 ∧ t2 ≤ 1000000) (h3 : 0 ≤ t3 ∧ t3 ≤ 1000000) (L : Int) (hL : 0 ≤ L ∧ L < 4) :
    denC E 16 [AV.agg [PV.int .i64 t0, PV.int .i64 t1, PV.int .i64 t2, PV.int .i64 t3, PV.int .i64 w, PV.int .i64 b, PV.int .i64 s], AV.int .i64 L] [] =
      some ([RV.p (PV.int .i64 (pct (if L = 0 then t0 else if L = 1 then t1 else if L = 2 then t2 else t3) (t0 + t1 + t2 + t3)))], []) := by
  have k1 : ltB L 0 = false := by simp [ltB]; omega
  have k2 : leB 4 L = false := by simp [leB]; omega
  rw [denC_eq, r16, k1, k2]
  simp only [SB, Nat.reduceAdd]
  by_cases hz : t0 + t1 + t2 + t3 = 0
  · have e0 : t0 = 0 := by omega
    have e1 : t1 = 0 := by omega
    have e2 : t2 = 0 := by omega
    have e3 : t3 = 0 := by omega
    subst e0 e1 e2 e3
    simp only [n00, SB, Nat.reduceAdd]
    rfl
  · have k3 : (t0 == 0 && (t1 == 0 && (t2 == 0 && t3 == 0))) = false := by
      cases hb : (t0 == 0 && (t1 == 0 && (t2 == 0 && t3 == 0))) with
      | false => rfl
      | true =>
        simp only [Bool.and_eq_true, beq_iff_eq] at hb
        omega
    have hp : ∀ n : Int, 0 ≤ n → n ≤ 1000000 → (decide (0 ≤ n) && decide (n ≤ 2147483648)) = true := fun n a c => by simp; omega
    have hl : lp E (denC E) 16 0 [] 0 { vals := [AV.int .i64 L, AV.int .i64 0, AV.agg [PV.int .i64 t0, PV.int .i64 t1, PV.int .i64 t2, PV.int .i64 t3], AV.int .i64 0], blks := [Blk.box [AV.int .i64 t0, AV.int .i64 t1, AV.int .i64 t2, AV.int .i64 t3, AV.int .i64 w, AV.int .i64 b, AV.int .i64 s]] } =
        some (.exit 0, { vals := [AV.int .i64 L, AV.int .i64 (t0 + t1 + t2 + t3)], blks := [Blk.box [AV.int .i64 t0, AV.int .i64 t1, AV.int .i64 t2, AV.int .i64 t3, AV.int .i64 w, AV.int .i64 b, AV.int .i64 s]] }) := by
      rw [r16_0]
      simp only [m0, g0, SB, Nat.reduceAdd]
      rw [c_possible, hp t0 h0.1 h0.2]
      simp only [u0, SB, Nat.reduceAdd]
      rw [w64 (n := 0 + t0) (by omega), r16_0]
      simp only [m1, g1, SB, Nat.reduceAdd]
      rw [c_possible, hp t1 h1.1 h1.2]
      simp only [u1, SB, Nat.reduceAdd]
      rw [w64 (n := 0 + t0 + t1) (by omega), r16_0]
      simp only [m2, g2, SB, Nat.reduceAdd]
      rw [c_possible, hp t2 h2.1 h2.2]
      simp only [u2, SB, Nat.reduceAdd]
      rw [w64 (n := 0 + t0 + t1 + t2) (by omega), r16_0]
      simp only [m3, g3, SB, Nat.reduceAdd]
      rw [c_possible, hp t3 h3.1 h3.2]
      simp only [u3, SB, Nat.reduceAdd]
      rw [w64 (n := 0 + t0 + t1 + t2 + t3) (by omega), r16_0]
      simp only [m4, SB, Nat.reduceAdd]
      rw [show (0 : Int) + t0 + t1 + t2 + t3 = t0 + t1 + t2 + t3 by omega]
    rw [k3, hl]
    simp only [SB, Nat.reduceAdd]
    unfold pct
    rw [if_neg hz]
    have key : L = 0 ∨ L = 1 ∨ L = 2 ∨ L = 3 := by omega
    rcases key with rfl | rfl | rfl | rfl
    · simp only [n00, SB, Nat.reduceAdd]
      rw [w64 (n := 100 * t0) (by omega), c_half40 (by omega) (by omega)]
      simp only [SB, Nat.reduceAdd]
      rfl
    · simp only [n10, n11, SB, Nat.reduceAdd]
      rw [w64 (n := 100 * t1) (by omega), c_half40 (by omega) (by omega)]
      simp only [SB, Nat.reduceAdd]
      rfl
    · simp only [n20, n21, n22, SB, Nat.reduceAdd]
      rw [w64 (n := 100 * t2) (by omega), c_half40 (by omega) (by omega)]
      simp only [SB, Nat.reduceAdd]
      rfl
    · simp only [n30, n31, n32, n33, SB, Nat.reduceAdd]
      rw [w64 (n := 100 * t3) (by omega), c_half40 (by omega) (by omega)]
      simp only [SB, Nat.reduceAdd]
      rfl

def wAdd (a b : Int) : Int := if a = 0 ∨ (b ≠ 0 ∧ b < a) then b else a

theorem c_Add (a0 a1 a2 a3 a4 a5 a6 b0 b1 b2 b3 b4 b5 b6 : Int) :
    denC E 12 [AV.agg [PV.int .i64 a0, PV.int .i64 a1, PV.int .i64 a2, PV.int .i64 a3, PV.int .i64 a4, PV.int .i64 a5, PV.int .i64 a6], AV.agg [PV.int .i64 b0, PV.int .i64 b1, PV.int .i64 b2, PV.int .i64 b3, PV.int .i64 b4, PV.int .i64 b5, PV.int .i64 b6]] [] =
      some ([RV.agg [PV.int .i64 (IntKind.i64.wrap (a0 + b0)), PV.int .i64 (IntKind.i64.wrap (a1 + b1)), PV.int .i64 (IntKind.i64.wrap (a2 + b2)), PV.int .i64 (IntKind.i64.wrap (a3 + b3)), PV.int .i64 (wAdd a4 b4), PV.int .i64 (IntKind.i64.wrap (a5 + b5)), PV.int .i64 (IntKind.i64.wrap (a6 + b6))]], []) := by
  rw [denC_eq, r12, r12_0]
  simp only [m0, n00, u0, SB, Nat.reduceAdd]
  rw [r12_0]
  simp only [m1, n10, n11, u1, SB, Nat.reduceAdd]
  rw [r12_0]
  simp only [m2, n20, n21, n22, u2, SB, Nat.reduceAdd]
  rw [r12_0]
  simp only [m3, n30, n31, n32, n33, u3, SB, Nat.reduceAdd]
  rw [r12_0]
  simp only [m4, SB, Nat.reduceAdd]
  unfold wAdd
  by_cases h1 : a4 = 0
  · have k1 : (a4 == 0) = true := by simp [h1]
    rw [if_pos (.inl h1)]
    simp only [k1, Bool.true_or, SB, Nat.reduceAdd]
  · have k1 : (a4 == 0) = false := by simp [h1]
    by_cases h2 : b4 = 0
    · have k2 : (b4 != 0) = false := by simp [h2]
      rw [if_neg (by omega)]
      simp only [k1, k2, Bool.false_and, Bool.or_self, SB, Nat.reduceAdd]
    · have k2 : (b4 != 0) = true := by simp [h2]
      by_cases h3 : b4 < a4
      · have k3 : ltB b4 a4 = true := by simpa [ltB] using h3
        rw [if_pos (.inr ⟨h2, h3⟩)]
        simp only [k1, k2, k3, Bool.or_self, SB, Nat.reduceAdd]
      · have k3 : ltB b4 a4 = false := by simpa [ltB] using h3
        rw [if_neg (by omega)]
        simp only [k1, k2, k3, Bool.or_self, SB, Nat.reduceAdd]

theorem pick5 {L : List Int} {k : Nat} : vPick L k [0, 0, 1, 7, 100] = 0 ∨ vPick L k [0, 0, 1, 7, 100] = 1 ∨ vPick L k [0, 0, 1, 7, 100] = 7 ∨ vPick L k [0, 0, 1, 7, 100] = 100 := by
  have := vPick_mem L k (l := [0, 0, 1, 7, 100]) (by decide)
  simp only [List.mem_cons, List.not_mem_nil, or_false] at this
  omega

theorem c_made {L : List Int} {k : Nat} (hL : L.length ≤ 600) (hk : k ≤ 600) : ∃ (t0 t1 t2 t3 w b s : Int) (k' : Nat), k' ≤ 600 ∧ (0 ≤ t0 ∧ t0 ≤ 100) ∧ (0 ≤ t1 ∧ t1 ≤ 100) ∧ (0 ≤ t2 ∧ t2 ≤ 100) ∧ (0 ≤ t3 ∧ t3 ≤ 100) ∧ (0 ≤ w ∧ w < 4) ∧ (0 ≤ b ∧ b < 20) ∧ (0 ≤ s ∧ s < 20) ∧
    denC E 11 [AV.t (.ptr 0 0)] [src L k] = some ([RV.agg [PV.int .i64 t0, PV.int .i64 t1, PV.int .i64 t2, PV.int .i64 t3, PV.int .i64 w, PV.int .i64 b, PV.int .i64 s]], [src L k']) := by
  have h1 := at'_le hL hk
  have h2 := at'_le hL h1
  have h3 := at'_le hL h2
  have h4 := at'_le hL h3
  have h5 := at'_le hL h4
  have h6 := at'_le hL h5
  have h7 := at'_le hL h6
  obtain ⟨k1, e1⟩ : ∃ x, at' L k = x := ⟨_, rfl⟩
  obtain ⟨k2, e2⟩ : ∃ x, at' L k1 = x := ⟨_, rfl⟩
  obtain ⟨k3, e3⟩ : ∃ x, at' L k2 = x := ⟨_, rfl⟩
  obtain ⟨k4, e4⟩ : ∃ x, at' L k3 = x := ⟨_, rfl⟩
  obtain ⟨k5, e5⟩ : ∃ x, at' L k4 = x := ⟨_, rfl⟩
  obtain ⟨k6, e6⟩ : ∃ x, at' L k5 = x := ⟨_, rfl⟩
  obtain ⟨k7, e7⟩ : ∃ x, at' L k6 = x := ⟨_, rfl⟩
  simp only [e1, e2, e3, e4, e5, e6, e7] at h1 h2 h3 h4 h5 h6 h7
  have p0 := pick5 (L := L) (k := k3)
  have p1 := pick5 (L := L) (k := k4)
  have p2 := pick5 (L := L) (k := k5)
  have p3 := pick5 (L := L) (k := k6)
  refine ⟨vPick L k3 [0, 0, 1, 7, 100], vPick L k4 [0, 0, 1, 7, 100], vPick L k5 [0, 0, 1, 7, 100], vPick L k6 [0, 0, 1, 7, 100], vN L k 4, vN L k1 20, vN L k2 20, k7, h7, by omega, by omega, by omega, by omega, vN_bounds (by decide), vN_bounds (by decide), vN_bounds (by decide), ?_⟩
  have hP : ∀ {k : Nat}, k ≤ 600 → denC E 28 [AV.t (.ptr 0 0), AV.sl 1 [[PV.int .i64 0], [PV.int .i64 0], [PV.int .i64 1], [PV.int .i64 7], [PV.int .i64 100]]] [src L k] = some ([RV.p (PV.int .i64 (vPick L k [0, 0, 1, 7, 100]))], [src L (at' L k)]) := fun h => c_Pick hL h (l := [0, 0, 1, 7, 100]) (by decide)
  have sr : ∀ k : Nat, Blk.box [AV.sl 1 (intsK .i64 L), AV.int .i64 (k : Int)] = src L k := fun k => rfl
  have s0 : ∀ k : Nat, src L k = Blk.box [AV.sl 1 (intsK .i64 L), AV.int .i64 (k : Int)] := fun k => rfl
  rw [s0, denC_eq, r11, sr, c_N hL hk 4 (by decide), e1, s0]
  simp only [SB, Nat.reduceAdd]
  rw [sr, c_N hL h1 20 (by decide), e2, s0]
  simp only [SB, Nat.reduceAdd]
  rw [sr, c_N hL h2 20 (by decide), e3, s0]
  simp only [SB, Nat.reduceAdd]
  rw [r11_0, sr, hP h3, e4, s0]
  simp only [m0, n00, u0, SB, Nat.reduceAdd]
  rw [r11_0, sr, hP h4, e5, s0]
  simp only [m1, n10, n11, u1, SB, Nat.reduceAdd]
  rw [r11_0, sr, hP h5, e6, s0]
  simp only [m2, n20, n21, n22, u2, SB, Nat.reduceAdd]
  rw [r11_0, sr, hP h6, e7, s0]
  simp only [m3, n30, n31, n32, n33, u3, SB, Nat.reduceAdd]
  rw [r11_0]
  simp only [m4, SB, Nat.reduceAdd]

end Go.Proofs.YtkpdiagdjplbiaaGreatDoor.Vm

/- Chapter 40: contracts of Of and Text; the example. -/
namespace Go.Proofs.YtkpdiagdjplbiaaGreatDoor.Vm
set_option linter.unusedVariables false
set_option linter.unusedSimpArgs false

theorem c_Text40 (a0 a1 a2 a3 a4 a5 a6 : Int) (h : ([a0, a1, a2, a3, a4, a5, a6].all i64B) = true) : denC E 14 [AV.agg [PV.int .i64 a0, PV.int .i64 a1, PV.int .i64 a2, PV.int .i64 a3, PV.int .i64 a4, PV.int .i64 a5, PV.int .i64 a6]] [] = some ([RV.p (PV.str (repB a0 a1 a2 a3 a4 a5 a6))], []) := by
  rw [denC_eq]
  have : funK E (denC E) 14 [AV.agg [PV.int .i64 a0, PV.int .i64 a1, PV.int .i64 a2, PV.int .i64 a3, PV.int .i64 a4, PV.int .i64 a5, PV.int .i64 a6]] [] = match pRep [AV.agg [PV.int .i64 a0, PV.int .i64 a1, PV.int .i64 a2, PV.int .i64 a3, PV.int .i64 a4, PV.int .i64 a5, PV.int .i64 a6]] with | some rs => some (rs, []) | none => none := by kernel_rfl
  rw [this]
  have : pRep [AV.agg [PV.int .i64 a0, PV.int .i64 a1, PV.int .i64 a2, PV.int .i64 a3, PV.int .i64 a4, PV.int .i64 a5, PV.int .i64 a6]] = some [RV.p (PV.str (repB a0 a1 a2 a3 a4 a5 a6))] := by
    show (if _ then _ else _) = _
    rw [if_pos h]
  rw [this]

def tkB (b : List En) : List (Int × Int) := b.map fun e => (e.t, e.k)

theorem tksE_ens : ∀ b : List En, tksE (ensK b) = some (tkB b)
  | [] => rfl
  | e :: b => by
    have h := tksE_ens b
    have e1 : ensK (e :: b) = enK e :: ensK b := rfl
    rw [e1]
    simp only [tksE, tkE, enK, h]
    rfl

theorem gl_ok {A : Int → Int} : ∀ {l : List Sp} {s e : Int}, gl A s e l → ∀ x ∈ l, s ≤ x.1 ∧ x.1 ≤ x.2.1 ∧ x.2.1 ≤ e
  | [], _, _, _, x, hx => (List.not_mem_nil hx).elim
  | y :: r, s, e, h, x, hx => by
    obtain ⟨h1, h2, h3, h4, h5⟩ := h
    have h6 := gl_le h5
    rcases List.mem_cons.1 hx with rfl | hx
    · omega
    · have := gl_ok h5 x hx
      omega

theorem spanL_gl {b : List En} {bs frm to : Int} (h : spanE' b bs 1 frm to = 0) : gl (aF b 1) frm to (spanL b bs 1 frm to) := by
  have h0 := h
  unfold spanE' at h0
  split at h0
  · rename_i hc; exact absurd h0 hc
  · rename_i hc
    split at h0
    · rename_i hq
      obtain ⟨l, hl⟩ := gl_ex b bs 1 frm to (by simpa using hc) hq.2.2.1
      unfold spanL
      rw [if_pos h, spP_eq hl]
      exact hl
    · cases h0

theorem spanE_rng {b : List En} {bs kind frm to : Int} (h : spanE' b bs kind frm to = 0) : checkP b bs = 0 ∧ 0 ≤ frm ∧ frm ≤ to ∧ to ≤ 2147483648 := by
  unfold spanE' at h
  split at h
  · rename_i hc; exact absurd h hc
  · rename_i hc
    split at h
    · rename_i hq
      exact ⟨by simpa using hc, hq.2.1, hq.2.2.1, hq.2.2.2⟩
    · cases h

theorem spanL_oks {b : List En} {bs frm to : Int} (h : spanE' b bs 1 frm to = 0) : okSpans (spanL b bs 1 frm to) = true := by
  have hg := spanL_gl h
  obtain ⟨_, h1, h2, h3⟩ := spanE_rng h
  have hc := spanL_cnt (b := b) (bs := bs) (kind := 1) (frm := frm) (to := to)
  unfold okSpans
  simp only [Bool.and_eq_true, List.all_eq_true, decide_eq_true_eq]
  refine ⟨Nat.ble_eq_true_of_le (by omega), fun x hx => ?_⟩
  have := gl_ok hg x hx
  omega

noncomputable def ofR (b : List En) (bs frm to : Int) : List RV :=
  if spanE' b bs 1 frm to = 0 then [RV.agg [PV.int .i64 (tick4 (spanL b bs 1 frm to) 0), PV.int .i64 (tick4 (spanL b bs 1 frm to) 1), PV.int .i64 (tick4 (spanL b bs 1 frm to) 2), PV.int .i64 (tick4 (spanL b bs 1 frm to) 3), PV.int .i64 (wst (tick4 (spanL b bs 1 frm to) 1) (tick4 (spanL b bs 1 frm to) 2) (tick4 (spanL b bs 1 frm to) 3)), PV.int .i64 (ofKind (tkB b) 4 frm to).length, PV.int .i64 (noDup (ofKind (tkB b) 8 frm to)).length], RV.p (PV.int .i64 0)]
  else [RV.agg [PV.int .i64 0, PV.int .i64 0, PV.int .i64 0, PV.int .i64 0, PV.int .i64 0, PV.int .i64 0, PV.int .i64 0], RV.p (PV.int .i64 (spanE' b bs 1 frm to))]

theorem c_Of (b : List En) (bs frm to : Int) (hws : ∀ e ∈ b, e.ws.length ≤ 1000000) : denC E 9 [AV.agg [PV.sl 3 (ensK b), PV.int .u64 bs], AV.int .i64 frm, AV.int .i64 to] [] = some (ofR b bs frm to, []) := by
  rw [denC_eq]
  have : funK E (denC E) 9 [AV.agg [PV.sl 3 (ensK b), PV.int .u64 bs], AV.int .i64 frm, AV.int .i64 to] [] = match (ofT 24 25 [AV.agg [PV.sl 3 (ensK b), PV.int .u64 bs], AV.int .i64 frm, AV.int .i64 to]).run (denC E) with | some rs => some (rs, []) | none => none := by kernel_rfl
  rw [this]
  have key : (ofT 24 25 [AV.agg [PV.sl 3 (ensK b), PV.int .u64 bs], AV.int .i64 frm, AV.int .i64 to]).run (denC E) = some (ofR b bs frm to) := by
    have hs := c_SpansE b bs 1 frm to hws
    simp only [ofT, Ask.run]
    rw [hs]
    simp only
    unfold ofR
    by_cases h : spanE' b bs 1 frm to = 0
    · have hoks := spanL_oks h
      obtain ⟨hc, _⟩ := spanE_rng h
      have hl := checkP_len hc
      have h1 : (spanE' b bs 1 frm to != 0) = false := by simp [h]
      have h2 : (okSpans (spanL b bs 1 frm to) && Nat.ble (tkB b).length 1000) = true := by
        rw [hoks, Bool.true_and]
        exact Nat.ble_eq_true_of_le (by simp [tkB]; omega)
      rw [h1, cond_false, if_pos h]
      simp only [spansE_K, tksE_ens, h2, cond_true]
      rw [a_int (c_worst _ _ _ _)]
      rfl
    · have h1 : (spanE' b bs 1 frm to != 0) = true := by simpa using h
      rw [h1, cond_true, if_neg h]
      rfl
  rw [key]

def q0 : En := ⟨0, 1, [1]⟩

def q1 : En := ⟨4, 1, [3]⟩

def qS1 : Int := sumB begin36 (lineP 0 1 [1])

def qS2 : Int := sumB qS1 (lineP 4 1 [3])

theorem q_ok1 : checkP [q0] qS1 = 0 := checkP_snoc (b := []) (e := q0) checkP_nil (by decide) rfl (by decide)

theorem q_ok2 : checkP [q0, q1] qS2 = 0 := checkP_snoc (b := [q0]) (e := q1) q_ok1 (by decide) (by decide) (by decide)

theorem q_gl : gl (aF [q0, q1] 1) 0 10 [(0, 4, 1), (4, 10, 3)] := by
  have h : ∀ k, aF [q0, q1] 1 k = if 4 ≤ k then 3 else if 0 ≤ k then 1 else 0 := fun k => by
    by_cases h1 : 4 ≤ k
    · have h2 : 0 ≤ k := by omega
      simp [aF, trip, atL, q0, q1, h1, h2]
    · by_cases h2 : 0 ≤ k <;> simp [aF, trip, atL, q0, q1, h1, h2]
  refine ⟨rfl, by decide, fun k h1 h2 => ?_, fun y hy => ?_, rfl, by decide, fun k h1 h2 => ?_, fun y hy => ?_, rfl⟩
  · simp only at h2
    rw [h, if_neg (by omega), if_pos h1]
  · simp at hy; subst hy; decide
  · simp only at h1
    rw [h, if_pos h1]
  · simp at hy

theorem q_of : ofR [q0, q1] qS2 0 10 = [RV.agg [PV.int .i64 0, PV.int .i64 4, PV.int .i64 0, PV.int .i64 6, PV.int .i64 1, PV.int .i64 0, PV.int .i64 0], RV.p (PV.int .i64 0)] := by
  have he : spanE' [q0, q1] qS2 1 0 10 = 0 := by
    unfold spanE'
    rw [if_neg (by rw [q_ok2]; decide), if_pos (by decide)]
  have hs : spanL [q0, q1] qS2 1 0 10 = [(0, 4, 1), (4, 10, 3)] := by
    unfold spanL
    rw [if_pos he, spP_eq q_gl]
  unfold ofR
  rw [if_pos he, hs]
  rfl

theorem c_sane40 : denC E 4 [] [] = some ([RV.p (PV.bool true)], []) := by
  have hA1 := c_AppendD [] begin36 q0 (fun e he => (List.not_mem_nil he).elim) (by decide)
  rw [appR_ok checkP_nil (by decide) rfl (by decide)] at hA1
  have hA2 := c_AppendD [q0] qS1 q1 (fun e he => by simp at he; subst he; decide) (by decide)
  rw [appR_ok q_ok1 (by decide) (by decide) (by decide)] at hA2
  have hO := c_Of [q0, q1] qS2 0 10 (checkP_ws q_ok2)
  rw [q_of] at hO
  have hP := c_Percent 0 4 0 6 1 0 0 (by omega) (by omega) (by omega) (by omega) 3 (by omega)
  have hp : pct (if (3 : Int) = 0 then 0 else if (3 : Int) = 1 then 4 else if (3 : Int) = 2 then 0 else 6) (0 + 4 + 0 + 6) = 60 := by decide
  rw [hp] at hP
  have hT := c_Text40 0 4 0 6 1 0 0 (by decide)
  have ht : (repB 0 4 0 6 1 0 0 == [114, 101, 100, 32, 52, 32, 121, 101, 108, 108, 111, 119, 32, 48, 32, 103, 114, 101, 101, 110, 32, 54, 32, 110, 111, 110, 101, 32, 48, 10, 119, 111, 114, 115, 116, 32, 49, 10, 98, 114, 111, 107, 101, 110, 32, 48, 10, 115, 104, 111, 114, 116, 32, 48, 10]) = true := by decide +kernel
  have e1 : enK q0 = [PV.int IntKind.i64 0, PV.int IntKind.i64 1, PV.sl 1 [[PV.int IntKind.i64 1]]] := rfl
  have e2 : enK q1 = [PV.int IntKind.i64 4, PV.int IntKind.i64 1, PV.sl 1 [[PV.int IntKind.i64 3]]] := rfl
  have e3 : ensK [] = [] := rfl
  have e5 : sumB begin36 (lineP q0.t q0.k q0.ws) = qS1 := rfl
  have e6 : sumB qS1 (lineP q1.t q1.k q1.ws) = qS2 := rfl
  rw [e1, e3, e5, List.nil_append] at hA1
  rw [e2, e6] at hA2
  have e7 : [q0] ++ [q1] = [q0, q1] := rfl
  rw [e7] at hA2
  have b0 : ((0 : Int) == 0) = true := rfl
  have b1 : ((4 : Int) == 4) = true := rfl
  have b2 : ((6 : Int) == 6) = true := rfl
  have b3 : ((1 : Int) == 1) = true := rfl
  have b4 : ((60 : Int) == 60) = true := rfl
  rw [denC_eq, r4, c_NewD]
  simp only [SB, Nat.reduceAdd]
  rw [hA1]
  simp only [SB, Nat.reduceAdd]
  rw [hA2]
  simp only [SB, Nat.reduceAdd]
  rw [hO]
  simp only [b0, b1, b2, b3, SB, Nat.reduceAdd]
  rw [hP]
  simp only [b4, SB, Nat.reduceAdd]
  rw [hT]
  simp only [ht, SB, Nat.reduceAdd]

end Go.Proofs.YtkpdiagdjplbiaaGreatDoor.Vm

/- Chapter 40: plain laws of reports. -/
namespace Go.Proofs.YtkpdiagdjplbiaaGreatDoor.Vm
set_option linter.unusedVariables false
set_option linter.unusedSimpArgs false

theorem tick4_acc (lev : Int) : ∀ (l : List Sp) (x : Int), l.foldl (fun s x => if x.2.2 = lev then s + (x.2.1 - x.1) else s) x = x + tick4 l lev
  | [], x => by simp [tick4]
  | y :: l, x => by
    unfold tick4
    rw [List.foldl_cons, List.foldl_cons, tick4_acc lev l, tick4_acc lev l (if y.2.2 = lev then 0 + (y.2.1 - y.1) else 0)]
    split <;> omega

theorem tick4_cons (lev : Int) (y : Sp) (l : List Sp) : tick4 (y :: l) lev = (if y.2.2 = lev then y.2.1 - y.1 else 0) + tick4 l lev := by
  have h := tick4_acc lev l (if y.2.2 = lev then 0 + (y.2.1 - y.1) else 0)
  unfold tick4 at h ⊢
  rw [List.foldl_cons, h]
  split <;> omega

theorem ofKind_mem {kind f t : Int} {l : List (Int × Int)} {y : Int} (h : y ∈ ofKind l kind f t) : f ≤ y ∧ y < t := by
  unfold ofKind at h
  rw [List.mem_map] at h
  obtain ⟨x, hx, rfl⟩ := h
  have := (List.mem_filter.1 hx).2
  simp only [Bool.and_eq_true, decide_eq_true_eq] at this
  omega

theorem noDup_step (x y : Int) (l : List Int) : noDup (x :: y :: l) = if x = y then noDup (y :: l) else x :: noDup (y :: l) := rfl

end Go.Proofs.YtkpdiagdjplbiaaGreatDoor.Vm

/- Numbers and their texts: plain laws. -/
namespace Go.Proofs.YtkpdiagdjplbiaaGreatDoor.Vm
set_option linter.unusedVariables false
set_option linter.unusedSimpArgs false

def isD (b : UInt8) : Bool := decide (48 ≤ b.toNat) && decide (b.toNat ≤ 57)
def valD (acc : Nat) (l : List UInt8) : Nat := l.foldl (fun a b => 10 * a + (b.toNat - 48)) acc
theorem valD_snoc (acc : Nat) (l : List UInt8) (b : UInt8) : valD acc (l ++ [b]) = 10 * valD acc l + (b.toNat - 48) := by simp [valD]
theorem valD_ge (l : List UInt8) : ∀ acc, acc ≤ valD acc l := by
  induction l with
  | nil => intro acc; exact Nat.le_refl _
  | cons b l ih => intro acc; have := ih (10 * acc + (b.toNat - 48)); unfold valD at this ⊢; rw [List.foldl_cons]; omega
theorem valD_lt (l : List UInt8) (h : l.all isD = true) : ∀ acc, valD acc l < (acc + 1) * 10 ^ l.length := by
  induction l with
  | nil => intro acc; simp [valD]
  | cons b l ih =>
    intro acc
    simp only [List.all_cons, Bool.and_eq_true] at h
    have hb := h.1
    unfold isD at hb
    simp only [Bool.and_eq_true, decide_eq_true_eq] at hb
    have := ih h.2 (10 * acc + (b.toNat - 48))
    have h2 : (10 * acc + (b.toNat - 48) + 1) * 10 ^ l.length ≤ (10 * (acc + 1)) * 10 ^ l.length := Nat.mul_le_mul_right _ (by omega)
    have e : (acc + 1) * 10 ^ (b :: l).length = (10 * (acc + 1)) * 10 ^ l.length := by rw [List.length_cons, Nat.pow_succ]; ac_rfl
    rw [e]
    exact Nat.lt_of_lt_of_le this h2

theorem dec_small {u : Nat} (h : u < 10) : Lib.decDigits u = [UInt8.ofNat (48 + u)] := Lib.decDigits_one h
theorem dec_big {u : Nat} (h : ¬ u < 10) : Lib.decDigits u = Lib.decDigits (u / 10) ++ [UInt8.ofNat (48 + u % 10)] := by rw [Lib.decDigits, dif_neg h]
theorem digit_nat {u : Nat} (h : u < 10) : (UInt8.ofNat (48 + u)).toNat = 48 + u := by simp; omega
theorem isD_digit {u : Nat} (h : u < 10) : isD (UInt8.ofNat (48 + u)) = true := by
  unfold isD; rw [digit_nat h]; simp; omega

theorem dec_spec (u : Nat) : (Lib.decDigits u).all isD = true ∧ valD 0 (Lib.decDigits u) = u ∧ ∃ b r, Lib.decDigits u = b :: r ∧ (b = 48 → u = 0 ∧ r = []) := by
  induction u using Nat.strongRecOn with
  | _ u ih =>
    by_cases h : u < 10
    · rw [dec_small h]
      refine ⟨by rw [List.all_cons, isD_digit h]; rfl, by simp [valD, digit_nat h]; omega, _, _, rfl, fun e => ⟨?_, rfl⟩⟩
      have := congrArg UInt8.toNat e
      rw [digit_nat h] at this
      have e2 : (48 : UInt8).toNat = 48 := rfl
      omega
    · obtain ⟨h1, h2, b, r, h3, h4⟩ := ih (u / 10) (by omega)
      rw [dec_big h]
      refine ⟨by rw [List.all_append, h1, List.all_cons, isD_digit (u := u % 10) (by omega)]; rfl, ?_, b, r ++ [UInt8.ofNat (48 + u % 10)], by rw [h3]; rfl, fun e => ?_⟩
      · rw [valD_snoc, h2, digit_nat (by omega)]; omega
      · have := (h4 e).1; omega

theorem dec_len (k : Nat) : ∀ u : Nat, u < 10 ^ (k + 1) → (Lib.decDigits u).length ≤ k + 1 := by
  induction k with
  | zero => intro u h; rw [dec_small (by simpa using h)]; simp
  | succ k ih =>
    intro u h
    by_cases hu : u < 10
    · rw [dec_small hu]; simp
    · have := ih (u / 10) (by rw [Nat.pow_succ] at h; omega)
      rw [dec_big hu]; simp; omega

def magS (s : List UInt8) : List UInt8 := match s with | [] => [] | b :: r => if b = 45 then r else b :: r
def negS (s : List UInt8) : Bool := match s with | [] => false | b :: _ => b == 45
def num (s : List UInt8) : Option Int :=
  if (magS s).length < 1 ∨ 10 < (magS s).length ∨ ((magS s).head? = some 48 ∧ s ≠ [48]) ∨ (magS s).all isD = false then none
  else some (if negS s = true then -(valD 0 (magS s) : Int) else valD 0 (magS s))

theorem num_itoa {n : Int} (h : -10000000000 < n ∧ n < 10000000000) : num (Lib.itoa n) = some n := by
  unfold Lib.itoa
  by_cases hn : n < 0
  · rw [if_pos hn]
    obtain ⟨h1, h2, b, r, h3, h4⟩ := dec_spec n.natAbs
    have hl := dec_len 9 n.natAbs (by omega)
    have e1 : magS (45 :: Lib.decDigits n.natAbs) = Lib.decDigits n.natAbs := rfl
    have e2 : negS (45 :: Lib.decDigits n.natAbs) = true := rfl
    unfold num
    rw [e1, e2, h2, if_neg, if_pos rfl]
    · congr 1; omega
    · simp only [not_or, Nat.not_lt, not_and, Bool.not_eq_false]
      refine ⟨by rw [h3]; simp, hl, fun h5 => ?_, h1⟩
      rw [h3] at h5
      have := (h4 (by simpa using h5)).1
      omega
  · rw [if_neg hn]
    obtain ⟨h1, h2, b, r, h3, h4⟩ := dec_spec n.toNat
    have hl := dec_len 9 n.toNat (by omega)
    have hb : b ≠ 45 := fun hb => by
      rw [h3] at h1
      simp only [List.all_cons, Bool.and_eq_true] at h1
      rw [hb] at h1
      exact absurd h1.1 (by decide)
    have e1 : magS (Lib.decDigits n.toNat) = Lib.decDigits n.toNat := by rw [h3]; simp [magS, hb]
    have e2 : negS (Lib.decDigits n.toNat) = false := by rw [h3]; simp [negS, hb]
    unfold num
    rw [e1, e2, h2, if_neg]
    · simp only [Bool.false_eq_true, if_false]; congr 1; omega
    · simp only [not_or, Nat.not_lt, not_and, Bool.not_eq_false]
      refine ⟨by rw [h3]; simp, hl, fun h5 => ?_, h1⟩
      rw [h3] at h5
      obtain ⟨h6, h7⟩ := h4 (by simpa using h5)
      rw [h6]
      simp [dec_small]

theorem parse_dec (l : List UInt8) (h : l.all isD = true) : ∀ acc, valD acc l < 1844674407370955162 → Lib.parseUint10 acc l = .ok (valD acc l) := by
  induction l with
  | nil => intro acc h; rfl
  | cons b l ih =>
    intro acc hv
    simp only [List.all_cons, Bool.and_eq_true] at h
    have hb := h.1
    unfold isD at hb
    simp only [Bool.and_eq_true, decide_eq_true_eq] at hb
    have hge := valD_ge l (10 * acc + (b.toNat - 48))
    have e : valD acc (b :: l) = valD (10 * acc + (b.toNat - 48)) l := rfl
    rw [e] at hv ⊢
    rw [Lib.parseUint10, if_pos hb, if_neg (by omega), if_neg (by omega), Nat.mul_comm acc 10, ih h.2 _ hv]

theorem atoi_itoa {n : Int} (h : -10000000000 < n ∧ n < 10000000000) : Lib.atoiAll (Lib.itoa n) = .ok n := by
  unfold Lib.itoa
  by_cases hn : n < 0
  · rw [if_pos hn]
    obtain ⟨h1, h2, b, r, h3, h4⟩ := dec_spec n.natAbs
    have hne : Lib.decDigits n.natAbs ≠ [] := by rw [h3]; simp
    have hp := parse_dec _ h1 0 (by rw [h2]; omega)
    rw [h2] at hp
    have e45 : (45 : UInt8).toNat = 45 := rfl
    unfold Lib.atoiAll Lib.parseMag
    simp only [e45, or_true, if_true, if_neg hne, hp, not_true, false_and, if_false, true_and]
    rw [if_neg (by omega)]
    congr 1; omega
  · rw [if_neg hn]
    obtain ⟨h1, h2, b, r, h3, h4⟩ := dec_spec n.toNat
    have hp := parse_dec _ h1 0 (by rw [h2]; omega)
    rw [h2] at hp
    rw [h3] at h1 hp ⊢
    simp only [List.all_cons, Bool.and_eq_true] at h1
    have hb := h1.1
    unfold isD at hb
    simp only [Bool.and_eq_true, decide_eq_true_eq] at hb
    have n43 : ¬ b.toNat = 43 := by omega
    have n45 : ¬ b.toNat = 45 := by omega
    unfold Lib.atoiAll Lib.parseMag
    simp only [n43, n45, or_self, if_false, reduceCtorEq, hp, not_false_eq_true, true_and, false_and]
    rw [if_neg (by omega)]
    congr 1; omega

theorem itoa_len {n : Int} (h : -9223372036854775808 ≤ n ∧ n ≤ 9223372036854775807) : (Lib.itoa n).length ≤ 20 := by
  have h2 := dec_len 18 n.natAbs (by omega)
  have h3 := dec_len 18 n.toNat (by omega)
  unfold Lib.itoa
  split
  · simp; omega
  · omega

end Go.Proofs.YtkpdiagdjplbiaaGreatDoor.Vm

/- Contracts of chapter 06: numbers and their texts. -/
namespace Go.Proofs.YtkpdiagdjplbiaaGreatDoor.Vm
set_option linter.unusedVariables false
set_option linter.unusedSimpArgs false

def numI (s : List UInt8) : Int := (num s).getD 0
def numB (s : List UInt8) : Bool := (num s).isSome
theorem res_none {s : List UInt8} (h : num s = none) : (some ([RV.p (PV.int .i64 0), RV.p (PV.bool false)], []) : Option Res) = some ([RV.p (PV.int .i64 (numI s)), RV.p (PV.bool (numB s))], []) := by
  unfold numI numB; rw [h]; rfl
theorem res_some {s : List UInt8} {v : Int} (h : num s = some v) : (some ([RV.p (PV.int .i64 v), RV.p (PV.bool true)], []) : Option Res) = some ([RV.p (PV.int .i64 (numI s)), RV.p (PV.bool (numB s))], []) := by
  unfold numI numB; rw [h]; rfl

theorem u8w {x : Int} (h : 0 ≤ x ∧ x ≤ 255) : IntKind.u8.wrap x = x := IntWalk.u8_in _ (by omega)

theorem l_num (text : List UInt8) (l : List UInt8) : ∀ (pre : List UInt8), (pre ++ l).length ≤ 10 → pre.all isD = true → lp E (denC E) 40 0 [] 0 { vals := [AV.str text, AV.str (pre ++ l), AV.int .i64 (valD 0 pre), AV.int .i64 pre.length], blks := [] } =
    some (bif l.all isD then (Ex.exit 0, { vals := [AV.str text, AV.int .i64 (valD 0 (pre ++ l))], blks := [] }) else (Ex.ret, { vals := [AV.int .i64 0, AV.bool false], blks := [] })) := by
  induction l with
  | nil =>
    intro pre h hp
    rw [r40_0, ctl_dec, if_neg (by simp), List.append_nil]
    rfl
  | cons b l ih =>
    intro pre h hp
    have hlt := valD_lt pre hp 0
    have hpw : 10 ^ pre.length ≤ 10 ^ 10 := Nat.pow_le_pow_right (by decide) (by simp at h; omega)
    have hp2 : (10 : Nat) ^ 10 = 10000000000 := by decide
    have hbt := b.toNat_lt
    rw [r40_0, ctl_dec, if_pos (by simp; omega), in_mid, byteAt_mid]
    simp only [ctl_true]
    by_cases hb : isD b = true
    · have hb2 := hb
      unfold isD at hb2
      simp only [Bool.and_eq_true, decide_eq_true_eq] at hb2
      have e1 : ltB (b.toNat : Int) 48 = false := decide_eq_false (by omega)
      have e2 : ltB 57 (b.toNat : Int) = false := decide_eq_false (by omega)
      have e3 : IntKind.i64.wrap (IntKind.i64.wrap (10 * ((valD 0 pre : Nat) : Int)) + IntKind.i64.wrap (IntKind.u8.wrap ((b.toNat : Int) - 48))) = ((valD 0 (pre ++ [b]) : Nat) : Int) := by
        rw [valD_snoc, u8w (by omega), w64 (n := 10 * ((valD 0 pre : Nat) : Int)) (by omega), w64 (n := (b.toNat : Int) - 48) (by omega), w64 (by omega)]; omega
      rw [e1, e2, e3, w64 (by simp at h; omega), len_snoc pre b, app_cons]
      simp only [SB, Nat.reduceAdd]
      rw [ih (pre ++ [b]) (by simpa using h) (by simp [hp, hb])]
      simp only [List.all_cons, hb, Bool.true_and]
    · have hb' : isD b = false := by simpa using hb
      have hor : ltB (b.toNat : Int) 48 = true ∨ (ltB (b.toNat : Int) 48 = false ∧ ltB 57 (b.toNat : Int) = true) := by
        by_cases hx : b.toNat < 48
        · exact .inl (decide_eq_true (by omega))
        · refine .inr ⟨decide_eq_false (by omega), decide_eq_true ?_⟩
          have h57 : ¬ b.toNat ≤ 57 := fun hy => hb (by unfold isD; simp only [Bool.and_eq_true, decide_eq_true_eq]; omega)
          omega
      simp only [List.all_cons, hb', Bool.false_and, cond_false]
      rcases hor with e1 | ⟨e1, e2⟩
      · rw [e1]; rfl
      · rw [e1, e2]; rfl

theorem num_of {s r : List UInt8} {g : Bool} (hm : magS s = r) (hg : negS s = g) (h1 : ¬ r.length < 1) (h2 : ¬ 10 < r.length) (h3 : ¬ (r.head? = some 48 ∧ s ≠ [48])) (h4 : r.all isD = true) : num s = some (if g = true then -(valD 0 r : Int) else valD 0 r) := by
  unfold num
  rw [hm, hg, if_neg]
  rintro (h | h | h | h)
  · exact h1 h
  · exact h2 h
  · exact h3 h
  · rw [h4] at h; cases h

theorem c_rNumber (s : List UInt8) (h : s.length ≤ 1000000) : denC E 40 [AV.str s] [] = some ([RV.p (PV.int .i64 (numI s)), RV.p (PV.bool (numB s))], []) := by
  rw [denC_eq, r40]
  cases s with
  | nil => rfl
  | cons b r =>
    have e0 : ((b :: r : List UInt8) == []) = false := rfl
    have e1 : ltB 0 ((b :: r : List UInt8).length : Int) = true := decide_eq_true (by simp only [List.length_cons]; omega)
    have e2 : byteAt (b :: r) 0 = (b.toNat : Int) := rfl
    have e45 : ((b.toNat : Int) == 45) = (b == 45) := b_eq b 45
    have e48 : ((b.toNat : Int) == 48) = (b == 48) := b_eq b 48
    rw [e0, e1, e2, e45]
    simp only [Bool.not_false, Bool.and_self, ctl_true, SB, Nat.reduceAdd]
    cases hb : (b == 45) with
    | true =>
      have hb' : b = 45 := beq_iff_eq.1 hb
      subst hb'
      have hm : magS (45 :: r) = r := rfl
      have hng : negS (45 :: r) = true := rfl
      have hc : cutI (45 :: r : List UInt8) 1 ((45 :: r : List UInt8).length : Int) = r := by
        unfold cutI; simp
      have e3 : (leB 1 ((45 :: r : List UInt8).length : Int) && leB ((45 :: r : List UInt8).length : Int) ((45 :: r : List UInt8).length : Int)) = true := by
        rw [show leB 1 ((45 :: r : List UInt8).length : Int) = true from decide_eq_true (by simp only [List.length_cons]; omega), show leB ((45 :: r : List UInt8).length : Int) ((45 :: r : List UInt8).length : Int) = true from decide_eq_true (Int.le_refl _)]; rfl
      rw [hc, e3]
      simp only [ctl_true]
      cases r with
      | nil => rfl
      | cons c q =>
        have f1 : ltB ((c :: q : List UInt8).length : Int) 1 = false := decide_eq_false (by simp; omega)
        have f2 : ltB 0 ((c :: q : List UInt8).length : Int) = true := decide_eq_true (by simp only [List.length_cons]; omega)
        have f3 : byteAt (c :: q) 0 = (c.toNat : Int) := rfl
        have f4 : ((c.toNat : Int) == 48) = (c == 48) := b_eq c 48
        have f5 : ((45 :: c :: q : List UInt8) == [48]) = false := rfl
        rw [f1, f2, f3, f4, f5]
        simp only [Bool.not_false, Bool.false_or, Bool.or_false, SB, Nat.reduceAdd]
        by_cases hl : 10 < (c :: q).length
        · have f6 : ltB 10 ((c :: q : List UInt8).length : Int) = true := decide_eq_true (by omega)
          rw [f6]
          simp only [Bool.true_or, SB, Nat.reduceAdd]
          exact res_none (if_pos (.inr (.inl hl)))
        · have f6 : ltB 10 ((c :: q : List UInt8).length : Int) = false := decide_eq_false (by omega)
          rw [f6]
          simp only [Bool.false_or, SB, Nat.reduceAdd]
          by_cases hc48 : c = 48
          · have g1 : (c == 48) = true := by simpa using hc48
            rw [g1]
            simp only [SB, Nat.reduceAdd]
            exact res_none (if_pos (.inr (.inr (.inl ⟨by rw [hm, hc48]; rfl, by simp⟩))))
          · have g1 : (c == 48) = false := by simpa using hc48
            rw [g1]
            simp only [SB, Nat.reduceAdd]
            have hlp := l_num (45 :: c :: q) (c :: q) [] (by simpa using hl) rfl
            simp only [List.nil_append, List.length_nil] at hlp
            have hlp' : lp E (denC E) 40 0 [] 0 { vals := [AV.str (45 :: c :: q), AV.str (c :: q), AV.int .i64 0, AV.int .i64 0], blks := [] } = _ := hlp
            rw [hlp']
            cases hd : (c :: q).all isD with
            | false =>
              simp only [SB, Nat.reduceAdd]
              exact res_none (if_pos (.inr (.inr (.inr hd))))
            | true =>
              have hlt := valD_lt (c :: q) hd 0
              have hpw : 10 ^ (c :: q).length ≤ 10 ^ 10 := Nat.pow_le_pow_right (by decide) (by omega)
              have hp2 : (10 : Nat) ^ 10 = 10000000000 := by decide
              have hn := num_of hm hng (by simp) hl (fun h => hc48 (by simpa using h.1)) hd
              have g2 : byteAt (45 :: c :: q) 0 = 45 := rfl
              simp only [cond_true, SB, Nat.reduceAdd]
              rw [e1, g2, w64 (by omega)]
              simp only [beq_self_eq_true, SB, Nat.reduceAdd]
              rw [if_pos rfl] at hn
              have : (0 : Int) - ((valD 0 (c :: q) : Nat) : Int) = -((valD 0 (c :: q) : Nat) : Int) := by omega
              rw [this]
              exact res_some hn
    | false =>
      have hb' : ¬ b = 45 := by simpa using hb
      have hm : magS (b :: r) = b :: r := by simp [magS, hb']
      have hng : negS (b :: r) = false := hb
      simp only [ctl_false]
      have f1 : ltB ((b :: r : List UInt8).length : Int) 1 = false := decide_eq_false (by simp; omega)
      rw [f1, e48]
      simp only [Bool.not_false, Bool.false_or, Bool.or_false, SB, Nat.reduceAdd]
      by_cases hl : 10 < (b :: r).length
      · have f6 : ltB 10 ((b :: r : List UInt8).length : Int) = true := decide_eq_true (by omega)
        rw [f6]
        simp only [Bool.true_or, SB, Nat.reduceAdd]
        exact res_none (if_pos (.inr (.inl (by rw [hm]; exact hl))))
      · have f6 : ltB 10 ((b :: r : List UInt8).length : Int) = false := decide_eq_false (by omega)
        rw [f6]
        simp only [Bool.false_or, SB, Nat.reduceAdd]
        by_cases hz : b = 48 ∧ (b :: r) ≠ [48]
        · have g1 : (b == 48) = true := by simpa using hz.1
          have g2 : ((b :: r : List UInt8) == [48]) = false := by
            rw [beq_eq_false_iff_ne]; exact hz.2
          rw [g1, g2]
          simp only [Bool.not_false, Bool.and_self, SB, Nat.reduceAdd]
          exact res_none (if_pos (.inr (.inr (.inl ⟨by rw [hm, hz.1]; rfl, hz.2⟩))))
        · have g0 : (b == 48 && !((b :: r : List UInt8) == [48])) = false := by
            by_cases h48 : b = 48
            · have : (b :: r) = [48] := Classical.byContradiction fun h => hz ⟨h48, h⟩
              rw [this, beq_self_eq_true, Bool.not_true, Bool.and_false]
            · have : (b == 48) = false := by simpa using h48
              rw [this]; rfl
          rw [g0]
          simp only [SB, Nat.reduceAdd]
          have hlp := l_num (b :: r) (b :: r) [] (by simpa using hl) rfl
          simp only [List.nil_append, List.length_nil] at hlp
          have hlp' : lp E (denC E) 40 0 [] 0 { vals := [AV.str (b :: r), AV.str (b :: r), AV.int .i64 0, AV.int .i64 0], blks := [] } = _ := hlp
          rw [hlp']
          cases hd : (b :: r).all isD with
          | false =>
            simp only [SB, Nat.reduceAdd]
            exact res_none (if_pos (.inr (.inr (.inr (by rw [hm]; exact hd)))))
          | true =>
            have hn := num_of hm hng (by simp) hl (fun h => hz ⟨by simpa using h.1, h.2⟩) hd
            simp only [cond_true, SB, Nat.reduceAdd]
            rw [e1, e2, e45, hb]
            simp only [SB, Nat.reduceAdd]
            rw [if_neg (by decide)] at hn
            exact res_some hn

end Go.Proofs.YtkpdiagdjplbiaaGreatDoor.Vm

/- Chapter 40: the contract of Read. -/
namespace Go.Proofs.YtkpdiagdjplbiaaGreatDoor.Vm
set_option linter.unusedVariables false
set_option linter.unusedSimpArgs false

theorem c_names40 : denC E 31 [] [] = some ([RV.p (PV.sl 1 (strsK repNames))], []) := by
  rw [denC_eq, r31]
  rfl

theorem c_Cut40 (s p : List UInt8) : denC E 37 [AV.str s, AV.str p] [] = some ([RV.p (PV.str (Lib.trimPrefix s p)), RV.p (PV.bool (Lib.hasPrefix s p))], []) := by
  rw [denC_eq]; kernel_rfl

theorem c_Atoi40 (s : List UInt8) (h : s.length ≤ 281474976710656) : denC E 39 [AV.str s] [] = some ([RV.p (PV.int .i64 (atoiP s).1), RV.p (PV.ifc (atoiP s).2)], []) := by
  rw [denC_eq]
  have : funK E (denC E) 39 [AV.str s] [] = match pAtoi [AV.str s] with | some rs => some (rs, []) | none => none := by kernel_rfl
  rw [this]
  unfold pAtoi
  simp only [h, if_true]

theorem c_Idx40 (s : List UInt8) (h : s.length ≤ 4294967280) : denC E 38 [AV.str s, AV.str [32, 10]] [] = some ([RV.p (PV.int .i64 (idxAny s [32, 10]))], []) := by
  rw [denC_eq]
  have : funK E (denC E) 38 [AV.str s, AV.str [32, 10]] [] = match pIndexAny [AV.str s, AV.str [32, 10]] with | some rs => some (rs, []) | none => none := by kernel_rfl
  rw [this]
  have : pIndexAny [AV.str s, AV.str [32, 10]] = some [.p (.int .i64 (idxAny s [32, 10]))] := by
    show (if _ then _ else _) = _
    rw [if_pos (by rw [Nat.ble_eq_true_of_le h]; rfl)]
  rw [this]

theorem idx_rng (cs : List UInt8) : ∀ s : List UInt8, -1 ≤ idxAny s cs ∧ idxAny s cs < s.length + 1 ∧ (idxAny s cs < 0 → idxAny s cs = -1)
  | [] => by simp [idxAny]
  | b :: l => by
    have h := idx_rng cs l
    unfold idxAny
    split
    · simp; omega
    · split
      · simp; omega
      · rename_i h1
        have : idxAny l cs ≠ -1 := by simpa using h1
        simp only [List.length_cons]
        omega

def rdL : List (List UInt8) → List UInt8 → List Int → Option (List Int)
  | [], _, acc => some acc
  | nm :: r, rest, acc =>
    cond (Lib.hasPrefix rest nm)
      (cond (ltB (idxAny (Lib.trimPrefix rest nm) [32, 10]) 0) none
        (cond ((atoiP (cutI (Lib.trimPrefix rest nm) 0 (idxAny (Lib.trimPrefix rest nm) [32, 10]))).2 && (decide (0 ≤ (atoiP (cutI (Lib.trimPrefix rest nm) 0 (idxAny (Lib.trimPrefix rest nm) [32, 10]))).1) && decide ((atoiP (cutI (Lib.trimPrefix rest nm) 0 (idxAny (Lib.trimPrefix rest nm) [32, 10]))).1 ≤ 2147483648)))
          (rdL r (cutI (Lib.trimPrefix rest nm) (idxAny (Lib.trimPrefix rest nm) [32, 10]) (Lib.trimPrefix rest nm).length) (acc ++ [(atoiP (cutI (Lib.trimPrefix rest nm) 0 (idxAny (Lib.trimPrefix rest nm) [32, 10]))).1]))
          none)) none

theorem rdL_len : ∀ (ns : List (List UInt8)) (rest : List UInt8) (acc l : List Int), rdL ns rest acc = some l → l.length = acc.length + ns.length ∧ ((∀ x ∈ acc, 0 ≤ x ∧ x ≤ 2147483648) → ∀ x ∈ l, 0 ≤ x ∧ x ≤ 2147483648)
  | [], rest, acc, l, h => by
    simp only [rdL, Option.some.injEq] at h
    subst h
    exact ⟨rfl, fun h => h⟩
  | nm :: r, rest, acc, l, h => by
    unfold rdL at h
    cases hp : Lib.hasPrefix rest nm with
    | false => rw [hp, cond_false] at h; cases h
    | true =>
      rw [hp, cond_true] at h
      generalize Lib.trimPrefix rest nm = a at h
      generalize idxAny a [32, 10] = e at h
      cases he : ltB e 0 with
      | true => rw [he, cond_true] at h; cases h
      | false =>
        rw [he, cond_false] at h
        generalize atoiP (cutI a 0 e) = n at h
        cases hn : (n.2 && (decide (0 ≤ n.1) && decide (n.1 ≤ 2147483648))) with
        | false => rw [hn, cond_false] at h; cases h
        | true =>
          rw [hn, cond_true] at h
          obtain ⟨h1, h2⟩ := rdL_len r _ _ l h
          simp only [Bool.and_eq_true, decide_eq_true_eq] at hn
          refine ⟨by rw [h1]; simp; omega, fun hacc => h2 fun x hx => ?_⟩
          rcases List.mem_append.1 hx with hx | hx
          · exact hacc x hx
          · simp at hx; subst hx; exact hn.2

def z7 : List AV := [AV.int .i64 0, AV.int .i64 0, AV.int .i64 0, AV.int .i64 0, AV.int .i64 0, AV.int .i64 0, AV.int .i64 0]

theorem l_Read (text : List UInt8) : ∀ (ns pre : List (List UInt8)) (rest : List UInt8) (acc : List Int), pre ++ ns = repNames → rest.length ≤ 1000 → acc.length = pre.length →
    lp E (denC E) 18 0 [] 0 { vals := [AV.str text, AV.str rest, AV.sl 1 (strsK repNames), AV.int .i64 7, AV.int .i64 (pre.length : Int)], blks := [Blk.box z7, Blk.arr 1 (intsK .i64 acc)] } =
      match rdL ns rest acc with
      | some l => some (.exit 0, { vals := [AV.str text], blks := [Blk.box z7, Blk.arr 1 (intsK .i64 l)] })
      | none => some (.ret, { vals := [AV.int .i64 74], blks := [Blk.box z7] }) := by
  intro ns
  induction ns with
  | nil =>
    intro pre rest acc hp hl hk
    have hpl : (pre.length : Int) = 7 := by rw [List.append_nil] at hp; rw [hp]; rfl
    unfold z7
    rw [r18_0, hpl]
    rfl
  | cons nm ns ih =>
    intro pre rest acc hp hl hk
    have hlen : pre.length + (ns.length + 1) = 7 := by have := congrArg List.length hp; simpa [repNames] using this
    have hget : repNames.getD pre.length [] = nm := by rw [← hp]; simp [List.getD]
    have h1 : ltB (pre.length : Int) 7 = true := by simp [ltB]; omega
    unfold z7
    rw [r18_0, h1, ctl_true, getE_strs (by rw [show repNames.length = 7 from rfl]; omega), Int.toNat_natCast, hget]
    simp only [SB, Nat.reduceAdd]
    rw [c_Cut40]
    simp only [SB, Nat.reduceAdd]
    unfold rdL
    cases hpre : Lib.hasPrefix rest nm with
    | false =>
      simp only [SB, Nat.reduceAdd]
    | true =>
      have hll : (Lib.trimPrefix rest nm).length ≤ 1000 := by
        unfold Lib.trimPrefix
        rw [if_pos hpre]
        simp; omega
      generalize Lib.trimPrefix rest nm = a at *
      simp only [SB, Nat.reduceAdd]
      rw [c_Idx40 a (by omega)]
      simp only [SB, Nat.reduceAdd]
      obtain ⟨g1, g2, g3⟩ := idx_rng [32, 10] a
      generalize idxAny a [32, 10] = e at *
      by_cases he : e < 0
      · have h2 : ltB e 0 = true := by simpa [ltB] using he
        simp only [h2, SB, Nat.reduceAdd]
      · have h2 : ltB e 0 = false := by simpa [ltB] using he
        have h3 : leB 0 e = true := by simp [leB]; omega
        have h4 : leB e (a.length : Int) = true := by simp [leB]; omega
        have h5 : leB (a.length : Int) (a.length : Int) = true := by simp [leB]
        simp only [h2, h3, h4, h5, SB, Nat.reduceAdd]
        rw [c_Atoi40 _ (by unfold cutI; simp; omega)]
        have ok1 : ∀ b, okR [RSh.one (Sh.int .i64), RSh.one Sh.ifc] [RV.p (PV.int .i64 (atoiP (cutI a 0 e)).1), RV.p (PV.ifc b)] = true := fun _ => rfl
        have e0 : ∀ b, PV.toNil (.ifc b) = b := fun _ => rfl
        have okB : ∀ b, okR [RSh.one Sh.ifc] [RV.p (PV.ifc b)] = true := fun _ => rfl
        simp only [e0, okB, SB, Nat.reduceAdd]
        have hng : okR [RSh.one (Sh.int .i64), RSh.one Sh.ifc] [RV.p (PV.int .i64 (atoiP (cutI a 0 e)).1), RV.p (PV.ifc (atoiP (cutI a 0 e)).2)] = true := ok1 _
        generalize atoiP (cutI a 0 e) = n at *
        obtain ⟨n1, n2⟩ := n
        cases n2 with
        | false =>
          simp only [okB, Bool.not_true, Bool.not_false, Bool.false_and, SB, Nat.reduceAdd]
        | true =>
          simp only [okB, Bool.not_true, Bool.not_false, SB, Nat.reduceAdd]
          rw [c_possible]
          simp only [SB, Nat.reduceAdd]
          cases hq : (decide (0 ≤ n1) && decide (n1 ≤ 2147483648)) with
          | false =>
            simp only [SB, Nat.reduceAdd]
          | true =>
            have h6 : leN (((intsK .i64 acc).length + 1) * 8) 140737488355328 = true := by rw [intsK_length]; simp [leN]; omega
            have h7 : intsK .i64 acc ++ [[PV.int .i64 n1]] = intsK .i64 (acc ++ [n1]) := by simp [intsK]
            have h8 : IntKind.i64.wrap ((pre.length : Int) + 1) = (((pre ++ [nm]).length : Nat) : Int) := by rw [w64 (by omega)]; simp
            simp only [h6, h7, h8, SB, Nat.reduceAdd]
            have := ih (pre ++ [nm]) (cutI a e (a.length : Int)) (acc ++ [n1]) (by rw [List.append_assoc]; exact hp) (by unfold cutI; simp; omega) (by simp [hk])
            unfold z7 at this
            exact this

theorem pre_app (p x : List UInt8) : Lib.hasPrefix (p ++ x) p = true ∧ Lib.trimPrefix (p ++ x) p = x := by
  have h : Lib.hasPrefix (p ++ x) p = true := by
    unfold Lib.hasPrefix
    rw [List.isPrefixOf_iff_prefix]
    exact ⟨x, rfl⟩
  refine ⟨h, ?_⟩
  unfold Lib.trimPrefix
  rw [if_pos h]
  simp

theorem idx_at : ∀ (d : List UInt8) (c : UInt8) (y : List UInt8), (∀ b ∈ d, b ≠ 32 ∧ b ≠ 10) → (c = 32 ∨ c = 10) → idxAny (d ++ c :: y) [32, 10] = d.length
  | [], c, y, _, hc => by
    rcases hc with rfl | rfl <;> rfl
  | b :: d, c, y, hd, hc => by
    have ih := idx_at d c y (fun x hx => hd x (.tail _ hx)) hc
    obtain ⟨h1, h2⟩ := hd b (.head _)
    have e : idxAny (b :: (d ++ c :: y)) [32, 10] = if [32, 10].contains b then 0 else if idxAny (d ++ c :: y) [32, 10] == -1 then -1 else idxAny (d ++ c :: y) [32, 10] + 1 := rfl
    rw [List.cons_append, e, if_neg (by simp [h1, h2]), ih, if_neg (by simp <;> omega)]
    simp

theorem itoa_byte {n : Int} (hn : 0 ≤ n) : ∀ b ∈ Lib.itoa n, isD b = true := by
  have h := (dec_spec n.toNat).1
  unfold Lib.itoa
  rw [if_neg (by omega)]
  exact fun b hb => List.all_eq_true.1 h b hb

theorem rdL_step {nm : List UInt8} {r : List (List UInt8)} {Y : List UInt8} {acc : List Int} {n : Int} (hn : 0 ≤ n ∧ n ≤ 2147483648) (hY : ∃ c y, Y = c :: y ∧ (c = 32 ∨ c = 10)) :
    rdL (nm :: r) (nm ++ (Lib.itoa n ++ Y)) acc = rdL r Y (acc ++ [n]) := by
  obtain ⟨c, y, rfl, hc⟩ := hY
  obtain ⟨h1, h2⟩ := pre_app nm (Lib.itoa n ++ c :: y)
  have h3 := idx_at (Lib.itoa n) c y (fun b hb => by
    have := itoa_byte hn.1 b hb
    constructor <;> (intro e; subst e; exact absurd this (by decide))) hc
  have h4 : ltB ((Lib.itoa n).length : Int) 0 = false := by simp [ltB] <;> omega
  have h5 : cutI (Lib.itoa n ++ c :: y) 0 ((Lib.itoa n).length : Int) = Lib.itoa n := by simp [cutI]
  have h6 : cutI (Lib.itoa n ++ c :: y) ((Lib.itoa n).length : Int) ((Lib.itoa n ++ c :: y).length : Int) = c :: y := by unfold cutI; rw [Int.toNat_natCast, Int.toNat_natCast, List.take_length]; simp
  have h7 : atoiP (Lib.itoa n) = (n, true) := by unfold atoiP; rw [atoi_itoa (by omega)]
  have h8 : (decide (0 ≤ n) && decide (n ≤ 2147483648)) = true := by simp; omega
  conv => lhs; unfold rdL
  rw [h1, h2, h3, h4, h5, h6, h7]
  simp only [h8, cond_true, cond_false, Bool.and_self]

theorem repB_eq (a0 a1 a2 a3 a4 a5 a6 : Int) : repB a0 a1 a2 a3 a4 a5 a6 = [114, 101, 100, 32] ++ (Lib.itoa a1 ++ ([32, 121, 101, 108, 108, 111, 119, 32] ++ (Lib.itoa a2 ++ ([32, 103, 114, 101, 101, 110, 32] ++ (Lib.itoa a3 ++ ([32, 110, 111, 110, 101, 32] ++ (Lib.itoa a0 ++ ([10, 119, 111, 114, 115, 116, 32] ++ (Lib.itoa a4 ++ ([10, 98, 114, 111, 107, 101, 110, 32] ++ (Lib.itoa a5 ++ ([10, 115, 104, 111, 114, 116, 32] ++ (Lib.itoa a6 ++ [10]))))))))))))) := by
  simp [repB, repNames, repNums]

def okN (n : Int) : Prop := 0 ≤ n ∧ n ≤ 2147483648

theorem rdL_rep {a0 a1 a2 a3 a4 a5 a6 : Int} (h0 : okN a0) (h1 : okN a1) (h2 : okN a2) (h3 : okN a3) (h4 : okN a4) (h5 : okN a5) (h6 : okN a6) : rdL repNames (repB a0 a1 a2 a3 a4 a5 a6) [] = some [a1, a2, a3, a0, a4, a5, a6] := by
  rw [repB_eq]
  unfold repNames
  exact (rdL_step h1 ⟨_, _, rfl, .inl rfl⟩).trans ((rdL_step h2 ⟨_, _, rfl, .inl rfl⟩).trans ((rdL_step h3 ⟨_, _, rfl, .inl rfl⟩).trans ((rdL_step h0 ⟨_, _, rfl, .inr rfl⟩).trans ((rdL_step h4 ⟨_, _, rfl, .inr rfl⟩).trans ((rdL_step h5 ⟨_, _, rfl, .inr rfl⟩).trans (rdL_step h6 ⟨_, _, rfl, .inr rfl⟩))))))

theorem okN_i64 {a0 a1 a2 a3 a4 a5 a6 : Int} (h0 : okN a0) (h1 : okN a1) (h2 : okN a2) (h3 : okN a3) (h4 : okN a4) (h5 : okN a5) (h6 : okN a6) : ([a0, a1, a2, a3, a4, a5, a6].all i64B) = true := by
  have : ∀ n, okN n → i64B n = true := fun n h => by unfold i64B; unfold okN at h; simp; omega
  simp [this _ h0, this _ h1, this _ h2, this _ h3, this _ h4, this _ h5, this _ h6]

theorem c_Read40 (text : List UInt8) (hl : text.length ≤ 1000) :
    (∃ q0 q1 q2 q3 q4 q5 q6, okN q0 ∧ okN q1 ∧ okN q2 ∧ okN q3 ∧ okN q4 ∧ okN q5 ∧ okN q6 ∧ repB q0 q1 q2 q3 q4 q5 q6 = text ∧
      denC E 18 [AV.str text] [] = some ([RV.agg [PV.int .i64 q0, PV.int .i64 q1, PV.int .i64 q2, PV.int .i64 q3, PV.int .i64 q4, PV.int .i64 q5, PV.int .i64 q6], RV.p (PV.int .i64 0)], [])) ∨
    ((∀ q0 q1 q2 q3 q4 q5 q6, okN q0 → okN q1 → okN q2 → okN q3 → okN q4 → okN q5 → okN q6 → repB q0 q1 q2 q3 q4 q5 q6 ≠ text) ∧
      denC E 18 [AV.str text] [] = some ([RV.agg [PV.int .i64 0, PV.int .i64 0, PV.int .i64 0, PV.int .i64 0, PV.int .i64 0, PV.int .i64 0, PV.int .i64 0], RV.p (PV.int .i64 74)], [])) := by
  have hlp := l_Read text repNames [] text [] rfl hl rfl
  unfold z7 at hlp
  have e0 : (([] : List (List UInt8)).length : Int) = 0 := rfl
  have e1 : intsK .i64 [] = reps [PV.int .i64 0] 0 := rfl
  have e2 : ((strsK repNames).length : Int) = 7 := rfl
  rw [e0, e1] at hlp
  have b1 : leB 7 9223372036854775807 = true := rfl
  have b2 : leB (7 * 8) 140737488355328 = true := rfl
  have key : ∀ X, denC E 18 [AV.str text] [] = X ↔ denC E 18 [AV.str text] [] = X := fun X => Iff.rfl
  rw [denC_eq, r18, c_names40]
  simp only [e2, b1, b2, SB, Nat.reduceAdd]
  rw [hlp]
  cases hr : rdL repNames text [] with
  | none =>
    refine .inr ⟨fun q0 q1 q2 q3 q4 q5 q6 h0 h1 h2 h3 h4 h5 h6 he => ?_, ?_⟩
    · rw [← he, rdL_rep h0 h1 h2 h3 h4 h5 h6] at hr; cases hr
    · simp only [SB, Nat.reduceAdd]
  | some l =>
    obtain ⟨g1, g2⟩ := rdL_len _ _ _ _ hr
    have g2 := g2 (fun x hx => (List.not_mem_nil hx).elim)
    match l, g1, g2 with
    | [n0, n1, n2, n3, n4, n5, n6], _, g2 =>
      have k0 : okN n0 := g2 n0 (by simp)
      have k1 : okN n1 := g2 n1 (by simp)
      have k2 : okN n2 := g2 n2 (by simp)
      have k3 : okN n3 := g2 n3 (by simp)
      have k4 : okN n4 := g2 n4 (by simp)
      have k5 : okN n5 := g2 n5 (by simp)
      have k6 : okN n6 := g2 n6 (by simp)
      have hT := c_Text40 n3 n0 n1 n2 n4 n5 n6 (okN_i64 k3 k0 k1 k2 k4 k5 k6)
      have l3 : ltB 3 (((intsK .i64 [n0, n1, n2, n3, n4, n5, n6]).length : Nat) : Int) = true := rfl
      have l0 : ltB 0 (((intsK .i64 [n0, n1, n2, n3, n4, n5, n6]).length : Nat) : Int) = true := rfl
      have l1 : ltB 1 (((intsK .i64 [n0, n1, n2, n3, n4, n5, n6]).length : Nat) : Int) = true := rfl
      have l2 : ltB 2 (((intsK .i64 [n0, n1, n2, n3, n4, n5, n6]).length : Nat) : Int) = true := rfl
      have l4 : ltB 4 (((intsK .i64 [n0, n1, n2, n3, n4, n5, n6]).length : Nat) : Int) = true := rfl
      have l5 : ltB 5 (((intsK .i64 [n0, n1, n2, n3, n4, n5, n6]).length : Nat) : Int) = true := rfl
      have l6 : ltB 6 (((intsK .i64 [n0, n1, n2, n3, n4, n5, n6]).length : Nat) : Int) = true := rfl
      have w0 : nth [] (intsK .i64 [n0, n1, n2, n3, n4, n5, n6]) 0 = [PV.int .i64 n0] := rfl
      have w1 : nth [] (intsK .i64 [n0, n1, n2, n3, n4, n5, n6]) 1 = [PV.int .i64 n1] := rfl
      have w2 : nth [] (intsK .i64 [n0, n1, n2, n3, n4, n5, n6]) 2 = [PV.int .i64 n2] := rfl
      have w3 : nth [] (intsK .i64 [n0, n1, n2, n3, n4, n5, n6]) 3 = [PV.int .i64 n3] := rfl
      have w4 : nth [] (intsK .i64 [n0, n1, n2, n3, n4, n5, n6]) 4 = [PV.int .i64 n4] := rfl
      have w5 : nth [] (intsK .i64 [n0, n1, n2, n3, n4, n5, n6]) 5 = [PV.int .i64 n5] := rfl
      have w6 : nth [] (intsK .i64 [n0, n1, n2, n3, n4, n5, n6]) 6 = [PV.int .i64 n6] := rfl
      have td : ∀ n : Int, okCs [Sh.int .i64] (List.take 1 (List.drop 0 [PV.int .i64 n])) = true := fun n => rfl
      simp only [SB, Nat.reduceAdd, l0, l1, l2, l3, l4, l5, l6, w0, w1, w2, w3, w4, w5, w6, td]
      rw [hT]
      simp only [SB, Nat.reduceAdd]
      by_cases he : repB n3 n0 n1 n2 n4 n5 n6 = text
      · have hb : (repB n3 n0 n1 n2 n4 n5 n6 == text) = true := by simpa using he
        simp only [hb, SB, Nat.reduceAdd]
        exact .inl ⟨n3, n0, n1, n2, n4, n5, n6, k3, k0, k1, k2, k4, k5, k6, he, rfl⟩
      · have hb : (repB n3 n0 n1 n2 n4 n5 n6 == text) = false := by simpa using he
        simp only [hb, SB, Nat.reduceAdd]
        refine .inr ⟨fun q0 q1 q2 q3 q4 q5 q6 h0 h1 h2 h3 h4 h5 h6 he2 => ?_, by first | rfl | trivial⟩
        rw [← he2, rdL_rep h0 h1 h2 h3 h4 h5 h6] at hr
        cases hr
        exact he he2

end Go.Proofs.YtkpdiagdjplbiaaGreatDoor.Vm
