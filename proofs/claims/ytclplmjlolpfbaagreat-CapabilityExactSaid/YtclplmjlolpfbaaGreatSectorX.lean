import Derived.Test.YtclplmjlolpfbaaGreatSectorS
/- Contracts of the references that compute with angles. -/
namespace Go.Proofs.YtclplmjlolpfbaaGreat.Vm
set_option linter.unusedVariables false
set_option linter.unusedSimpArgs false

theorem c_RNorm (a : Int) : denC E 71 [AV.int .i64 a] [] = some ([RV.p (PV.int .i64 (Norm a))], []) := by
  rw [denC_eq, r71]
  have hb := tmod_bounds (a := a) (d := 3600) (by omega)
  have hf := tmod_fix (a := a) (d := 3600) (by omega)
  rw [w64 (by omega), Int.tmod_eq_emod_of_nonneg (by omega)]
  have : (a.tmod 3600 + 3600) % 3600 = Norm a := by
    unfold Norm
    rw [Int.add_emod_right]
    split at hf
    · rw [← Int.add_emod_right, hf, Int.emod_emod]
    · rw [hf, Int.emod_emod]
  rw [this]

theorem c_Rin (x m : Int) (hm : 0 ≤ m ∧ m ≤ 1000000000000000000) : denC E 111 [AV.int .i64 x, AV.int .i64 m] [] = some ([RV.p (PV.bool (leB (0 - m) x && leB x m))], []) := by
  rw [denC_eq, r111, w64 (by omega)]
  simp only [SB, Nat.reduceAdd]

theorem c_Rfits (n d : Int) : denC E 81 [AV.int .i64 n, AV.int .i64 d] [] = some ([RV.p (PV.bool (leB (0 - 1000000000000000000) n && leB n 1000000000000000000 && leB 1 d && leB d 1000000000))], []) := by
  rw [denC_eq, r81, c_Rin _ _ (by omega)]
  simp only [SB, Nat.reduceAdd]

theorem c_Rfloor {n d : Int} (hd : 0 < d) (hn : -9000000000000000000 ≤ n ∧ n ≤ 9000000000000000000) : denC E 82 [AV.int .i64 n, AV.int .i64 d] [] = some ([RV.p (PV.int .i64 (n / d))], []) := by
  have h := c_floor hd hn
  rw [denC_eq, r79] at h
  rw [denC_eq, r82]
  exact h

theorem c_RHalf {n d : Int} (hd : 1 ≤ d ∧ d ≤ 1000000000) (hn : -1000000000000000000 ≤ n ∧ n ≤ 1000000000000000000) :
    denC E 56 [AV.int .i64 n, AV.int .i64 d] [] = some ([RV.p (PV.int .i64 (Half n d)), RV.p (PV.int .i64 0)], []) := by
  rw [denC_eq, r56, c_Rfits]
  have h1 : (leB (0 - 1000000000000000000) n && leB n 1000000000000000000 && leB 1 d && leB d 1000000000) = true := by simp only [Bool.and_eq_true, decide_eq_true_eq]; omega
  rw [h1]
  simp only [SB, Nat.reduceAdd]
  rw [w64 (n := 2 * n) (by omega), w64 (n := 2 * n + d) (by omega), w64 (n := 2 * d) (by omega), c_Rfloor (by omega) (by omega)]
  simp only [SB, Nat.reduceAdd, Half]

theorem c_RSin0 {a : Int} (ha : Norm a ≤ 1800) : denC E 48 [AV.int .i64 a] [] = some ([RV.p (PV.int .i64 (Sin0 (Norm a)))], []) := by
  rw [denC_eq, r48, c_RNorm]
  have hN := Norm_lt a
  simp only [SB, Nat.reduceAdd]
  rw [ctl_dec, if_neg (by omega)]
  have hp := Sin0_prod (p := Norm a) (by omega)
  rw [w64 (n := 1800 - Norm a) (by omega), w64 (n := Norm a * (1800 - Norm a)) (by omega), w64 (n := 40000 * _) (by omega), w64 (n := 4050000 - _) (by omega), c_RHalf (by omega) (by omega)]
  simp only [SB, Nat.reduceAdd]
  rfl

theorem c_RSin (a : Int) : denC E 48 [AV.int .i64 a] [] = some ([RV.p (PV.int .i64 (Sin a))], []) := by
  have hN := Norm_lt a
  unfold Sin
  by_cases h : Norm a > 1800
  · rw [if_pos h]
    have hn : Norm (Norm a - 1800) = Norm a - 1800 := by unfold Norm at *; omega
    have h0 := c_RSin0 (a := Norm a - 1800) (by rw [hn]; omega)
    rw [hn] at h0
    rw [denC_eq, r48, c_RNorm]
    simp only [SB, Nat.reduceAdd]
    rw [ctl_dec, if_pos h, w64 (n := Norm a - 1800) (by omega), h0]
    have hb := Sin0_bound (p := Norm a - 1800) (by omega)
    simp only [SB, Nat.reduceAdd]
    rw [w64 (by omega)]
    congr 5
    omega
  · rw [if_neg h]
    exact c_RSin0 (by omega)

theorem c_RCos (a : Int) : denC E 47 [AV.int .i64 a] [] = some ([RV.p (PV.int .i64 (Cos a))], []) := by
  rw [denC_eq, r47, c_RNorm]
  have hN := Norm_lt a
  simp only [SB, Nat.reduceAdd]
  rw [w64 (by omega), c_RSin]
  simp only [SB, Nat.reduceAdd, Cos]

def WidthG (x y : Int) : Int := Norm (IntKind.i64.wrap (y - x))
theorem c_RWidth (x y : Int) : denC E 124 [AV.agg [PV.int .i64 x, PV.int .i64 y]] [] = some ([RV.p (PV.int .i64 (WidthG x y))], []) := by
  rw [denC_eq, r124, c_RNorm]
  simp only [SB, Nat.reduceAdd, WidthG]
theorem WidthG_eq {x y : Int} (hx : 0 ≤ x ∧ x < 3600) (hy : 0 ≤ y ∧ y < 3600) : WidthG x y = Width x y := by
  unfold WidthG Width
  rw [w64 (by omega)]

theorem c_RValid (x y : Int) : denC E 110 [AV.agg [PV.int .i64 x, PV.int .i64 y]] [] = some ([RV.p (PV.bool (Valid x y))], []) := by
  rw [denC_eq, r110, c_RWidth]
  simp only [SB, Nat.reduceAdd]
  have : (leB 0 x && ltB x 3600 && leB 0 y && ltB y 3600 && leB (WidthG x y) 1799) = Valid x y := by
    rw [Bool.eq_iff_iff, Valid_iff]
    simp only [Bool.and_eq_true, decide_eq_true_eq]
    constructor
    · rintro ⟨⟨⟨⟨h1, h2⟩, h3⟩, h4⟩, h5⟩
      rw [WidthG_eq ⟨h1, h2⟩ ⟨h3, h4⟩] at h5
      omega
    · rintro ⟨h1, h2, h3, h4, h5⟩
      rw [WidthG_eq ⟨h1, h2⟩ ⟨h3, h4⟩]
      omega
  rw [this]

theorem c_Rsmall (x y : Int) : denC E 131 [AV.int .i64 x, AV.int .i64 y] [] = some ([RV.p (PV.bool (Small x y))], []) := by
  rw [denC_eq, r131]
  simp only [SB, Nat.reduceAdd]
  have : (leB (-1000000000) x && leB x 1000000000 && leB (-1000000000) y && leB y 1000000000) = Small x y := by
    rw [Bool.eq_iff_iff, Small_iff]
    simp only [Bool.and_eq_true, decide_eq_true_eq]
    omega
  rw [this]

theorem c_RCross (a x y : Int) : denC E 132 [AV.int .i64 a, AV.int .i64 x, AV.int .i64 y] [] = some ([RV.p (PV.int .i64 (Cross a x y))], []) := by
  rw [denC_eq, r132, c_Rsmall, c_RCos, c_RSin]
  simp only [SB, Nat.reduceAdd]
  unfold Cross
  cases h : Small x y with
  | false => rfl
  | true =>
    have hs := Small_iff.1 h
    have h1 := mul_le (a := Cos a) (b := y) (m := 10000) (n := 1000000000) (Cos_le a) (by omega)
    have h2 := mul_le (a := Sin a) (b := x) (m := 10000) (n := 1000000000) (Sin_le a) (by omega)
    rw [w64 (n := Cos a * y) (by omega), w64 (n := Sin a * x) (by omega), w64 (by omega)]
    rfl

theorem c_RWithin (x y px py : Int) : denC E 128 [AV.agg [PV.int .i64 x, PV.int .i64 y], AV.int .i64 px, AV.int .i64 py] [] = some ([RV.p (PV.bool (Within x y px py))], []) := by
  rw [denC_eq, r128]
  simp only [c_RValid, c_Rsmall, c_RCross, c_RCos, c_RSin, SB, Nat.reduceAdd]
  unfold Within
  cases hv : Valid x y with
  | false => rfl
  | true =>
    cases hs : Small px py with
    | false => simp [ctl]
    | true =>
      cases h0 : (px == 0 && py == 0) with
      | true => simp [ctl]
      | false =>
        have hs' := Small_iff.1 hs
        have h1 := mul_le (a := Cos x) (b := px) (m := 10000) (n := 1000000000) (Cos_le x) (by omega)
        have h2 := mul_le (a := Sin x) (b := py) (m := 10000) (n := 1000000000) (Sin_le x) (by omega)
        rw [w64 (n := Cos x * px) (by omega), w64 (n := Sin x * py) (by omega), w64 (n := Cos x * px + Sin x * py) (by omega)]
        simp [ctl]

end Go.Proofs.YtclplmjlolpfbaaGreat.Vm

/- Contracts of the references for thrusters; bent thrusters. -/
namespace Go.Proofs.YtclplmjlolpfbaaGreat.Vm
set_option linter.unusedVariables false
set_option linter.unusedSimpArgs false

theorem nth_10 {α : Type} (d : α) (a0 a1 a2 a3 a4 a5 a6 a7 a8 a9 a10 : α) (l : List α) : nth d (a0 :: a1 :: a2 :: a3 :: a4 :: a5 :: a6 :: a7 :: a8 :: a9 :: a10 :: l) 10 = a10 := rfl
theorem nth_11 {α : Type} (d : α) (a0 a1 a2 a3 a4 a5 a6 a7 a8 a9 a10 a11 : α) (l : List α) : nth d (a0 :: a1 :: a2 :: a3 :: a4 :: a5 :: a6 :: a7 :: a8 :: a9 :: a10 :: a11 :: l) 11 = a11 := rfl
theorem nth_12 {α : Type} (d : α) (a0 a1 a2 a3 a4 a5 a6 a7 a8 a9 a10 a11 a12 : α) (l : List α) : nth d (a0 :: a1 :: a2 :: a3 :: a4 :: a5 :: a6 :: a7 :: a8 :: a9 :: a10 :: a11 :: a12 :: l) 12 = a12 := rfl
theorem nth_13 {α : Type} (d : α) (a0 a1 a2 a3 a4 a5 a6 a7 a8 a9 a10 a11 a12 a13 : α) (l : List α) : nth d (a0 :: a1 :: a2 :: a3 :: a4 :: a5 :: a6 :: a7 :: a8 :: a9 :: a10 :: a11 :: a12 :: a13 :: l) 13 = a13 := rfl
theorem nth_14 {α : Type} (d : α) (a0 a1 a2 a3 a4 a5 a6 a7 a8 a9 a10 a11 a12 a13 a14 : α) (l : List α) : nth d (a0 :: a1 :: a2 :: a3 :: a4 :: a5 :: a6 :: a7 :: a8 :: a9 :: a10 :: a11 :: a12 :: a13 :: a14 :: l) 14 = a14 := rfl
theorem nth_15 {α : Type} (d : α) (a0 a1 a2 a3 a4 a5 a6 a7 a8 a9 a10 a11 a12 a13 a14 a15 : α) (l : List α) : nth d (a0 :: a1 :: a2 :: a3 :: a4 :: a5 :: a6 :: a7 :: a8 :: a9 :: a10 :: a11 :: a12 :: a13 :: a14 :: a15 :: l) 15 = a15 := rfl
theorem nth_16 {α : Type} (d : α) (a0 a1 a2 a3 a4 a5 a6 a7 a8 a9 a10 a11 a12 a13 a14 a15 a16 : α) (l : List α) : nth d (a0 :: a1 :: a2 :: a3 :: a4 :: a5 :: a6 :: a7 :: a8 :: a9 :: a10 :: a11 :: a12 :: a13 :: a14 :: a15 :: a16 :: l) 16 = a16 := rfl
theorem nth_17 {α : Type} (d : α) (a0 a1 a2 a3 a4 a5 a6 a7 a8 a9 a10 a11 a12 a13 a14 a15 a16 a17 : α) (l : List α) : nth d (a0 :: a1 :: a2 :: a3 :: a4 :: a5 :: a6 :: a7 :: a8 :: a9 :: a10 :: a11 :: a12 :: a13 :: a14 :: a15 :: a16 :: a17 :: l) 17 = a17 := rfl
theorem nth_18 {α : Type} (d : α) (a0 a1 a2 a3 a4 a5 a6 a7 a8 a9 a10 a11 a12 a13 a14 a15 a16 a17 a18 : α) (l : List α) : nth d (a0 :: a1 :: a2 :: a3 :: a4 :: a5 :: a6 :: a7 :: a8 :: a9 :: a10 :: a11 :: a12 :: a13 :: a14 :: a15 :: a16 :: a17 :: a18 :: l) 18 = a18 := rfl
theorem nth_19 {α : Type} (d : α) (a0 a1 a2 a3 a4 a5 a6 a7 a8 a9 a10 a11 a12 a13 a14 a15 a16 a17 a18 a19 : α) (l : List α) : nth d (a0 :: a1 :: a2 :: a3 :: a4 :: a5 :: a6 :: a7 :: a8 :: a9 :: a10 :: a11 :: a12 :: a13 :: a14 :: a15 :: a16 :: a17 :: a18 :: a19 :: l) 19 = a19 := rfl
theorem nth_20 {α : Type} (d : α) (a0 a1 a2 a3 a4 a5 a6 a7 a8 a9 a10 a11 a12 a13 a14 a15 a16 a17 a18 a19 a20 : α) (l : List α) : nth d (a0 :: a1 :: a2 :: a3 :: a4 :: a5 :: a6 :: a7 :: a8 :: a9 :: a10 :: a11 :: a12 :: a13 :: a14 :: a15 :: a16 :: a17 :: a18 :: a19 :: a20 :: l) 20 = a20 := rfl
theorem nth_21 {α : Type} (d : α) (a0 a1 a2 a3 a4 a5 a6 a7 a8 a9 a10 a11 a12 a13 a14 a15 a16 a17 a18 a19 a20 a21 : α) (l : List α) : nth d (a0 :: a1 :: a2 :: a3 :: a4 :: a5 :: a6 :: a7 :: a8 :: a9 :: a10 :: a11 :: a12 :: a13 :: a14 :: a15 :: a16 :: a17 :: a18 :: a19 :: a20 :: a21 :: l) 21 = a21 := rfl
theorem nth_22 {α : Type} (d : α) (a0 a1 a2 a3 a4 a5 a6 a7 a8 a9 a10 a11 a12 a13 a14 a15 a16 a17 a18 a19 a20 a21 a22 : α) (l : List α) : nth d (a0 :: a1 :: a2 :: a3 :: a4 :: a5 :: a6 :: a7 :: a8 :: a9 :: a10 :: a11 :: a12 :: a13 :: a14 :: a15 :: a16 :: a17 :: a18 :: a19 :: a20 :: a21 :: a22 :: l) 22 = a22 := rfl
theorem nth_23 {α : Type} (d : α) (a0 a1 a2 a3 a4 a5 a6 a7 a8 a9 a10 a11 a12 a13 a14 a15 a16 a17 a18 a19 a20 a21 a22 a23 : α) (l : List α) : nth d (a0 :: a1 :: a2 :: a3 :: a4 :: a5 :: a6 :: a7 :: a8 :: a9 :: a10 :: a11 :: a12 :: a13 :: a14 :: a15 :: a16 :: a17 :: a18 :: a19 :: a20 :: a21 :: a22 :: a23 :: l) 23 = a23 := rfl

def oddL : List Int := [-1, 0, 1, 4611686018427387904, -4611686018427387904, 9223372036854775807, -9223372036854775808, 1000000000, 1000000001, -1000000001, 3600, 1800, 100000000, 100000001, 5001]
theorem c_Odd {L : List Int} {k : Nat} (hL : L.length ≤ 600) (hk : k ≤ 600) :
    denC E 31 [AV.t (.ptr 0 0)] [src L k] = some ([RV.p (PV.int .i64 (vPick L k oddL))], [src L (at' L k)]) := by
  rw [denC_eq]
  have e1 := c_Pick hL hk (l := oddL) (by decide)
  unfold intsK oddL at e1
  simp only [List.map_cons, List.map_nil] at e1
  rw [r31]
  rw [e1]
  simp only [SB, Nat.reduceAdd]
  rfl

theorem rv_loop : ∀ (l p : List (Int × Int)), (p ++ l).length ≤ maxLen →
    lp E (denC E) 80 0 [] 0 { vals := [AV.sl 2 (arcK (p ++ l)), AV.int .i64 ((p ++ l).length : Int), AV.int .i64 (p.length : Int)], blks := [] } =
      ctl (okA' l) (some (Ex.exit 0, { vals := [], blks := [] })) (some (Ex.ret, { vals := [AV.bool false], blks := [] }))
  | [], p, h => by
    rw [r80_0, ctl_dec, if_neg (by simp)]
    rfl
  | s :: l, p, h => by
    simp only [List.length_append, List.length_cons] at h
    have hm : maxLen ≤ 9223372036854775807 := by decide
    rw [r80_0, ctl_dec, if_pos (by simp; omega), getE_arc]
    have ih := rv_loop l (p ++ [s]) (by simp; omega)
    simp only [List.append_assoc, List.cons_append, List.nil_append, List.length_append, List.length_cons, List.length_nil] at ih
    simp only [List.length_append, List.length_cons, arcC, SB, Nat.reduceAdd, c_RValid]
    rw [w64 (n := (p.length : Int) + 1) (by omega)]
    have e1 : ((p.length : Int) + 1) = ((p.length + (0 + 1) : Nat) : Int) := by omega
    rw [e1, ih]
    have e2 : okA' (s :: l) = (Valid s.1 s.2 && okA' l) := rfl
    rw [e2]
    cases Valid s.1 s.2 <;> simp only [SB, Nat.reduceAdd, Bool.false_and]

theorem c_RTValid {t : Thr} (h : t.fb.length ≤ maxLen) : denC E 80 [AV.agg (thC t)] [] = some ([RV.p (PV.bool (okT t))], []) := by
  have hl := rv_loop t.fb [] (by simpa using h)
  simp only [List.nil_append, List.length_nil] at hl
  have e0 : (((0 : Nat)) : Int) = 0 := rfl
  rw [e0] at hl
  unfold thC
  rw [denC_eq, r80, arcK_length, hl]
  simp only [SB, Nat.reduceAdd]
  have e : (ltB t.kd 1 || ltB 3 t.kd || ltB t.st 0 || ltB 1 t.st || ltB t.mx 0 || ltB 5000 t.mx || ltB t.rt 0 || ltB 5000 t.rt || ltB t.ct 1 || ltB 100 t.ct || ltB 4 (t.fb.length : Int)) = !okT0 t := by
    rw [Bool.eq_iff_iff]
    simp only [Bool.or_eq_true, decide_eq_true_eq, Bool.not_eq_true']
    have := okT0_iff (t := t)
    cases hh : okT0 t with
    | true => have := this.1 hh; simp only [Bool.true_eq_false, iff_false]; omega
    | false =>
      simp only [iff_true]
      have h2 : ¬ (1 ≤ t.kd ∧ t.kd ≤ 3 ∧ 0 ≤ t.st ∧ t.st ≤ 1 ∧ 0 ≤ t.mx ∧ t.mx ≤ 5000 ∧ 0 ≤ t.rt ∧ t.rt ≤ 5000 ∧ 1 ≤ t.ct ∧ t.ct ≤ 100 ∧ t.fb.length ≤ 4) := fun h3 => by rw [this.2 h3] at hh; cases hh
      omega
  rw [e]
  unfold okT
  cases okT0 t <;> cases okA' t.fb <;> simp only [SB, Nat.reduceAdd, Bool.false_and, Bool.and_false]

theorem ra_loop (x y : Int) : ∀ (l p : List (Int × Int)), (p ++ l).length ≤ maxLen →
    lp E (denC E) 119 0 [] 0 { vals := [AV.int .i64 x, AV.int .i64 y, AV.sl 2 (arcK (p ++ l)), AV.int .i64 ((p ++ l).length : Int), AV.int .i64 (p.length : Int)], blks := [] } =
      ctl (free l x y) (some (Ex.exit 0, { vals := [], blks := [] })) (some (Ex.ret, { vals := [AV.bool false], blks := [] }))
  | [], p, h => by
    rw [r119_0, ctl_dec, if_neg (by simp)]
    rfl
  | s :: l, p, h => by
    simp only [List.length_append, List.length_cons] at h
    have hm : maxLen ≤ 9223372036854775807 := by decide
    rw [r119_0, ctl_dec, if_pos (by simp; omega), getE_arc]
    have ih := ra_loop x y l (p ++ [s]) (by simp; omega)
    simp only [List.append_assoc, List.cons_append, List.nil_append, List.length_append, List.length_cons, List.length_nil] at ih
    simp only [List.length_append, List.length_cons, arcC, SB, Nat.reduceAdd, c_RWithin]
    rw [w64 (n := (p.length : Int) + 1) (by omega)]
    have e1 : ((p.length : Int) + 1) = ((p.length + (0 + 1) : Nat) : Int) := by omega
    rw [e1, ih]
    have e2 : free (s :: l) x y = (!Within s.1 s.2 x y && free l x y) := rfl
    rw [e2]
    cases Within s.1 s.2 x y <;> simp only [SB, Nat.reduceAdd, Bool.false_and]

theorem c_RAllowed {t : Thr} (h : t.fb.length ≤ maxLen) (x y : Int) : denC E 119 [AV.agg (thC t), AV.int .i64 x, AV.int .i64 y] [] = some ([RV.p (PV.bool (okT t && alw t x y))], []) := by
  have hl := ra_loop x y t.fb [] (by simpa using h)
  simp only [List.nil_append, List.length_nil] at hl
  have e0 : (((0 : Nat)) : Int) = 0 := rfl
  rw [e0] at hl
  have hV := c_RTValid h
  unfold thC at hV ⊢
  rw [denC_eq, r119, hV, arcK_length, hl]
  simp only [SB, Nat.reduceAdd]
  cases hv : okT t with
  | false => simp only [SB, Nat.reduceAdd, Bool.true_or, Bool.false_and]
  | true =>
    have hv' := okT0_iff.1 (okT_iff.1 hv).1
    rw [w64 (n := 0 - t.mx) (by omega)]
    by_cases h0 : -t.mx ≤ x ∧ x ≤ t.mx ∧ -t.mx ≤ y ∧ y ≤ t.mx
    · have s1 := sq_le (a := x) (m := t.mx) (by omega)
      have s2 := sq_le (a := y) (m := t.mx) (by omega)
      have s3 := sq_le (a := t.mx) (m := 5000) (by omega)
      rw [w64 (n := t.mx * t.mx) (by omega), w64 (n := x * x) (by omega), w64 (n := y * y) (by omega), w64 (n := x * x + y * y) (by omega)]
      have f1 : ltB x (0 - t.mx) = false := by simp only [decide_eq_false_iff_not]; omega
      have f2 : ltB t.mx x = false := by simp only [decide_eq_false_iff_not]; omega
      have f3 : ltB y (0 - t.mx) = false := by simp only [decide_eq_false_iff_not]; omega
      have f4 : ltB t.mx y = false := by simp only [decide_eq_false_iff_not]; omega
      rw [f1, f2, f3, f4]
      simp only [SB, Nat.reduceAdd]
      unfold alw
      have e3 : alw0 t x y = (!ltB (t.mx * t.mx) (x * x + y * y) && !((t.kd == 1) && (x != 0)) && !((t.kd == 2) && (y != 0))) := by
        rw [Bool.eq_iff_iff, alw0_iff]
        simp only [Bool.and_eq_true, Bool.not_eq_true', decide_eq_false_iff_not, Bool.and_eq_false_iff, beq_eq_false_iff_ne, bne_eq_false_iff_eq]
        omega
      rw [e3]
      cases ltB (t.mx * t.mx) (x * x + y * y) <;> simp only [SB, Nat.reduceAdd, Bool.false_and, Bool.true_or, Bool.or_true]
      cases (t.kd == 1) <;> cases (x != 0) <;> simp only [SB, Nat.reduceAdd, Bool.false_and, Bool.true_or, Bool.or_true] <;> cases (t.kd == 2) <;> cases (y != 0) <;> simp only [SB, Nat.reduceAdd, Bool.false_and, Bool.true_or, Bool.or_true] <;> cases free t.fb x y <;> simp only [SB, Nat.reduceAdd]
    · have e0 : alw t x y = false := by
        cases hh : alw t x y with
        | false => rfl
        | true => exact absurd (by have := alw_bounds hh; omega) h0
      have f1 : (ltB x (0 - t.mx) || ltB t.mx x || ltB y (0 - t.mx) || ltB t.mx y) = true := by
        simp only [Bool.or_eq_true, decide_eq_true_eq]; omega
      rw [e0]
      simp only [SB, Nat.reduceAdd, f1, Bool.true_or]

theorem rl0 {t : Thr} (hv : okT t = true) (h : t.fb.length ≤ maxLen) (b : Int) : ∀ (j : Nat) (lo : Int), -5000 ≤ lo - j → lo ≤ 0 → alw t 0 (lo - j - 1) = false → (∀ i : Nat, i < j → alw t 0 (lo - i - 1) = true) →
    lp E (denC E) 97 0 [] 0 { vals := [AV.int .i64 lo, AV.int .i64 b], blks := [thB t] } = some (Ex.exit 0, { vals := [AV.int .i64 (lo - j), AV.int .i64 b], blks := [thB t] })
  | 0, lo, h1, h2, h3, h4 => by
    have hA := c_RAllowed h 0 (lo - 1)
    have e : lo - ((0 : Nat) : Int) - 1 = lo - 1 := by omega
    rw [e] at h3
    have e2 : lo - ((0 : Nat) : Int) = lo := by omega
    rw [h3, Bool.and_false] at hA
    unfold thC at hA
    rw [r97_0, w64 (n := lo - 1) (by omega), hA, e2]
    simp only [SB, Nat.reduceAdd, b_box6]
  | j + 1, lo, h1, h2, h3, h4 => by
    have h5 := h4 0 (by omega)
    have e : lo - ((0 : Nat) : Int) - 1 = lo - 1 := by omega
    rw [e] at h5
    have hA := c_RAllowed h 0 (lo - 1)
    rw [h5, hv] at hA
    have e3 : lo - ((j + 1 : Nat) : Int) - 1 = lo - 1 - j - 1 := by omega
    have ih := rl0 hv h b j (lo - 1) (by omega) (by omega) (by rw [← e3]; exact h3) (fun i hi => by
      have := h4 (i + 1) (by omega)
      have e4 : lo - ((i + 1 : Nat) : Int) - 1 = lo - 1 - i - 1 := by omega
      rw [e4] at this; exact this)
    unfold thC at hA
    rw [r97_0, w64 (n := lo - 1) (by omega), hA]
    simp only [SB, Nat.reduceAdd, b_box6]
    rw [ih]
    have e5 : lo - ((j + 1 : Nat) : Int) = lo - 1 - j := by omega
    rw [e5]

theorem rl2 {t : Thr} (hv : okT t = true) (h : t.fb.length ≤ maxLen) (b : Int) : ∀ (j : Nat) (hi : Int), hi + j ≤ 5000 → 0 ≤ hi → alw t 0 (hi + j + 1) = false → (∀ i : Nat, i < j → alw t 0 (hi + i + 1) = true) →
    lp E (denC E) 97 0 [] 2 { vals := [AV.int .i64 b, AV.int .i64 hi], blks := [thB t] } = some (Ex.exit 2, { vals := [AV.int .i64 b, AV.int .i64 (hi + j)], blks := [] })
  | 0, hi, h1, h2, h3, h4 => by
    have hA := c_RAllowed h 0 (hi + 1)
    have e : hi + ((0 : Nat) : Int) + 1 = hi + 1 := by omega
    rw [e] at h3
    have e2 : hi + ((0 : Nat) : Int) = hi := by omega
    rw [h3, Bool.and_false] at hA
    unfold thC at hA
    rw [r97_2, w64 (n := hi + 1) (by omega), hA, e2]
    simp only [SB, Nat.reduceAdd, b_box6]
  | j + 1, hi, h1, h2, h3, h4 => by
    have h5 := h4 0 (by omega)
    have e : hi + ((0 : Nat) : Int) + 1 = hi + 1 := by omega
    rw [e] at h5
    have hA := c_RAllowed h 0 (hi + 1)
    rw [h5, hv] at hA
    have e3 : hi + ((j + 1 : Nat) : Int) + 1 = hi + 1 + j + 1 := by omega
    have ih := rl2 hv h b j (hi + 1) (by omega) (by omega) (by rw [← e3]; exact h3) (fun i hi' => by
      have := h4 (i + 1) (by omega)
      have e4 : hi + ((i + 1 : Nat) : Int) + 1 = hi + 1 + i + 1 := by omega
      rw [e4] at this; exact this)
    unfold thC at hA
    rw [r97_2, w64 (n := hi + 1) (by omega), hA]
    simp only [SB, Nat.reduceAdd, b_box6]
    rw [ih]
    have e5 : hi + ((j + 1 : Nat) : Int) = hi + 1 + j := by omega
    rw [e5]

theorem rg0 {t : Thr} (hv : okT t = true) (h : t.fb.length ≤ maxLen) (y b : Int) : ∀ (j : Nat) (lo : Int), -5000 ≤ lo - j → lo ≤ 0 → alw t (lo - j - 1) y = false → (∀ i : Nat, i < j → alw t (lo - i - 1) y = true) →
    lp E (denC E) 102 0 [] 0 { vals := [AV.int .i64 y, AV.int .i64 lo, AV.int .i64 b], blks := [thB t] } = some (Ex.exit 0, { vals := [AV.int .i64 y, AV.int .i64 (lo - j), AV.int .i64 b], blks := [thB t] })
  | 0, lo, h1, h2, h3, h4 => by
    have hA := c_RAllowed h (lo - 1) y
    have e : lo - ((0 : Nat) : Int) - 1 = lo - 1 := by omega
    rw [e] at h3
    have e2 : lo - ((0 : Nat) : Int) = lo := by omega
    rw [h3, Bool.and_false] at hA
    unfold thC at hA
    rw [r102_0, w64 (n := lo - 1) (by omega), hA, e2]
    simp only [SB, Nat.reduceAdd, b_box6]
  | j + 1, lo, h1, h2, h3, h4 => by
    have h5 := h4 0 (by omega)
    have e : lo - ((0 : Nat) : Int) - 1 = lo - 1 := by omega
    rw [e] at h5
    have hA := c_RAllowed h (lo - 1) y
    rw [h5, hv] at hA
    have e3 : lo - ((j + 1 : Nat) : Int) - 1 = lo - 1 - j - 1 := by omega
    have ih := rg0 hv h y b j (lo - 1) (by omega) (by omega) (by rw [← e3]; exact h3) (fun i hi => by
      have := h4 (i + 1) (by omega)
      have e4 : lo - ((i + 1 : Nat) : Int) - 1 = lo - 1 - i - 1 := by omega
      rw [e4] at this; exact this)
    unfold thC at hA
    rw [r102_0, w64 (n := lo - 1) (by omega), hA]
    simp only [SB, Nat.reduceAdd, b_box6]
    rw [ih]
    have e5 : lo - ((j + 1 : Nat) : Int) = lo - 1 - j := by omega
    rw [e5]

theorem rg2 {t : Thr} (hv : okT t = true) (h : t.fb.length ≤ maxLen) (y b : Int) : ∀ (j : Nat) (hi : Int), hi + j ≤ 5000 → 0 ≤ hi → alw t (hi + j + 1) y = false → (∀ i : Nat, i < j → alw t (hi + i + 1) y = true) →
    lp E (denC E) 102 0 [] 2 { vals := [AV.int .i64 y, AV.int .i64 b, AV.int .i64 hi], blks := [thB t] } = some (Ex.exit 2, { vals := [AV.int .i64 b, AV.int .i64 (hi + j)], blks := [] })
  | 0, hi, h1, h2, h3, h4 => by
    have hA := c_RAllowed h (hi + 1) y
    have e : hi + ((0 : Nat) : Int) + 1 = hi + 1 := by omega
    rw [e] at h3
    have e2 : hi + ((0 : Nat) : Int) = hi := by omega
    rw [h3, Bool.and_false] at hA
    unfold thC at hA
    rw [r102_2, w64 (n := hi + 1) (by omega), hA, e2]
    simp only [SB, Nat.reduceAdd, b_box6]
  | j + 1, hi, h1, h2, h3, h4 => by
    have h5 := h4 0 (by omega)
    have e : hi + ((0 : Nat) : Int) + 1 = hi + 1 := by omega
    rw [e] at h5
    have hA := c_RAllowed h (hi + 1) y
    rw [h5, hv] at hA
    have e3 : hi + ((j + 1 : Nat) : Int) + 1 = hi + 1 + j + 1 := by omega
    have ih := rg2 hv h y b j (hi + 1) (by omega) (by omega) (by rw [← e3]; exact h3) (fun i hi' => by
      have := h4 (i + 1) (by omega)
      have e4 : hi + ((i + 1 : Nat) : Int) + 1 = hi + 1 + i + 1 := by omega
      rw [e4] at this; exact this)
    unfold thC at hA
    rw [r102_2, w64 (n := hi + 1) (by omega), hA]
    simp only [SB, Nat.reduceAdd, b_box6]
    rw [ih]
    have e5 : hi + ((j + 1 : Nat) : Int) = hi + 1 + j := by omega
    rw [e5]

theorem c_RLateral {t : Thr} (h : t.fb.length ≤ maxLen) : ∃ a b : Int, denC E 97 [AV.agg (thC t)] [] = some ([RV.p (PV.int .i64 a), RV.p (PV.int .i64 b)], []) ∧ IsLat t a b := by
  unfold thC IsLat
  cases hv : okT t with
  | false =>
    refine ⟨0, 0, ?_, ⟨rfl, rfl⟩⟩
    have hA := c_RAllowed h 0 (-1)
    have hB := c_RAllowed h 0 1
    rw [hv, Bool.false_and] at hA hB
    unfold thC at hA hB
    have w1 : IntKind.wrap .i64 (0 - 1) = -1 := rfl
    have w2 : IntKind.wrap .i64 (0 + 1) = 1 := rfl
    rw [denC_eq, r97, r97_0, w1, hA]
    simp only [SB, Nat.reduceAdd, b_box6]
    rw [r97_2, w2, hB]
    simp only [SB, Nat.reduceAdd, b_box6]
  | true =>
    have hv' := okT0_iff.1 (okT_iff.1 hv).1
    have hz := alw_zero (t := t) (by omega)
    obtain ⟨i, j, hi, hj, hr, h1, h2, h3, h4⟩ := run_ex (p := fun y => alw t 0 y) hz (fun n hn => by have := alw_bounds hn; omega)
    refine ⟨0 - i, 0 + j, ?_, by simpa using hr⟩
    rw [denC_eq, r97, rl0 hv h 0 i 0 (by omega) (by omega) h1 h2]
    simp only [SB, Nat.reduceAdd, b_box6]
    rw [rl2 hv h _ j 0 (by omega) (by omega) h3 h4]
    simp only [SB, Nat.reduceAdd]

theorem c_RLongitudinal {t : Thr} (h : t.fb.length ≤ maxLen) (y : Int) : ∃ a b : Int, denC E 102 [AV.agg (thC t), AV.int .i64 y] [] = some ([RV.p (PV.int .i64 a), RV.p (PV.int .i64 b)], []) ∧ IsLon t y a b := by
  have hA := c_RAllowed h 0 y
  unfold thC at hA ⊢
  unfold IsLon
  cases hv : okT t with
  | false =>
    refine ⟨0, 0, ?_, by simp⟩
    rw [hv, Bool.false_and] at hA
    rw [denC_eq, r102, hA]
    simp only [SB, Nat.reduceAdd]
  | true =>
    cases hz : alw t 0 y with
    | false =>
      refine ⟨0, 0, ?_, by simp⟩
      rw [hz, Bool.and_false] at hA
      rw [denC_eq, r102, hA]
      simp only [SB, Nat.reduceAdd]
    | true =>
      have hv' := okT0_iff.1 (okT_iff.1 hv).1
      obtain ⟨i, j, hi, hj, hr, h1, h2, h3, h4⟩ := run_ex (p := fun x => alw t x y) hz (fun n hn => by have := alw_bounds hn; omega)
      refine ⟨0 - i, 0 + j, ?_, by simpa using hr⟩
      rw [hv, hz] at hA
      rw [denC_eq, r102, hA]
      simp only [SB, Nat.reduceAdd]
      rw [rg0 hv h y 0 i 0 (by omega) (by omega) h1 h2]
      simp only [SB, Nat.reduceAdd, b_box6]
      rw [rg2 hv h y _ j 0 (by omega) (by omega) h3 h4]
      simp only [SB, Nat.reduceAdd]

theorem c_Bent {L : List Int} {k : Nat} (hL : L.length ≤ 600) (hk : k ≤ 600) {t : Thr} (ht : t.fb.length ≤ 100) :
    ∃ (u : Thr) (k' : Nat), denC E 9 [AV.t (.ptr 0 0), AV.agg (thC t)] [src L k] = some ([RV.agg (thC u)], [src L k']) ∧ u.fb.length ≤ 101 ∧ k' ≤ 600 := by
  have hk1 := at'_le hL hk
  have hk2 := at'_le hL hk1
  have hk3 := at'_le hL hk2
  have hN := c_N hL hk 6 (by decide)
  have bN := vN_bounds (L := L) (k := k) (n := 6) (by decide)
  have r1 := c_Range hL hk1 (lo := -1) (hi := 5) (by omega)
  have r2 := c_Range hL hk1 (lo := -1) (hi := 3) (by omega)
  have r3 := c_Range hL hk1 (lo := -1) (hi := 3600) (by omega)
  have r4 := c_Range hL hk2 (lo := -1) (hi := 3600) (by omega)
  have e1 : denC E 28 [AV.t (.ptr 0 0), AV.sl 1 [[PV.int .i64 (-1)], [PV.int .i64 5001], [PV.int .i64 30]]] _ = _ := c_Pick hL hk1 (l := [-1, 5001, 30]) (by decide)
  have e2 : denC E 28 [AV.t (.ptr 0 0), AV.sl 1 [[PV.int .i64 0], [PV.int .i64 (-5)], [PV.int .i64 101], [PV.int .i64 50]]] _ = _ := c_Pick hL hk1 (l := [0, -5, 101, 50]) (by decide)
  have o1 := c_Odd hL hk1
  unfold thC
  rw [denC_eq, r9, hN]
  simp only [SB, Nat.reduceAdd]
  generalize vN L k 6 = m at *
  by_cases m0 : m = 0
  · refine ⟨{ t with kd := vRange L (at' L k) (-1) 5 }, at' L (at' L k), ?_, by simp only; omega, hk2⟩
    have b0 : (m == 0) = true := by simpa using m0
    rw [b0, ctl_true, r1]
    simp only [SB, Nat.reduceAdd]
  · have b0 : (m == 0) = false := by simpa using m0
    rw [b0, ctl_false]
    by_cases m1 : m = 1
    · refine ⟨{ t with st := vRange L (at' L k) (-1) 3 }, at' L (at' L k), ?_, by simp only; omega, hk2⟩
      have b1 : (m == 1) = true := by simpa using m1
      rw [b1, ctl_true, r2]
      simp only [SB, Nat.reduceAdd]
    · have b1 : (m == 1) = false := by simpa using m1
      rw [b1, ctl_false]
      by_cases m2 : m = 2
      · refine ⟨{ t with mx := vPick L (at' L k) [-1, 5001, 30] }, at' L (at' L k), ?_, by simp only; omega, hk2⟩
        have b2 : (m == 2) = true := by simpa using m2
        rw [b2, ctl_true, e1]
        simp only [SB, Nat.reduceAdd]
      · have b2 : (m == 2) = false := by simpa using m2
        rw [b2, ctl_false]
        by_cases m3 : m = 3
        · refine ⟨{ t with rt := vPick L (at' L k) oddL }, at' L (at' L k), ?_, by simp only; omega, hk2⟩
          have b3 : (m == 3) = true := by simpa using m3
          rw [b3, ctl_true, o1]
          simp only [SB, Nat.reduceAdd]
        · have b3 : (m == 3) = false := by simpa using m3
          rw [b3, ctl_false]
          by_cases m4 : m = 4
          · refine ⟨{ t with ct := vPick L (at' L k) [0, -5, 101, 50] }, at' L (at' L k), ?_, by simp only; omega, hk2⟩
            have b4 : (m == 4) = true := by simpa using m4
            rw [b4, ctl_true, e2]
            simp only [SB, Nat.reduceAdd]
          · have b4 : (m == 4) = false := by simpa using m4
            refine ⟨{ t with fb := t.fb ++ [(vRange L (at' L k) (-1) 3600, vRange L (at' L (at' L k)) (-1) 3600)] }, at' L (at' L (at' L k)), ?_, by simp; omega, hk3⟩
            have f3 : leN ((arcK t.fb).length * 16) 140737488355328 = true := by rw [arcK_length]; simp only [decide_eq_true_eq]; omega
            have f4 : leN (((arcK t.fb).length + 1) * 16) 140737488355328 = true := by rw [arcK_length]; simp only [decide_eq_true_eq]; omega
            rw [b4, ctl_false, f3, ctl_true, r3]
            simp only [SB, Nat.reduceAdd]
            rw [r4]
            simp only [SB, Nat.reduceAdd, f4, arcK_append]
            rfl

end Go.Proofs.YtclplmjlolpfbaaGreat.Vm
