/- Mirrored arcs: plain law. -/
import Derived.Test.YtldeniedmbgnaaaSectorS
namespace Go.Proofs.Ytldeniedmbgnaaa.Vm
set_option linter.unusedVariables false
set_option linter.unusedSimpArgs false

def mirA (a : Int × Int) : Int × Int := ((3600 - a.2) % 3600, (3600 - a.1) % 3600)

theorem Sin_neg (a : Int) : Sin ((3600 - a) % 3600) = -Sin a := by
  have e1 : Norm ((3600 - a) % 3600) = (-a) % 3600 := by unfold Norm; omega
  have e2 : Norm a = a % 3600 := rfl
  unfold Sin
  rw [e1, e2]
  have h0 : Sin0 0 = 0 := by decide +kernel
  have hs : ∀ p, Sin0 (1800 - p) = Sin0 p := fun p => by
    unfold Sin0
    have : (1800 - p) * (1800 - (1800 - p)) = p * (1800 - p) := by
      have : 1800 - (1800 - p) = p := by omega
      rw [this, Int.mul_comm]
    rw [this]
  have h18 : Sin0 1800 = 0 := by decide +kernel
  by_cases hz : a % 3600 = 0
  · have : (-a) % 3600 = 0 := by omega
    rw [hz, this, if_neg (by omega), h0]
    rfl
  · by_cases hh : a % 3600 = 1800
    · have : (-a) % 3600 = 1800 := by omega
      rw [hh, this, if_neg (by omega), h18]
      rfl
    · by_cases hl : a % 3600 < 1800
      · rw [if_pos (by omega), if_neg (by omega)]
        have : (-a) % 3600 - 1800 = 1800 - a % 3600 := by omega
        rw [this, hs]
      · rw [if_neg (by omega), if_pos (by omega)]
        have : (-a) % 3600 = 1800 - (a % 3600 - 1800) := by omega
        rw [this, hs, Int.neg_neg]

theorem Cos_neg (a : Int) : Cos ((3600 - a) % 3600) = Cos a := by
  unfold Cos
  have e1 : Norm ((3600 - a) % 3600) = (-a) % 3600 := by unfold Norm; omega
  have e2 : Norm a = a % 3600 := rfl
  rw [e1, e2]
  have hs : ∀ p, Sin0 (1800 - p) = Sin0 p := fun p => by
    unfold Sin0
    have : (1800 - p) * (1800 - (1800 - p)) = p * (1800 - p) := by
      have : 1800 - (1800 - p) = p := by omega
      rw [this, Int.mul_comm]
    rw [this]
  have h18 : Sin0 1800 = Sin0 0 := by decide +kernel
  -- sin (x) = sin (1800 - x)
  have key : ∀ x y : Int, (x + y) % 3600 = 1800 → Sin x = Sin y := by
    intro x y h
    unfold Sin Norm
    by_cases h1 : x % 3600 ≤ 1800
    · have h2 : y % 3600 = 1800 - x % 3600 := by omega
      rw [if_neg (by omega), if_neg (by omega), h2, hs]
    · have h2 : y % 3600 - 1800 = 1800 - (x % 3600 - 1800) := by omega
      rw [if_pos (by omega), if_pos (by omega), h2, hs]
  exact key _ _ (by omega)

theorem Small_neg (x y : Int) : Small x (-y) = Small x y := by
  rw [Bool.eq_iff_iff, Small_iff, Small_iff]; omega

theorem Cross_neg (a x y : Int) : Cross ((3600 - a) % 3600) x (-y) = -Cross a x y := by
  unfold Cross
  rw [Small_neg, Cos_neg, Sin_neg]
  split
  · rw [Int.mul_neg, Int.neg_mul]; omega
  · rfl

theorem Valid_mir {a : Int × Int} (h : Valid a.1 a.2 = true) : Valid (mirA a).1 (mirA a).2 = true := by
  have := Valid_iff.1 h
  refine Valid_iff.2 ?_
  unfold mirA Width Norm at *
  simp only
  omega

/-- The two ends of an arc are not opposite. -/
def okEnds (cf sf ct st : Int) : Bool := ltB 0 (cf * st - sf * ct) || (cf == ct && sf == st)

theorem ends_all : ([0, 450, 800, 1350, 1800, 2600, 3500].all fun (f : Int) => [0, 100, 300, 900, 1799].all fun (w : Int) => okEnds (Cos f) (Sin f) (Cos ((f + w) % 3600)) (Sin ((f + w) % 3600)) && decide (0 < Cos f * Cos f + Sin f * Sin f) && decide (0 < Cos ((f + w) % 3600) * Cos ((f + w) % 3600) + Sin ((f + w) % 3600) * Sin ((f + w) % 3600))) = true := by decide +kernel

theorem posR {K z : Int} (h : 0 < K * z) (hK : 0 < K) : 0 < z := Int.pos_of_mul_pos_left (by rw [Int.mul_comm]; exact h) hK

theorem plane {cf sf ct st x y : Int} (h : okEnds cf sf ct st = true) (hf : 0 < cf * cf + sf * sf) (ht : 0 < ct * ct + st * st) (h1 : 0 ≤ cf * y - sf * x) (h2 : ct * y - st * x ≤ 0) :
    (0 < cf * y - sf * x ∨ 0 < cf * x + sf * y) ↔ (ct * y - st * x < 0 ∨ 0 < ct * x + st * y) := by
  unfold okEnds at h
  simp only [Bool.or_eq_true, Bool.and_eq_true, decide_eq_true_eq, beq_iff_eq] at h
  rcases h with h | ⟨rfl, rfl⟩
  · -- K = cf st - sf ct > 0;  K * y = st A - sf B, K * x = ct A - cf B
    generalize hA : cf * y - sf * x = A at *
    generalize hB : ct * y - st * x = B at *
    generalize hK : cf * st - sf * ct = K at *
    have ex : K * x = ct * A - cf * B := by subst hA hB hK; grind
    have ey : K * y = st * A - sf * B := by subst hA hB hK; grind
    have d1 : K * (cf * x + sf * y) = (cf * ct + sf * st) * A - (cf * cf + sf * sf) * B := by
      have : K * (cf * x + sf * y) = cf * (K * x) + sf * (K * y) := by grind
      rw [this, ex, ey]; grind
    have d2 : K * (ct * x + st * y) = (ct * ct + st * st) * A - (cf * ct + sf * st) * B := by
      have : K * (ct * x + st * y) = ct * (K * x) + st * (K * y) := by grind
      rw [this, ex, ey]; grind
    constructor
    · rintro (h3 | h3)
      · rcases Int.lt_or_le B 0 with h4 | h4
        · exact Or.inl h4
        · have hB0 : B = 0 := by omega
          rw [hB0, Int.mul_zero, Int.sub_zero] at d2
          have h5 : 0 < (ct * ct + st * st) * A := Int.mul_pos ht h3
          rw [← d2] at h5
          exact Or.inr (posR h5 h)
      · rcases Int.lt_or_le B 0 with h4 | h4
        · exact Or.inl h4
        · have hB0 : B = 0 := by omega
          rcases Int.lt_or_le 0 A with h5 | h5
          · rw [hB0, Int.mul_zero, Int.sub_zero] at d2
            have h5 : 0 < (ct * ct + st * st) * A := Int.mul_pos ht h5
            rw [← d2] at h5
            exact Or.inr (posR h5 h)
          · have hA0 : A = 0 := by omega
            rw [hA0, hB0] at d1
            have : 0 < K * (cf * x + sf * y) := Int.mul_pos h h3
            rw [d1] at this
            omega
    · rintro (h3 | h3)
      · rcases Int.lt_or_le 0 A with h4 | h4
        · exact Or.inl h4
        · have hA0 : A = 0 := by omega
          rw [hA0, Int.mul_zero, Int.zero_sub] at d1
          have h5 : 0 < (cf * cf + sf * sf) * (-B) := Int.mul_pos hf (by omega)
          rw [Int.mul_neg, ← d1] at h5
          exact Or.inr (posR h5 h)
      · rcases Int.lt_or_le 0 A with h4 | h4
        · exact Or.inl h4
        · have hA0 : A = 0 := by omega
          rcases Int.lt_or_le B 0 with h5 | h5
          · rw [hA0, Int.mul_zero, Int.zero_sub] at d1
            have h5 : 0 < (cf * cf + sf * sf) * (-B) := Int.mul_pos hf (by omega)
            rw [Int.mul_neg, ← d1] at h5
            exact Or.inr (posR h5 h)
          · have hB0 : B = 0 := by omega
            rw [hA0, hB0] at d2
            have : 0 < K * (ct * x + st * y) := Int.mul_pos h h3
            rw [d2] at this
            omega
  · constructor
    · rintro (h3 | h3)
      · omega
      · exact Or.inr h3
    · rintro (h3 | h3)
      · omega
      · exact Or.inr h3

theorem Within_mir {a : Int × Int} (h : SrcA a) (x y : Int) : Within (mirA a).1 (mirA a).2 x (-y) = Within a.1 a.2 x y := by
  have hv := SrcA_valid h
  have hm := Valid_mir hv
  obtain ⟨f, hf, w, hw, rfl⟩ := h
  have hk := List.all_eq_true.1 (List.all_eq_true.1 ends_all f hf) w hw
  simp only [Bool.and_eq_true, decide_eq_true_eq] at hk
  obtain ⟨⟨k1, k2⟩, k3⟩ := hk
  unfold Within
  rw [hv, hm]
  simp only [mirA] at *
  rw [Small_neg, Cross_neg, Cross_neg, Cos_neg, Sin_neg]
  generalize (f + w) % 3600 = g at *
  have e0 : (x == 0 && -y == 0) = (x == 0 && y == 0) := by
    rw [Bool.eq_iff_iff]; simp only [Bool.and_eq_true, beq_iff_eq]; omega
  rw [e0]
  cases hs : Small x y with
  | false => simp
  | true =>
    congr 1
    have ec : ∀ b, Cross b x y = Cos b * y - Sin b * x := fun b => by unfold Cross; rw [hs, if_pos rfl]
    rw [ec, ec]
    have e3 : Cos g * x + -Sin g * -y = Cos g * x + Sin g * y := by rw [Int.neg_mul_neg]
    rw [e3, Bool.eq_iff_iff]
    simp only [Bool.and_eq_true, Bool.or_eq_true, decide_eq_true_eq]
    constructor
    · rintro ⟨⟨h1, h2⟩, h3⟩
      have := (plane k1 k2 k3 (x := x) (y := y) (by omega) (by omega)).2 (by omega)
      omega
    · rintro ⟨⟨h1, h2⟩, h3⟩
      have := (plane k1 k2 k3 (x := x) (y := y) (by omega) (by omega)).1 (by omega)
      omega

theorem free_mir : ∀ {l : List (Int × Int)}, (∀ a ∈ l, SrcA a) → ∀ x y, free (l.map mirA) x (-y) = free l x y
  | [], _, x, y => rfl
  | a :: l, h, x, y => by
    have ih := free_mir (l := l) (fun b hb => h b (List.mem_cons_of_mem _ hb)) x y
    unfold free at ih ⊢
    simp only [List.map_cons, List.all_cons]
    rw [ih, Within_mir (h a (List.mem_cons_self ..))]

theorem alw_mir {t : Thr} (h : ∀ a ∈ t.fb, SrcA a) (x y : Int) : alw { t with fb := t.fb.map mirA } x (-y) = alw t x y := by
  have e0 : alw0 { t with fb := t.fb.map mirA } x (-y) = alw0 t x y := by
    rw [Bool.eq_iff_iff, alw0_iff, alw0_iff, Int.neg_mul_neg]
    simp only
    omega
  unfold alw
  rw [e0]
  simp only
  rw [free_mir h]

end Go.Proofs.Ytldeniedmbgnaaa.Vm
