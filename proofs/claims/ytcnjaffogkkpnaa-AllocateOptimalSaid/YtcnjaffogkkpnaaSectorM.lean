/- Thrusters, the forces that they may give, and the runs around 0: plain laws. -/
import Derived.Test.YtcnjaffogkkpnaaAngleD
namespace Go.Proofs.Ytcnjaffogkkpnaa.Vm
set_option linter.unusedVariables false
set_option linter.unusedSimpArgs false

structure Thr where
  kd : Int
  st : Int
  mx : Int
  rt : Int
  ct : Int
  fb : List (Int × Int)

theorem b_box6 (ss : List Sh) (a b c d e f : PV) (l : List (List Sh ⊕ Nat)) (r : List Blk) : okB (.inl ss :: l) (.box [.t (.p a), .t (.p b), .t (.p c), .t (.p d), .t (.p e), .t (.p f)] :: r) = (okCs ss [a, b, c, d, e, f] && okB l r) := rfl

def arcC (a : Int × Int) : List PV := [PV.int .i64 a.1, PV.int .i64 a.2]
def arcK (l : List (Int × Int)) : List (List PV) := l.map arcC
theorem arcK_length (l : List (Int × Int)) : (arcK l).length = l.length := by simp [arcK]
theorem arcK_append (a b : List (Int × Int)) : arcK (a ++ b) = arcK a ++ arcK b := by simp [arcK]
def thC (t : Thr) : List PV := [PV.int .i64 t.kd, PV.int .i64 t.st, PV.int .i64 t.mx, PV.int .i64 t.rt, PV.int .i64 t.ct, PV.sl 2 (arcK t.fb)]

/-- What Valid asks but for the arcs. -/
def okT0 (t : Thr) : Bool := decide (1 ≤ t.kd ∧ t.kd ≤ 3 ∧ 0 ≤ t.st ∧ t.st ≤ 1 ∧ 0 ≤ t.mx ∧ t.mx ≤ 5000 ∧ 0 ≤ t.rt ∧ t.rt ≤ 5000 ∧ 1 ≤ t.ct ∧ t.ct ≤ 100 ∧ t.fb.length ≤ 4)
def okA' (l : List (Int × Int)) : Bool := l.all fun a => Valid a.1 a.2
def okT (t : Thr) : Bool := okT0 t && okA' t.fb
theorem okT0_iff {t : Thr} : okT0 t = true ↔ 1 ≤ t.kd ∧ t.kd ≤ 3 ∧ 0 ≤ t.st ∧ t.st ≤ 1 ∧ 0 ≤ t.mx ∧ t.mx ≤ 5000 ∧ 0 ≤ t.rt ∧ t.rt ≤ 5000 ∧ 1 ≤ t.ct ∧ t.ct ≤ 100 ∧ t.fb.length ≤ 4 := by unfold okT0; simp
theorem okT_iff {t : Thr} : okT t = true ↔ okT0 t = true ∧ okA' t.fb = true := by unfold okT; simp

/-- The arcs leave a force free. -/
def free (l : List (Int × Int)) (x y : Int) : Bool := l.all fun a => !Within a.1 a.2 x y
def alw0 (t : Thr) (x y : Int) : Bool := decide (-t.mx ≤ x ∧ x ≤ t.mx ∧ -t.mx ≤ y ∧ y ≤ t.mx ∧ x * x + y * y ≤ t.mx * t.mx ∧ (t.kd = 1 → x = 0) ∧ (t.kd = 2 → y = 0))
def alw (t : Thr) (x y : Int) : Bool := alw0 t x y && free t.fb x y
theorem alw0_iff {t : Thr} {x y : Int} : alw0 t x y = true ↔ -t.mx ≤ x ∧ x ≤ t.mx ∧ -t.mx ≤ y ∧ y ≤ t.mx ∧ x * x + y * y ≤ t.mx * t.mx ∧ (t.kd = 1 → x = 0) ∧ (t.kd = 2 → y = 0) := by unfold alw0; rw [decide_eq_true_eq]
theorem alw_iff {t : Thr} {x y : Int} : alw t x y = true ↔ alw0 t x y = true ∧ free t.fb x y = true := by unfold alw; simp

theorem Within_zero (a b : Int) : Within a b 0 0 = false := by unfold Within; simp
theorem free_zero (l : List (Int × Int)) : free l 0 0 = true := by
  unfold free
  rw [List.all_eq_true]
  intro a _
  rw [Within_zero]; rfl
theorem alw_zero {t : Thr} (h : 0 ≤ t.mx) : alw t 0 0 = true := by
  have := Int.mul_nonneg h h
  exact alw_iff.2 ⟨alw0_iff.2 ⟨by omega, by omega, by omega, by omega, by omega, fun _ => rfl, fun _ => rfl⟩, free_zero _⟩

/-! ### The run around 0 of a property -/
def IsRun (p : Int → Bool) (lo hi : Int) : Prop := lo ≤ 0 ∧ 0 ≤ hi ∧ (∀ n, lo ≤ n → n ≤ hi → p n = true) ∧ p (lo - 1) = false ∧ p (hi + 1) = false

theorem IsRun_mono {p q : Int → Bool} {a b c d : Int} (hp : ∀ n, q n = true → p n = true) (h : IsRun p a b) (h' : IsRun q c d) : a ≤ c ∧ d ≤ b := by
  obtain ⟨h1, h2, h3, h4, h5⟩ := h
  obtain ⟨g1, g2, g3, g4, g5⟩ := h'
  constructor
  · rcases Int.lt_or_le c a with hl | hl
    · have := hp _ (g3 (a - 1) (by omega) (by omega))
      rw [h4] at this; cases this
    · exact hl
  · rcases Int.lt_or_le b d with hl | hl
    · have := hp _ (g3 (b + 1) (by omega) (by omega))
      rw [h5] at this; cases this
    · exact hl
theorem IsRun_uniq {p : Int → Bool} {a b c d : Int} (h : IsRun p a b) (h' : IsRun p c d) : a = c ∧ b = d := by
  have h1 := IsRun_mono (fun _ h => h) h h'
  have h2 := IsRun_mono (fun _ h => h) h' h
  omega
theorem IsRun_neg {p q : Int → Bool} {a b : Int} (hp : ∀ n, q n = p (-n)) (h : IsRun p a b) : IsRun q (-b) (-a) := by
  obtain ⟨h1, h2, h3, h4, h5⟩ := h
  refine ⟨by omega, by omega, fun n hn hm => ?_, ?_, ?_⟩
  · rw [hp]; exact h3 _ (by omega) (by omega)
  · rw [hp]
    have : -(-b - 1) = b + 1 := by omega
    rw [this]; exact h5
  · rw [hp]
    have : -(-a + 1) = a - 1 := by omega
    rw [this]; exact h4
theorem IsRun_congr {p q : Int → Bool} {a b : Int} (hp : ∀ n, q n = p n) (h : IsRun p a b) : IsRun q a b := by
  have : q = p := funext hp
  rw [this]; exact h

/-- Where the run ends, by steps. -/
theorem run_down (p : Int → Bool) (B : Int) (hb : ∀ n, p n = true → -B ≤ n) : ∀ (k : Nat) (lo : Int), (lo + B).toNat ≤ k → ∃ j : Nat, p (lo - j - 1) = false ∧ ∀ i : Nat, i < j → p (lo - i - 1) = true
  | k, lo, hk => by
    cases hp : p (lo - 1) with
    | false => exact ⟨0, by simpa using hp, fun i hi => absurd hi (by omega)⟩
    | true =>
      have := hb _ hp
      cases k with
      | zero => omega
      | succ k =>
        obtain ⟨j, h1, h2⟩ := run_down p B hb k (lo - 1) (by omega)
        refine ⟨j + 1, ?_, fun i hi => ?_⟩
        · have e : lo - ((j + 1 : Nat) : Int) - 1 = lo - 1 - j - 1 := by omega
          rw [e]; exact h1
        · cases i with
          | zero => simpa using hp
          | succ i =>
            have e : lo - ((i + 1 : Nat) : Int) - 1 = lo - 1 - i - 1 := by omega
            rw [e]; exact h2 i (by omega)

theorem run_up (p : Int → Bool) (B : Int) (hb : ∀ n, p n = true → n ≤ B) : ∀ (k : Nat) (hi : Int), (B - hi).toNat ≤ k → ∃ j : Nat, p (hi + j + 1) = false ∧ ∀ i : Nat, i < j → p (hi + i + 1) = true
  | k, hi, hk => by
    cases hp : p (hi + 1) with
    | false => exact ⟨0, by simpa using hp, fun i hi => absurd hi (by omega)⟩
    | true =>
      have := hb _ hp
      cases k with
      | zero => omega
      | succ k =>
        obtain ⟨j, h1, h2⟩ := run_up p B hb k (hi + 1) (by omega)
        refine ⟨j + 1, ?_, fun i hi' => ?_⟩
        · have e : hi + ((j + 1 : Nat) : Int) + 1 = hi + 1 + j + 1 := by omega
          rw [e]; exact h1
        · cases i with
          | zero => simpa using hp
          | succ i =>
            have e : hi + ((i + 1 : Nat) : Int) + 1 = hi + 1 + i + 1 := by omega
            rw [e]; exact h2 i (by omega)

theorem IsRun_of {p : Int → Bool} {a b : Nat} (h0 : p 0 = true) (h1 : p (0 - a - 1) = false) (h2 : ∀ i : Nat, i < a → p (0 - i - 1) = true) (h3 : p (0 + b + 1) = false) (h4 : ∀ i : Nat, i < b → p (0 + i + 1) = true) : IsRun p (-a) b := by
  refine ⟨by omega, by omega, fun n hn hm => ?_, ?_, ?_⟩
  · rcases Int.lt_trichotomy n 0 with h | h | h
    · have := h2 (-n - 1).toNat (by omega)
      have e : (0 : Int) - (((-n - 1).toNat : Nat) : Int) - 1 = n := by omega
      rw [e] at this; exact this
    · rw [h]; exact h0
    · have := h4 (n - 1).toNat (by omega)
      have e : (0 : Int) + (((n - 1).toNat : Nat) : Int) + 1 = n := by omega
      rw [e] at this; exact this
  · have e : -(a : Int) - 1 = 0 - a - 1 := by omega
    rw [e]; exact h1
  · have e : (b : Int) + 1 = 0 + b + 1 := by omega
    rw [e]; exact h3

theorem alw_bounds {t : Thr} {x y : Int} (h : alw t x y = true) : -t.mx ≤ x ∧ x ≤ t.mx ∧ -t.mx ≤ y ∧ y ≤ t.mx := by
  have := alw0_iff.1 (alw_iff.1 h).1
  omega

end Go.Proofs.Ytcnjaffogkkpnaa.Vm
