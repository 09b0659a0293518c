/- The plain law of the division: no program in sight. -/
import Derived.Test.YtbacfgghneknjaaShareD
namespace Go.Proofs.Ytbacfgghneknjaa.Vm
set_option linter.unusedVariables false
set_option linter.unusedSimpArgs false

theorem div_bounds (a : Int) {d : Int} (h : 0 < d) : d * (a / d) ≤ a ∧ a < d * (a / d) + d := by
  have h1 := Int.mul_ediv_add_emod a d
  have h3 := Int.emod_nonneg a (Int.ne_of_gt h)
  have h4 := Int.emod_lt_of_pos a h
  omega

theorem clamp_mono {a b lo hi : Int} (h : a ≤ b) : clamp a lo hi ≤ clamp b lo hi := by
  rw [clamp_eq, clamp_eq]; split <;> split <;> split <;> (try split) <;> omega

theorem nP_mono {p q : Int} {s : Shr} (hs : OkS s) (h : p ≤ q) : nP p s ≤ nP q s := by
  unfold nP
  exact clamp_mono (Int.ediv_le_ediv (by have := hs.2.2.2.1; omega) (by omega))

theorem SP_mono {p q : Int} (h : p ≤ q) : ∀ {l : List Shr}, (∀ s ∈ l, OkS s) → SP l p ≤ SP l q
  | [], _ => Int.le_refl _
  | s :: l, hs => by
    have h1 := SP_mono h (l := l) fun x hx => hs x (List.mem_cons_of_mem _ hx)
    have h2 := nP_mono (hs s (List.mem_cons_self ..)) h
    unfold SP at h1 ⊢
    simp only [List.map_cons, sumI]
    omega

/-- One step of the price. -/
theorem nP_step {p : Int} {s : Shr} (hs : OkS s) :
    ((nP (p - 1) s < s.hi ∧ nxt s (nP (p - 1) s) = p) ∧ nP p s = nP (p - 1) s + 1) ∨ (¬ (nP (p - 1) s < s.hi ∧ nxt s (nP (p - 1) s) = p) ∧ nP p s = nP (p - 1) s) := by
  obtain ⟨h1, h2, h3, h4, h5⟩ := hs
  unfold nxt nP
  rw [clamp_eq, clamp_eq]
  have b1 := div_bounds (p - 1 + s.c) (d := 2 * s.c) (by omega)
  have b2 := div_bounds (p + s.c) (d := 2 * s.c) (by omega)
  generalize (p - 1 + s.c) / (2 * s.c) = q at *
  generalize (p + s.c) / (2 * s.c) = q' at *
  rw [Int.mul_assoc] at b1 b2
  have hq : q' = q ∨ q' = q + 1 := by
    have e1 : q ≤ q' := by
      rcases Int.lt_or_le q' q with h | h
      · have : s.c * (q' + 1) ≤ s.c * q := Int.mul_le_mul_of_nonneg_left (by omega) (by omega)
        rw [Int.mul_add, Int.mul_one] at this
        omega
      · exact h
    have e2 : q' ≤ q + 1 := by
      rcases Int.lt_or_le (q + 1) q' with h | h
      · have : s.c * (q + 2) ≤ s.c * q' := Int.mul_le_mul_of_nonneg_left (by omega) (by omega)
        rw [Int.mul_add] at this
        omega
      · exact h
    omega
  have key : ∀ x : Int, s.c * (2 * x + 1) = 2 * (s.c * x) + s.c := by
    intro x
    rw [Int.mul_add, Int.mul_one, Int.mul_left_comm]
  have up : ∀ x : Int, q + 1 ≤ x → p < s.c * (2 * x + 1) := by
    intro x hx
    rw [key]
    have : s.c * (q + 1) ≤ s.c * x := Int.mul_le_mul_of_nonneg_left (by omega) (by omega)
    rw [Int.mul_add, Int.mul_one] at this
    omega
  have at_q : s.c * (2 * q + 1) = p ↔ q' = q + 1 := by
    rw [key]
    constructor
    · intro h
      rcases hq with h' | h'
      · subst h'; omega
      · exact h'
    · intro h
      subst h
      rw [Int.mul_add, Int.mul_one] at b2
      omega
  by_cases c1 : s.hi ≤ q
  · have c1' : s.hi ≤ q' := by omega
    simp only [if_pos c1, if_pos c1']
    right
    refine ⟨?_, by trivial⟩
    split <;> omega
  · simp only [if_neg c1]
    by_cases c2 : q ≤ s.lo
    · by_cases c2e : q = s.lo
      · simp only [if_pos c2]
        by_cases c3 : q' = q + 1
        · left
          refine ⟨⟨by omega, by rw [← c2e]; exact at_q.2 c3⟩, ?_⟩
          split <;> split <;> omega
        · right
          have c3' : q' = q := by omega
          refine ⟨fun h => c3 (at_q.1 (by rw [c2e]; exact h.2)), ?_⟩
          split <;> split <;> omega
      · simp only [if_pos c2]
        right
        have := up s.lo (by omega)
        refine ⟨fun h => by omega, ?_⟩
        split <;> split <;> omega
    · simp only [if_neg c2]
      by_cases c3 : q' = q + 1
      · left
        refine ⟨⟨by omega, at_q.2 c3⟩, ?_⟩
        split <;> split <;> omega
      · right
        have c3' : q' = q := by omega
        refine ⟨fun h => c3 (at_q.1 h.2), ?_⟩
        split <;> split <;> omega

theorem nP_top {s : Shr} (hs : OkS s) {p : Int} (hp : 1000200 ≤ p) : nP p s = s.hi := by
  obtain ⟨h1, h2, h3, h4, h5⟩ := hs
  unfold nP
  rw [clamp_eq]
  have b := div_bounds (p + s.c) (d := 2 * s.c) (by omega)
  generalize (p + s.c) / (2 * s.c) = q at *
  rw [Int.mul_assoc] at b
  have : s.hi ≤ q := by
    rcases Int.lt_or_le q s.hi with h | h
    · have e1 : s.c * (q + 1) ≤ s.c * 5000 := Int.mul_le_mul_of_nonneg_left (by omega) (by omega)
      have e2 : s.c * 5000 ≤ 100 * 5000 := Int.mul_le_mul_of_nonneg_right (by omega) (by omega)
      rw [Int.mul_add, Int.mul_one] at e1
      omega
    · exact h
  split <;> omega

theorem nP_bot {s : Shr} (hs : OkS s) {p : Int} (hp : p ≤ -1000201) : nP p s = s.lo := by
  obtain ⟨h1, h2, h3, h4, h5⟩ := hs
  unfold nP
  rw [clamp_eq]
  have b := div_bounds (p + s.c) (d := 2 * s.c) (by omega)
  generalize (p + s.c) / (2 * s.c) = q at *
  rw [Int.mul_assoc] at b
  have : q ≤ s.lo := by
    rcases Int.lt_or_le s.lo q with h | h
    · have e1 : s.c * (-5000) ≤ s.c * q := Int.mul_le_mul_of_nonneg_left (by omega) (by omega)
      have e2 : s.c * 5000 ≤ 100 * 5000 := Int.mul_le_mul_of_nonneg_right (by omega) (by omega)
      omega
    · exact h
  split <;> omega

theorem SP_top {p : Int} (hp : 1000200 ≤ p) : ∀ {l : List Shr}, (∀ s ∈ l, OkS s) → SP l p = highs l
  | [], _ => rfl
  | s :: l, hs => by
    have h1 := SP_top hp (l := l) fun x hx => hs x (List.mem_cons_of_mem _ hx)
    have h2 := nP_top (hs s (List.mem_cons_self ..)) hp
    unfold SP at h1 ⊢
    simp only [List.map_cons, sumI, highs]
    omega
theorem SP_bot {p : Int} (hp : p ≤ -1000201) : ∀ {l : List Shr}, (∀ s ∈ l, OkS s) → SP l p = lows l
  | [], _ => rfl
  | s :: l, hs => by
    have h1 := SP_bot hp (l := l) fun x hx => hs x (List.mem_cons_of_mem _ hx)
    have h2 := nP_bot (hs s (List.mem_cons_self ..)) hp
    unfold SP at h1 ⊢
    simp only [List.map_cons, sumI, lows]
    omega

/-- The numbers at a price r, k of those that stand at it with one more. -/
def fillK (r : Int) : List Shr → Int → List Int
  | [], _ => []
  | s :: l, k => if 0 < k ∧ nP r s = nP (r - 1) s + 1 then nP r s :: fillK r l (k - 1) else nP (r - 1) s :: fillK r l k

theorem fillL_eq (r T : Int) : ∀ {l : List Shr} (n : Int), (∀ s ∈ l, OkS s) → fillL r T l (l.map (nP (r - 1))) n = fillK r l (T - n)
  | [], _, _ => rfl
  | s :: l, n, hs => by
    have h0 := fun m => fillL_eq r T (l := l) m fun x hx => hs x (List.mem_cons_of_mem _ hx)
    have hk := nP_step (p := r) (hs s (List.mem_cons_self ..))
    simp only [List.map_cons, fillL, fillK, Bool.and_eq_true, decide_eq_true_eq, beq_iff_eq]
    rcases hk with ⟨⟨a, b⟩, c⟩ | ⟨a, c⟩
    · by_cases hn : n < T
      · rw [if_pos ⟨⟨hn, a⟩, b⟩, if_pos ⟨by omega, c⟩, h0, c]
        congr 2; omega
      · rw [if_neg (fun h => hn h.1.1), if_neg (fun h => by omega), h0]
    · rw [if_neg (fun h => a ⟨h.1.2, h.2⟩), if_neg (fun h => by omega), h0]

theorem fillK_sum (r : Int) : ∀ {l : List Shr} {k : Int}, (∀ s ∈ l, OkS s) → 0 ≤ k → k ≤ SP l r - SP l (r - 1) → sumI (fillK r l k) = SP l (r - 1) + k
  | [], k, _, h0, h1 => by
    unfold SP at *
    simp only [List.map_nil, sumI, fillK] at *
    omega
  | s :: l, k, hs, h0, h1 => by
    have hl : ∀ x ∈ l, OkS x := fun x hx => hs x (List.mem_cons_of_mem _ hx)
    have hm := SP_mono (show r - 1 ≤ r by omega) hl
    have hk := nP_step (p := r) (hs s (List.mem_cons_self ..))
    have e : ∀ p, SP (s :: l) p = nP p s + SP l p := fun p => rfl
    rw [e, e] at h1
    rw [e]
    simp only [fillK]
    by_cases hc : 0 < k ∧ nP r s = nP (r - 1) s + 1
    · rw [if_pos hc]
      have ih := fillK_sum r (l := l) (k := k - 1) hl (by omega) (by omega)
      simp only [sumI]; omega
    · rw [if_neg hc]
      have ih := fillK_sum r (l := l) (k := k) hl h0 (by omega)
      simp only [sumI]; omega

theorem fillK_length (r : Int) : ∀ (l : List Shr) (k : Int), (fillK r l k).length = l.length
  | [], _ => rfl
  | s :: l, k => by
    simp only [fillK]
    split <;> simp [fillK_length r l]

/-- Both lists in the ranges, the second nowhere less. -/
def Up : List Shr → List Int → List Int → Prop
  | [], [], [] => True
  | s :: l, x :: xs, y :: ys => (s.lo ≤ x ∧ x ≤ s.hi ∧ x ≤ y ∧ y ≤ s.hi) ∧ Up l xs ys
  | _, _, _ => False

theorem fillK_at (r : Int) {s : Shr} (hs : OkS s) (k : Int) : ∃ x m, (∀ l, fillK r (s :: l) k = x :: fillK r l m) ∧ nP (r - 1) s ≤ x ∧ x ≤ nP r s ∧ (m = k ∧ x = nP (r - 1) s ∨ m = k - 1 ∧ 0 < k ∧ x = nP r s) := by
  have hk := nP_step (p := r) hs
  by_cases hc : 0 < k ∧ nP r s = nP (r - 1) s + 1
  · exact ⟨nP r s, k - 1, fun l => by simp only [fillK, if_pos hc], by omega, by omega, Or.inr ⟨rfl, hc.1, rfl⟩⟩
  · exact ⟨nP (r - 1) s, k, fun l => by simp only [fillK, if_neg hc], by omega, by omega, Or.inl ⟨rfl, rfl⟩⟩

theorem up_lt {r r' : Int} (h : r < r') : ∀ {l : List Shr} (k k' : Int), (∀ s ∈ l, OkS s) → Up l (fillK r l k) (fillK r' l k')
  | [], _, _, _ => trivial
  | s :: l, k, k', hs => by
    have hk := hs s (List.mem_cons_self ..)
    obtain ⟨x, m, e1, a1, a2, _⟩ := fillK_at r hk k
    obtain ⟨y, m', e2, b1, b2, _⟩ := fillK_at r' hk k'
    rw [e1, e2]
    have h1 := nP_mono hk (show r ≤ r' - 1 by omega)
    have h2 := nP_in (p := r - 1) hk
    have h3 := nP_in (p := r') hk
    exact ⟨by omega, up_lt h m m' fun x hx => hs x (List.mem_cons_of_mem _ hx)⟩

theorem up_eq {r : Int} : ∀ {l : List Shr} (k k' : Int), k ≤ k' → (∀ s ∈ l, OkS s) → Up l (fillK r l k) (fillK r l k')
  | [], _, _, _, _ => trivial
  | s :: l, k, k', hkk, hs => by
    have hk := hs s (List.mem_cons_self ..)
    have h2 := nP_in (p := r - 1) hk
    have h3 := nP_in (p := r) hk
    have hl : ∀ x ∈ l, OkS x := fun x hx => hs x (List.mem_cons_of_mem _ hx)
    simp only [fillK]
    by_cases hg : nP r s = nP (r - 1) s + 1
    · by_cases c1 : 0 < k
      · rw [if_pos ⟨c1, hg⟩, if_pos ⟨by omega, hg⟩]
        exact ⟨by omega, up_eq _ _ (by omega) hl⟩
      · by_cases c2 : 0 < k'
        · rw [if_neg (fun h => c1 h.1), if_pos ⟨c2, hg⟩]
          exact ⟨by omega, up_eq _ _ (by omega) hl⟩
        · rw [if_neg (fun h => c1 h.1), if_neg (fun h => c2 h.1)]
          exact ⟨by omega, up_eq _ _ hkk hl⟩
    · rw [if_neg (fun h => hg h.2), if_neg (fun h => hg h.2)]
      exact ⟨by omega, up_eq _ _ hkk hl⟩

/-- What is between two prices. -/
theorem IsP.le {l : List Shr} {T r : Int} (hl : OkL l) (hT : lows l ≤ T ∧ T ≤ highs l) (h : IsP l T r) : SP l (r - 1) ≤ T ∧ T ≤ SP l r := by
  constructor
  · rcases h.less with e | e
    · rw [SP_bot (by omega) hl.2]; exact hT.1
    · omega
  · rcases h.enough with e | e
    · rw [SP_top (by omega) hl.2]; exact hT.2
    · exact e

theorem divL_eq {l : List Shr} (hl : OkL l) (T r : Int) : divL l T r = fillK r l (T - SP l (r - 1)) := fillL_eq r T _ hl.2

theorem divL_sum {l : List Shr} {T r : Int} (hl : OkL l) (hT : lows l ≤ T ∧ T ≤ highs l) (h : IsP l T r) : sumI (divL l T r) = T := by
  have := h.le hl hT
  rw [divL_eq hl, fillK_sum r hl.2 (by omega) (by omega)]
  omega

theorem divL_length {l : List Shr} (hl : OkL l) (T r : Int) : (divL l T r).length = l.length := by rw [divL_eq hl, fillK_length]

theorem divL_up {l : List Shr} {T T' r r' : Int} (hl : OkL l) (hT : lows l ≤ T ∧ T ≤ highs l) (hT' : lows l ≤ T' ∧ T' ≤ highs l) (hTT : T ≤ T') (h : IsP l T r) (h' : IsP l T' r') :
    Up l (divL l T r) (divL l T' r') := by
  have a := h.le hl hT
  have b := h'.le hl hT'
  rw [divL_eq hl, divL_eq hl]
  rcases Int.lt_trichotomy r r' with c | c | c
  · exact up_lt c _ _ hl.2
  · subst c; exact up_eq _ _ (by omega) hl.2
  · have d := SP_mono (show r' ≤ r - 1 by omega) hl.2
    have e : SP l (r - 1) < T := by
      rcases h.less with e | e
      · have := h'.lo; omega
      · exact e
    omega

theorem Up.sum : ∀ {l : List Shr} {x y : List Int}, Up l x y → lows l ≤ sumI x ∧ sumI x ≤ highs l
  | [], [], [], _ => ⟨Int.le_refl _, Int.le_refl _⟩
  | s :: l, x :: xs, y :: ys, h => by
    have := Up.sum h.2
    have h1 := h.1
    simp only [lows, highs, sumI]
    omega
  | [], _ :: _, _, h => h.elim
  | [], [], _ :: _, h => h.elim
  | _ :: _, [], _, h => h.elim
  | _ :: _, _ :: _, [], h => h.elim

/-- All that the loop of ShareNearest looks at. -/
def Near (m : Int) : List Shr → List Int → List Int → Prop
  | [], [], [] => True
  | s :: l, x :: xs, y :: ys => (s.lo ≤ x ∧ x ≤ s.hi ∧ x ≤ y ∧ (0 < m → x = s.hi) ∧ (m < 0 → x = s.lo)) ∧ Near m l xs ys
  | _, _, _ => False

theorem Up.near {m : Int} : ∀ {l : List Shr} {x y : List Int}, Up l x y → (0 < m → sumI x = highs l) → (m < 0 → sumI x = lows l) → Near m l x y
  | [], [], [], _, _, _ => trivial
  | s :: l, x :: xs, y :: ys, h, h1, h2 => by
    have h3 := h.2.sum
    have h4 := h.1
    simp only [lows, highs, sumI] at h1 h2
    exact ⟨by omega, h.2.near (fun hm => by have := h1 hm; omega) (fun hm => by have := h2 hm; omega)⟩
  | [], _ :: _, _, h, _, _ => h.elim
  | [], [], _ :: _, h, _, _ => h.elim
  | _ :: _, [], _, h, _, _ => h.elim
  | _ :: _, _ :: _, [], h, _, _ => h.elim

end Go.Proofs.Ytbacfgghneknjaa.Vm
