/- Plain law of ShareScales: costs that are multiplied, and a fixed share behind. -/
import Derived.Test.YtbacfgghneknjaaShareQ
namespace Go.Proofs.Ytbacfgghneknjaa.Vm
set_option linter.unusedVariables false
set_option linter.unusedSimpArgs false

def scl (k : Int) (s : Shr) : Shr := ⟨s.lo, s.hi, s.c * k⟩

theorem nP_scl {k p : Int} (hk : 1 ≤ k) (s : Shr) : nP p (scl k s) = nP (p / k) s := by
  unfold nP scl
  simp only
  congr 1
  have e1 : 2 * (s.c * k) = k * (2 * s.c) := by rw [← Int.mul_assoc, Int.mul_comm]
  have e2 : (p + s.c * k) / k = p / k + s.c := Int.add_mul_ediv_right p s.c (by omega)
  rw [e1, ← e2, Int.ediv_ediv, if_neg (fun h => absurd h.1 (by omega)), Int.sub_zero]

theorem SP_scl {k p : Int} (hk : 1 ≤ k) : ∀ l : List Shr, SP (l.map (scl k)) p = SP l (p / k)
  | [] => rfl
  | s :: l => by
    have := SP_scl (p := p) hk l
    unfold SP at this ⊢
    simp only [List.map_cons, sumI, this, nP_scl hk]

theorem lows_scl (k : Int) : ∀ l : List Shr, lows (l.map (scl k)) = lows l ∧ highs (l.map (scl k)) = highs l
  | [] => ⟨rfl, rfl⟩
  | s :: l => by
    have := lows_scl k l
    simp [lows, highs, this, scl]

theorem div_step {k r : Int} (hk : 1 ≤ k ∧ k ≤ 4) : (k * r) / k = r ∧ (k * r - 1) / k = r - 1 := by
  have : k = 1 ∨ k = 2 ∨ k = 3 ∨ k = 4 := by omega
  rcases this with rfl | rfl | rfl | rfl <;> omega

theorem fillK_scl {k r : Int} (hk : 1 ≤ k ∧ k ≤ 4) : ∀ (l : List Shr) (m : Int), fillK (k * r) (l.map (scl k)) m = fillK r l m
  | [], _ => rfl
  | s :: l, m => by
    have h := div_step (r := r) hk
    simp only [List.map_cons, fillK, nP_scl hk.1, h.1, h.2, fillK_scl hk l]

theorem fillK_zero (r : Int) : ∀ l : List Shr, fillK r l 0 = l.map (nP (r - 1))
  | [] => rfl
  | s :: l => by
    have h : ¬ ((0 : Int) < 0 ∧ nP r s = nP (r - 1) s + 1) := fun h => absurd h.1 (by omega)
    simp only [fillK, if_neg h, List.map_cons, fillK_zero r l]

theorem step_ex {r : Int} : ∀ {l : List Shr}, (∀ s ∈ l, OkS s) → SP l (r - 1) < SP l r → ∃ s ∈ l, nP (r - 1) s < s.hi ∧ nxt s (nP (r - 1) s) = r
  | [], _, h => by unfold SP at h; simp [sumI] at h
  | s :: l, hs, h => by
    have hk := nP_step (p := r) (hs s (List.mem_cons_self ..))
    rcases hk with ⟨a, b⟩ | ⟨a, b⟩
    · exact ⟨s, List.mem_cons_self .., a⟩
    · have h' : SP l (r - 1) < SP l r := by
        unfold SP at h ⊢
        simp only [List.map_cons, sumI] at h
        omega
      obtain ⟨s', h1, h2⟩ := step_ex (fun x hx => hs x (List.mem_cons_of_mem _ hx)) h'
      exact ⟨s', List.mem_cons_of_mem _ h1, h2⟩

/-- Where the price is. -/
theorem IsP.cases {l : List Shr} {T r : Int} (hl : OkL l) (hT : lows l ≤ T ∧ T ≤ highs l) (h : IsP l T r) : (T = lows l ∧ r = -1000200) ∨ (lows l < T ∧ SP l (r - 1) < T ∧ T ≤ SP l r) := by
  have h1 := h.le hl hT
  have h2 := SP_in (r - 1) hl.2
  rcases h.less with e | e
  · by_cases c : T = lows l
    · exact Or.inl ⟨c, e⟩
    · have : SP l (r - 1) = lows l := SP_bot (by omega) hl.2
      exact Or.inr ⟨by omega, by omega, h1.2⟩
  · exact Or.inr ⟨by omega, e, h1.2⟩

theorem price_small {l : List Shr} {r : Int} (hs : ∀ s ∈ l, OkS s ∧ -9 ≤ s.lo ∧ s.hi ≤ 16 ∧ s.c ≤ 20) (h : SP l (r - 1) < SP l r) : -660 ≤ r ∧ r ≤ 660 := by
  obtain ⟨s, h1, h2, h3⟩ := step_ex (fun s h => (hs s h).1) h
  obtain ⟨a, b, c, d⟩ := hs s h1
  have e := nP_in (p := r - 1) a
  have hc := a.2.2.2.1
  have m := mul_le (a := s.c) (b := 2 * nP (r - 1) s + 1) (m := 20) (n := 33) (by omega) (by omega)
  unfold nxt at h3
  omega

theorem divL_low {l : List Shr} (hl : OkL l) : divL l (lows l) (-1000200) = l.map Shr.lo := by
  rw [divL_eq hl, SP_bot (by omega) hl.2, Int.sub_self, fillK_zero]
  exact List.map_congr_left fun s hs => nP_bot (hl.2 s hs) (by omega)

/-- Costs that are all multiplied change no number. -/
theorem scl_div {l : List Shr} {k T r r' : Int} (hk : 1 ≤ k ∧ k ≤ 4) (hs : ∀ s ∈ l, OkS s ∧ -9 ≤ s.lo ∧ s.hi ≤ 16 ∧ s.c ≤ 20) (hl : OkL l) (hl' : OkL (l.map (scl k))) (hT : lows l ≤ T ∧ T ≤ highs l)
    (h : IsP l T r) (h' : IsP (l.map (scl k)) T r') : divL (l.map (scl k)) T r' = divL l T r := by
  have hc := h.cases hl hT
  have hc' := h'.cases hl' (by rw [(lows_scl k l).1, (lows_scl k l).2]; exact hT)
  rw [(lows_scl k l).1] at hc'
  rcases hc with ⟨a, b⟩ | ⟨a, b, c⟩
  · rcases hc' with ⟨_, b'⟩ | ⟨a', _⟩
    · have e := divL_low hl'
      rw [(lows_scl k l).1] at e
      rw [b, b', a, e, divL_low hl, List.map_map]
      rfl
    · omega
  · have hp := price_small (r := r) hs (by omega)
    have hd := div_step (r := r) hk
    have : k = 1 ∨ k = 2 ∨ k = 3 ∨ k = 4 := by omega
    have hb : -1000200 < k * r ∧ k * r < 1000200 := by rcases this with rfl | rfl | rfl | rfl <;> omega
    have e : r' = k * r := h'.uniq hl' hb (by rw [SP_scl hk.1, hd.2]; exact b) (by rw [SP_scl hk.1, hd.1]; exact c)
    rw [e, divL_eq hl', divL_eq hl, fillK_scl hk, SP_scl hk.1, hd.2]

theorem nP_fix (p c : Int) : nP p ⟨c, c, 3⟩ = c := by
  unfold nP
  have := clamp_in (x := (p + 3) / (2 * 3)) (Int.le_refl c)
  simp only
  omega

theorem SP_app (p c : Int) : ∀ l : List Shr, SP (l ++ [⟨c, c, 3⟩]) p = SP l p + c
  | [] => by unfold SP; simp [sumI, nP_fix]
  | s :: l => by
    have := SP_app p c l
    unfold SP at this ⊢
    simp only [List.cons_append, List.map_cons, sumI, this]; omega

theorem ends_app (c : Int) : ∀ l : List Shr, lows (l ++ [⟨c, c, 3⟩]) = lows l + c ∧ highs (l ++ [⟨c, c, 3⟩]) = highs l + c
  | [] => by simp [lows, highs]
  | s :: l => by
    have := ends_app c l
    simp only [List.cons_append, lows, highs, this]; omega

theorem fillK_app (r c : Int) : ∀ (l : List Shr) (m : Int), fillK r (l ++ [⟨c, c, 3⟩]) m = fillK r l m ++ [c]
  | [], m => by
    simp only [List.nil_append, fillK, nP_fix]
    rw [if_neg (by omega)]
  | s :: l, m => by
    simp only [List.cons_append, fillK, fillK_app r c l]
    split <;> rfl

/-- A variable that is fixed takes just its number. -/
theorem app_div {l : List Shr} {c T r r' : Int} (hs : ∀ s ∈ l, OkS s ∧ -9 ≤ s.lo ∧ s.hi ≤ 16 ∧ s.c ≤ 20) (hl : OkL l) (hl' : OkL (l ++ [⟨c, c, 3⟩])) (hT : lows l ≤ T ∧ T ≤ highs l)
    (h : IsP l T r) (h' : IsP (l ++ [⟨c, c, 3⟩]) (T + c) r') : divL (l ++ [⟨c, c, 3⟩]) (T + c) r' = divL l T r ++ [c] := by
  have he := ends_app c l
  have hc := h.cases hl hT
  have hc' := h'.cases hl' (by rw [he.1, he.2]; omega)
  rw [he.1] at hc'
  have key : r' = r := by
    rcases hc with ⟨a, b⟩ | ⟨a, b, d⟩
    · rcases hc' with ⟨_, b'⟩ | ⟨a', _⟩
      · omega
      · omega
    · have hp := price_small (r := r) hs (by omega)
      exact h'.uniq hl' (by omega) (by rw [SP_app]; omega) (by rw [SP_app]; omega)
  rw [key, divL_eq hl', divL_eq hl, fillK_app, SP_app]
  congr 2
  omega

theorem cost_scl (k : Int) : ∀ (l : List Shr) (x : List Int), costS (l.map (scl k)) x = k * costS l x
  | [], _ => by simp [costS]
  | _ :: _, [] => by simp [costS]
  | s :: l, x :: xs => by
    simp only [List.map_cons, costS, cost_scl k l xs, scl, Int.mul_add]
    congr 1
    rw [Int.mul_comm s.c k, Int.mul_assoc, Int.mul_assoc, Int.mul_assoc]

end Go.Proofs.Ytbacfgghneknjaa.Vm
