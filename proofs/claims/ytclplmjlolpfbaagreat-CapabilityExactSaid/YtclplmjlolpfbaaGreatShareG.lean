import Derived.Test.YtclplmjlolpfbaaGreatSectorS
/- Contracts of the functions that divide. -/
namespace Go.Proofs.YtclplmjlolpfbaaGreat.Vm.Div
set_option linter.unusedVariables false
set_option linter.unusedSimpArgs false

theorem mul_le {a b m n : Int} (ha : -m ≤ a ∧ a ≤ m) (hb : -n ≤ b ∧ b ≤ n) : -(m * n) ≤ a * b ∧ a * b ≤ m * n := by
  have hm : 0 ≤ m := by omega
  have hn : 0 ≤ n := by omega
  have h1 : (a * b).natAbs ≤ (m * n).natAbs := by
    rw [Int.natAbs_mul, Int.natAbs_mul]
    exact Nat.mul_le_mul (by omega) (by omega)
  have h2 : 0 ≤ m * n := Int.mul_nonneg hm hn
  omega

structure Shr where
  lo : Int
  hi : Int
  c : Int

def shC (s : Shr) : List PV := [PV.int .i64 s.lo, PV.int .i64 s.hi, PV.int .i64 s.c]
def shK (l : List Shr) : List (List PV) := l.map shC
theorem shK_length (l : List Shr) : (shK l).length = l.length := by simp [shK]
theorem shK_append (a b : List Shr) : shK (a ++ b) = shK a ++ shK b := by simp [shK]

theorem getE_mid {α : Type} (p : List Shr) (s : Shr) (l : List Shr) (K : List PV → Option α) : getE (shK (p ++ s :: l)) (p.length : Int) K = K (shC s) := by
  unfold getE
  rw [shK_length]
  have h1 : leB 0 (p.length : Int) = true := by simp
  have h2 : ltB (p.length : Int) ((p ++ s :: l).length : Int) = true := by simp; omega
  rw [h1, h2]
  simp only [Bool.and_self, ctl_true, Int.toNat_natCast]
  rw [nth_eq]
  simp [shK, List.getD]

theorem nos_ints (L : List Int) : ((intsK .i64 L).all fun e => e.all noslP) = true := by
  unfold intsK
  rw [List.all_map, List.all_eq_true]
  intro x _
  rfl
theorem nos_shs (l : List Shr) : ((shK l).all fun e => e.all noslP) = true := by
  unfold shK
  rw [List.all_map, List.all_eq_true]
  intro x _
  rfl

def OkS (s : Shr) : Prop := -5000 ≤ s.lo ∧ s.lo ≤ s.hi ∧ s.hi ≤ 5000 ∧ 1 ≤ s.c ∧ s.c ≤ 100
def OkL (l : List Shr) : Prop := l.length ≤ 8 ∧ ∀ s ∈ l, OkS s

theorem c_floor {n d : Int} (hd : 0 < d) (hn : -9000000000000000000 ≤ n ∧ n ≤ 9000000000000000000) : denC E 79 [AV.int .i64 n, AV.int .i64 d] [] = some ([RV.p (PV.int .i64 (n / d))], []) := by
  rw [denC_eq, r79]
  have hb : -9000000000000000001 ≤ n / d ∧ n / d ≤ 9000000000000000000 := by
    have h1 := Int.mul_ediv_add_emod n d
    have h3 := Int.emod_nonneg n (Int.ne_of_gt hd)
    have h4 := Int.emod_lt_of_pos n hd
    constructor
    · rcases Int.lt_or_le (n / d) (-9000000000000000000) with h | h
      · have h5 : d * (n / d) ≤ d * (-9000000000000000001) := Int.mul_le_mul_of_nonneg_left (by omega) (by omega)
        omega
      · omega
    · rcases Int.lt_or_le 9000000000000000000 (n / d) with h | h
      · have h5 : d * 9000000000000000001 ≤ d * (n / d) := Int.mul_le_mul_of_nonneg_left (by omega) (by omega)
        omega
      · exact h
  have hf := floor_div (n := n) hd
  have hq : n.tdiv d = n / d ∨ n.tdiv d = n / d + 1 := by
    split at hf <;> omega
  have hne : neB d 0 = true := by simp; omega
  simp only [hne, Bool.and_self, ctl_true]
  rw [ctl_dec, w64 (n := n.tdiv d) (by omega), w64 (by omega), ← hf]
  split <;> rfl

theorem c_Floor {n d : Int} (hd : 1 ≤ d ∧ d ≤ 1000000000) (hn : -1000000000000000000 ≤ n ∧ n ≤ 1000000000000000000) :
    denC E 86 [AV.int .i64 n, AV.int .i64 d] [] = some ([RV.p (PV.int .i64 (n / d)), RV.p (PV.int .i64 0)], []) := by
  have hdiv : denC E 77 [AV.int .i64 n, AV.int .i64 d, AV.fn 79 []] [] = some ([RV.p (PV.int .i64 (n / d)), RV.p (PV.int .i64 0)], []) := by
    rw [denC_eq, r77b, c_floor (by omega) (by omega)]
    have h1 : ltB n (-1000000000000000000) = false := by simp; omega
    have h2 : ltB 1000000000000000000 n = false := by simp; omega
    have h3 : ltB d 1 = false := by simp; omega
    have h4 : ltB 1000000000 d = false := by simp; omega
    simp only [h1, h2, h3, h4, SB, Nat.reduceAdd]
  rw [denC_eq, r86, hdiv]
  simp only [SB, Nat.reduceAdd]

def clamp (x lo hi : Int) : Int := maxI (minI hi x) lo
theorem c_Clamp (x lo hi : Int) : denC E 85 [AV.int .i64 x, AV.int .i64 lo, AV.int .i64 hi] [] = some ([RV.p (PV.int .i64 (clamp x lo hi))], []) := by
  rw [denC_eq, r85]
  rfl
theorem clamp_eq (x lo hi : Int) : clamp x lo hi = if (if hi ≤ x then hi else x) ≤ lo then lo else (if hi ≤ x then hi else x) := by
  unfold clamp maxI minI
  split <;> split <;> (try split) <;> omega
theorem clamp_in {x lo hi : Int} (h : lo ≤ hi) : lo ≤ clamp x lo hi ∧ clamp x lo hi ≤ hi := by
  rw [clamp_eq]; split <;> split <;> omega

def okSB (s : Shr) : Bool := !(ltB s.lo (-5000) || ltB s.hi s.lo || ltB 5000 s.hi || ltB s.c 1 || ltB 100 s.c)
theorem okSB_iff {s : Shr} : okSB s = true ↔ OkS s := by
  unfold okSB OkS
  simp only [Bool.not_eq_true', Bool.or_eq_false_iff, decide_eq_false_iff_not]; omega

theorem valid_loop : ∀ (l p : List Shr), (p ++ l).length ≤ 8 →
    lp E (denC E) 113 0 [] 0 { vals := [AV.sl 3 (shK (p ++ l)), AV.int .i64 ((p ++ l).length : Int), AV.int .i64 (p.length : Int)], blks := [] } =
      ctl (l.all okSB) (some (Ex.exit 0, { vals := [], blks := [] })) (some (Ex.ret, { vals := [AV.int .i64 1], blks := [] }))
  | [], p, h => by
    rw [r113_0, ctl_dec, if_neg (by simp)]
    rfl
  | s :: l, p, h => by
    simp only [List.length_append, List.length_cons] at h
    rw [r113_0, ctl_dec, if_pos (by simp; omega), getE_mid]
    have ih := valid_loop l (p ++ [s]) (by simp; omega)
    simp only [List.append_assoc, List.cons_append, List.nil_append, List.length_append, List.length_cons, List.length_nil] at ih
    simp only [List.length_append, List.length_cons, shC, SB, Nat.reduceAdd]
    rw [w64 (n := (p.length : Int) + 1) (by omega)]
    have e1 : ((p.length : Int) + 1) = ((p.length + (0 + 1) : Nat) : Int) := by omega
    rw [e1, ih]
    have e2 : (ltB s.lo (-5000) || ltB s.hi s.lo || ltB 5000 s.hi || ltB s.c 1 || ltB 100 s.c) = !okSB s := by unfold okSB; simp
    rw [e2]
    cases okSB s <;> rfl

def validN (l : List Shr) : Int := if 8 < l.length then 2 else if l.all okSB = true then 0 else 1
theorem c_Valid (l : List Shr) : denC E 113 [AV.sl 3 (shK l)] [] = some ([RV.p (PV.int .i64 (validN l))], []) := by
  rw [denC_eq, r113, shK_length, ctl_dec]
  unfold validN
  by_cases h : 8 < l.length
  · rw [if_pos (by omega), if_pos h]
  · rw [if_neg (by omega), if_neg h]
    have hl := valid_loop l [] (by simp; omega)
    simp only [List.nil_append, List.length_nil] at hl
    have e0 : (((0 : Nat)) : Int) = 0 := rfl
    rw [e0] at hl
    rw [hl]
    by_cases h2 : l.all okSB = true
    · rw [if_pos h2, h2]
      simp only [SB, Nat.reduceAdd]
    · have h3 : l.all okSB = false := by simpa using h2
      rw [if_neg h2, h3]
      simp only [SB, Nat.reduceAdd]

theorem validN_ok {l : List Shr} : validN l = 0 ↔ OkL l := by
  unfold validN OkL
  by_cases h : 8 < l.length
  · rw [if_pos h]; omega
  · rw [if_neg h]
    by_cases h2 : l.all okSB = true
    · rw [if_pos h2]
      simp only [List.all_eq_true] at h2
      exact ⟨fun _ => ⟨by omega, fun s hs => okSB_iff.1 (h2 s hs)⟩, fun _ => rfl⟩
    · rw [if_neg h2]
      simp only [List.all_eq_true] at h2
      refine ⟨fun h => absurd h (by omega), fun ⟨_, h3⟩ => absurd (fun s hs => okSB_iff.2 (h3 s hs)) h2⟩

def lows : List Shr → Int
  | [] => 0
  | s :: l => s.lo + lows l
def highs : List Shr → Int
  | [] => 0
  | s :: l => s.hi + highs l

theorem ends_in : ∀ {l : List Shr}, (∀ s ∈ l, OkS s) → -5000 * (l.length : Int) ≤ lows l ∧ lows l ≤ highs l ∧ highs l ≤ 5000 * (l.length : Int)
  | [], _ => by simp [lows, highs]
  | s :: l, h => by
    have h1 := ends_in (l := l) fun x hx => h x (List.mem_cons_of_mem _ hx)
    obtain ⟨a, b, c, _⟩ := h s (List.mem_cons_self ..)
    simp only [lows, highs, List.length_cons]
    omega

theorem reach_loop : ∀ (l p : List Shr) (a b : Int), (p ++ l).length ≤ 8 → (∀ s ∈ l, OkS s) → -5000 * (p.length : Int) ≤ a ∧ a ≤ 5000 * (p.length : Int) → -5000 * (p.length : Int) ≤ b ∧ b ≤ 5000 * (p.length : Int) →
    lp E (denC E) 84 0 [] 0 { vals := [AV.int .i64 a, AV.int .i64 b, AV.sl 3 (shK (p ++ l)), AV.int .i64 ((p ++ l).length : Int), AV.int .i64 (p.length : Int)], blks := [] } =
      some (Ex.exit 0, { vals := [AV.int .i64 (a + lows l), AV.int .i64 (b + highs l)], blks := [] })
  | [], p, a, b, h, _, _, _ => by
    rw [r84_0, ctl_dec, if_neg (by simp)]
    simp [lows, highs]
  | s :: l, p, a, b, h, hs, ha, hb => by
    obtain ⟨h1, h2, h3, _⟩ := hs s (List.mem_cons_self ..)
    simp only [List.length_append, List.length_cons] at h
    have ih := reach_loop l (p ++ [s]) (a + s.lo) (b + s.hi) (by simp; omega) (fun x hx => hs x (List.mem_cons_of_mem _ hx)) (by simp; omega) (by simp; omega)
    rw [r84_0, ctl_dec, if_pos (by simp; omega), getE_mid]
    simp only [List.append_assoc, List.cons_append, List.nil_append, List.length_append, List.length_cons, List.length_nil] at ih
    simp only [List.length_append, List.length_cons, shC, SB, Nat.reduceAdd]
    rw [w64 (n := (p.length : Int) + 1) (by omega), w64 (n := a + s.lo) (by omega), w64 (n := b + s.hi) (by omega)]
    have e1 : ((p.length : Int) + 1) = ((p.length + (0 + 1) : Nat) : Int) := by omega
    rw [e1, ih]
    simp only [lows, highs, Int.add_assoc]

theorem c_Reach {l : List Shr} (h : OkL l) : denC E 84 [AV.sl 3 (shK l)] [] = some ([RV.p (PV.int .i64 (lows l)), RV.p (PV.int .i64 (highs l)), RV.p (PV.int .i64 0)], []) := by
  rw [denC_eq, r84, c_Valid, validN_ok.2 h, shK_length]
  have hl := reach_loop l [] 0 0 (by simpa using h.1) h.2 (by simp) (by simp)
  simp only [List.nil_append, List.length_nil, Int.zero_add] at hl
  have e0 : (((0 : Nat)) : Int) = 0 := rfl
  rw [e0] at hl
  have k : ((0 : Int) != 0) = false := rfl
  simp only [SB, Nat.reduceAdd, k]
  rw [hl]
  simp only [SB, Nat.reduceAdd]

end Go.Proofs.YtclplmjlolpfbaaGreat.Vm.Div

/- What Divide comes to. -/
namespace Go.Proofs.YtclplmjlolpfbaaGreat.Vm.Div
set_option linter.unusedVariables false
set_option linter.unusedSimpArgs false

def sumI : List Int → Int
  | [] => 0
  | x :: l => x + sumI l
def nP (p : Int) (s : Shr) : Int := clamp ((p + s.c) / (2 * s.c)) s.lo s.hi
def nxt (s : Shr) (x : Int) : Int := s.c * (2 * x + 1)

theorem nP_in {p : Int} {s : Shr} (h : OkS s) : s.lo ≤ nP p s ∧ nP p s ≤ s.hi := clamp_in h.2.1

theorem c_next {s : Shr} {x : Int} (h : OkS s) (hx : -5001 ≤ x ∧ x ≤ 5001) : denC E 88 [AV.agg [PV.int .i64 s.lo, PV.int .i64 s.hi, PV.int .i64 s.c], AV.int .i64 x] [] = some ([RV.p (PV.int .i64 (nxt s x))], []) := by
  obtain ⟨_, _, _, h4, h5⟩ := h
  rw [denC_eq, r88, w64 (n := 2 * x) (by omega), w64 (n := 2 * x + 1) (by omega)]
  have h1 := mul_le (a := s.c) (b := 2 * x + 1) (m := 100) (n := 20000) (by omega) (by omega)
  rw [w64 (by omega)]
  rfl

theorem priced_loop {p : Int} (hp : -2000000 ≤ p ∧ p ≤ 2000000) : ∀ (l q : List Shr) (n : Int) (acc : List (List PV)), (q ++ l).length ≤ 8 → (∀ s ∈ l, OkS s) →
    -5000 * (q.length : Int) ≤ n ∧ n ≤ 5000 * (q.length : Int) → acc.length = q.length →
    lp E (denC E) 87 0 [] 0 { vals := [AV.int .i64 p, AV.int .i64 n, AV.sl 3 (shK (q ++ l)), AV.int .i64 ((q ++ l).length : Int), AV.int .i64 (q.length : Int)], blks := [Blk.arr 1 acc] } =
      some (Ex.exit 0, { vals := [AV.int .i64 (n + sumI (l.map (nP p)))], blks := [Blk.arr 1 (acc ++ intsK .i64 (l.map (nP p)))] })
  | [], q, n, acc, h, _, _, _ => by
    rw [r87_0, ctl_dec, if_neg (by simp)]
    simp [sumI, intsK]
  | s :: l, q, n, acc, h, hs, hn, ha => by
    have hk := hs s (List.mem_cons_self ..)
    have hk2 := nP_in (p := p) hk
    obtain ⟨h1, h2, h3, h4, h5⟩ := hk
    simp only [List.length_append, List.length_cons] at h
    have ih := priced_loop hp l (q ++ [s]) (n + nP p s) (acc ++ [[PV.int .i64 (nP p s)]]) (by simp; omega) (fun x hx => hs x (List.mem_cons_of_mem _ hx)) (by simp; omega) (by simp [ha])
    rw [r87_0, ctl_dec, if_pos (by simp; omega), getE_mid]
    simp only [List.append_assoc, List.cons_append, List.nil_append, List.length_append, List.length_cons, List.length_nil] at ih
    simp only [List.length_append, List.length_cons, shC, SB, Nat.reduceAdd]
    rw [w64 (n := p + s.c) (by omega), w64 (n := 2 * s.c) (by omega), w64 (n := (q.length : Int) + 1) (by omega), c_Floor (by omega) (by omega)]
    simp only [SB, Nat.reduceAdd, c_Clamp]
    have hroom : (leN ((acc.length + 1) * 8) 140737488355328) = true := by simp; omega
    have e0 : clamp ((p + s.c) / (2 * s.c)) s.lo s.hi = nP p s := rfl
    rw [hroom, ctl_true, e0, w64 (n := n + nP p s) (by omega)]
    have e1 : ((q.length : Int) + 1) = ((q.length + (0 + 1) : Nat) : Int) := by omega
    rw [e1, ih]
    simp [sumI, intsK, Int.add_assoc]

def SP (l : List Shr) (p : Int) : Int := sumI (l.map (nP p))

theorem SP_in (p : Int) : ∀ {l : List Shr}, (∀ s ∈ l, OkS s) → lows l ≤ SP l p ∧ SP l p ≤ highs l
  | [], _ => by simp [SP, sumI, lows, highs]
  | s :: l, h => by
    have h1 := SP_in p (l := l) fun x hx => h x (List.mem_cons_of_mem _ hx)
    have h2 := nP_in (p := p) (h s (List.mem_cons_self ..))
    unfold SP at h1 ⊢
    simp only [List.map_cons, sumI, lows, highs]
    omega

theorem c_priced {l : List Shr} {p : Int} (h : OkL l) (hp : -2000000 ≤ p ∧ p ≤ 2000000) :
    denC E 87 [AV.sl 3 (shK l), AV.int .i64 p] [] = some ([RV.own 1 (intsK .i64 (l.map (nP p))), RV.p (PV.int .i64 (SP l p))], []) := by
  rw [denC_eq, r87, shK_length]
  have hl := priced_loop hp l [] 0 [] (by simpa using h.1) h.2 (by simp) rfl
  simp only [List.nil_append, List.length_nil, Int.zero_add] at hl
  have e0 : (((0 : Nat)) : Int) = 0 := rfl
  rw [e0] at hl
  rw [hl]
  simp only [SB, Nat.reduceAdd]
  rfl

theorem search_loop {l : List Shr} (h : OkL l) (total T : Int) : ∀ (m : Nat) (a b : Int), a ≤ b → b - a ≤ m → -1000200 ≤ a → b ≤ 1000200 →
    ∃ r, a ≤ r ∧ r ≤ b ∧ (r = a ∨ SP l (r - 1) < T) ∧ (r = b ∨ T ≤ SP l r) ∧
      lp E (denC E) 59 0 [] 0 { vals := [AV.sl 3 (shK l), AV.int .i64 total, AV.int .i64 T, AV.int .i64 a, AV.int .i64 b], blks := [] } =
        some (Ex.exit 0, { vals := [AV.sl 3 (shK l), AV.int .i64 total, AV.int .i64 T, AV.int .i64 r], blks := [] })
  | m, a, b, hab, hm, ha, hb => by
    by_cases hlt : a < b
    · cases m with
      | zero => omega
      | succ m =>
        have hmid : a ≤ (a + b) / 2 ∧ (a + b) / 2 < b := by omega
        rw [r59_0, ctl_dec, if_pos hlt, w64 (n := a + b) (by omega), c_Floor (by omega) (by omega)]
        simp only [SB, Nat.reduceAdd]
        rw [c_priced h (by omega)]
        simp only [SB, Nat.reduceAdd]
        rw [ctl_dec, w64 (n := (a + b) / 2 + 1) (by omega)]
        by_cases hs : T ≤ SP l ((a + b) / 2)
        · rw [if_pos hs]
          obtain ⟨r, h1, h2, h3, h4, h5⟩ := search_loop h total T m a ((a + b) / 2) (by omega) (by omega) ha (by omega)
          refine ⟨r, h1, by omega, h3, ?_, h5⟩
          rcases h4 with rfl | h4
          · exact Or.inr hs
          · exact Or.inr h4
        · rw [if_neg hs]
          obtain ⟨r, h1, h2, h3, h4, h5⟩ := search_loop h total T m ((a + b) / 2 + 1) b (by omega) (by omega) (by omega) hb
          refine ⟨r, by omega, h2, ?_, h4, h5⟩
          rcases h3 with rfl | h3
          · right
            have : (a + b) / 2 + 1 - 1 = (a + b) / 2 := by omega
            rw [this]; omega
          · exact Or.inr h3
    · refine ⟨a, by omega, by omega, Or.inl rfl, Or.inl (by omega), ?_⟩
      rw [r59_0, ctl_dec, if_neg hlt]

def fillL (p T : Int) : List Shr → List Int → Int → List Int
  | s :: l, x :: xs, n => if (ltB n T && ltB x s.hi && (nxt s x == p)) = true then (x + 1) :: fillL p T l xs (n + 1) else x :: fillL p T l xs n
  | _, _, _ => []

theorem setEs_ints {k : IntKind} {L : List Int} {i : Nat} {v : Int} (hi : i < L.length) : setEs (intsK k L) i 0 [PV.int k v] = intsK k (L.set i v) := by
  unfold setEs intsK
  rw [upd_eq, List.map_set]
  congr 1
  rw [nth_eq]
  simp [List.getD, hi, lay, lay.go]

theorem nth_mid (d : List Int) (x : Int) (xs : List Int) : nth [] (intsK .i64 (d ++ x :: xs)) d.length = [PV.int .i64 x] := by
  rw [nth_eq]
  simp [intsK, List.getD]

theorem fill_loop {p T total : Int} : ∀ (l q : List Shr) (xs d : List Int) (n : Int), (q ++ l).length ≤ 8 → (∀ s ∈ l, OkS s) → d.length = q.length → xs.length = l.length → (∀ x ∈ xs, -5000 ≤ x ∧ x ≤ 5000) →
    -100000 ≤ n ∧ n ≤ 100000 + (q.length : Int) →
    lp E (denC E) 59 0 [] 2 { vals := [AV.int .i64 total, AV.int .i64 T, AV.int .i64 p, AV.int .i64 n, AV.sl 3 (shK (q ++ l)), AV.int .i64 ((q ++ l).length : Int), AV.int .i64 (q.length : Int)], blks := [Blk.arr 1 (intsK .i64 (d ++ xs))] } =
      some (Ex.exit 2, { vals := [AV.int .i64 total, AV.int .i64 T], blks := [Blk.arr 1 (intsK .i64 (d ++ fillL p T l xs n))] })
  | [], q, [], d, n, h, _, _, _, _, _ => by
    rw [r59_2, ctl_dec, if_neg (by simp)]
    simp [fillL]
  | [], _, _ :: _, _, _, _, _, _, h, _, _ => by simp at h
  | _ :: _, _, [], _, _, _, _, _, h, _, _ => by simp at h
  | s :: l, q, x :: xs, d, n, h, hs, hd, hx, hb, hn => by
    have hk := hs s (List.mem_cons_self ..)
    have hxb := hb x (List.mem_cons_self ..)
    simp only [List.length_append, List.length_cons] at h
    rw [r59_2, ctl_dec, if_pos (by simp; omega), getE_mid]
    have i0 : leB 0 (q.length : Int) = true := by simp
    have i1 : ltB (q.length : Int) ((intsK .i64 (d ++ x :: xs)).length : Int) = true := by rw [intsK_length]; simp; omega
    have i2 : nth [] (intsK .i64 (d ++ x :: xs)) ((q.length : Int)).toNat = [PV.int .i64 x] := by
      rw [Int.toNat_natCast, ← hd]; exact nth_mid d x xs
    have i3 : okCs [Sh.int .i64] (List.take 1 (List.drop 0 [PV.int .i64 x])) = true := rfl
    simp only [shC, SB, Nat.reduceAdd, i0, i1, i2, i3]
    rw [c_next hk (by omega)]
    simp only [SB, Nat.reduceAdd]
    have e1 : ((q.length : Int) + 1) = ((q.length + (0 + 1) : Nat) : Int) := by omega
    have iha := fun m => fill_loop (p := p) (T := T) (total := total) l (q ++ [s]) xs (d ++ [m]) 
    rw [w64 (n := n + 1) (by omega), w64 (n := x + 1) (by omega), w64 (n := (q.length : Int) + 1) (by omega), Int.toNat_natCast, setEs_ints (by simp; omega)]
    have eset : (d ++ x :: xs).set q.length (x + 1) = d ++ (x + 1) :: xs := by
      rw [← hd, List.set_append_right _ _ (Nat.le_refl _)]; simp
    rw [eset, e1]
    cases hc : (ltB n T && ltB x s.hi && (nxt s x == p)) with
    | false =>
      have ih := iha x n (by simp; omega) (fun y hy => hs y (List.mem_cons_of_mem _ hy)) (by simp [hd]) (by simpa using hx) (fun y hy => hb y (List.mem_cons_of_mem _ hy)) (by simp; omega)
      simp only [List.append_assoc, List.cons_append, List.nil_append, List.length_append, List.length_cons, List.length_nil] at ih
      simp only [List.length_append, List.length_cons, ctl_false, fillL, hc, Bool.false_eq_true, if_false]
      rw [ih]
    | true =>
      have ih := iha (x + 1) (n + 1) (by simp; omega) (fun y hy => hs y (List.mem_cons_of_mem _ hy)) (by simp [hd]) (by simpa using hx) (fun y hy => hb y (List.mem_cons_of_mem _ hy)) (by simp; omega)
      simp only [List.append_assoc, List.cons_append, List.nil_append, List.length_append, List.length_cons, List.length_nil] at ih
      simp only [List.length_append, List.length_cons, ctl_true, fillL, hc, if_true]
      rw [ih]

def divL (l : List Shr) (T r : Int) : List Int := fillL r T l (l.map (nP (r - 1))) (SP l (r - 1))

structure IsP (l : List Shr) (T r : Int) : Prop where
  lo : -1000200 ≤ r
  hi : r ≤ 1000200
  less : r = -1000200 ∨ SP l (r - 1) < T
  enough : r = 1000200 ∨ T ≤ SP l r

theorem c_Divide {l : List Shr} (h : OkL l) {total : Int} (ht : -500000 ≤ total ∧ total ≤ 500000) :
    ∃ r, IsP l (clamp total (lows l) (highs l)) r ∧
      denC E 59 [AV.sl 3 (shK l), AV.int .i64 total] [] =
        some ([RV.own 1 (intsK .i64 (divL l (clamp total (lows l) (highs l)) r)), RV.p (PV.int .i64 (total - clamp total (lows l) (highs l))), RV.p (PV.int .i64 0)], []) := by
  have he := ends_in h.2
  have h8 := h.1
  have hT := clamp_in (x := total) he.2.1
  generalize hT0 : clamp total (lows l) (highs l) = T at hT
  obtain ⟨r, h1, h2, h3, h4, h5⟩ := search_loop h total T 2000400 (-1000200) 1000200 (by omega) (by omega) (by omega) (by omega)
  refine ⟨r, ⟨h1, h2, h3, h4⟩, ?_⟩
  rw [denC_eq, r59, c_Reach h]
  have k0 : ((0 : Int) != 0) = false := rfl
  have k1 : ltB total (-500000) = false := by simp; omega
  have k2 : ltB 500000 total = false := by simp; omega
  simp only [SB, Nat.reduceAdd, k0, k1, k2, c_Clamp, hT0]
  rw [h5]
  simp only [SB, Nat.reduceAdd]
  rw [w64 (n := r - 1) (by omega), c_priced h (by omega)]
  simp only [SB, Nat.reduceAdd]
  have hS := SP_in (r - 1) h.2
  have hf := fill_loop (p := r) (T := T) (total := total) l [] (l.map (nP (r - 1))) [] (SP l (r - 1)) (by simpa using h.1) h.2 rfl (by simp)
    (fun x hx => by
      obtain ⟨s, hs, rfl⟩ := List.mem_map.1 hx
      have h6 := nP_in (p := r - 1) (h.2 s hs)
      have h7 := h.2 s hs
      unfold OkS at h7; omega) (by simp; omega)
  simp only [List.nil_append, List.length_nil] at hf
  have e0 : (((0 : Nat)) : Int) = 0 := rfl
  rw [e0] at hf
  rw [shK_length, hf]
  simp only [SB, Nat.reduceAdd]
  rw [w64 (by omega)]
  rfl

end Go.Proofs.YtclplmjlolpfbaaGreat.Vm.Div

/- The plain law of the division: no program in sight. -/
namespace Go.Proofs.YtclplmjlolpfbaaGreat.Vm.Div
set_option linter.unusedVariables false
set_option linter.unusedSimpArgs false

theorem div_bounds (a : Int) {d : Int} (h : 0 < d) : d * (a / d) ≤ a ∧ a < d * (a / d) + d := by
  have h1 := Int.mul_ediv_add_emod a d
  have h3 := Int.emod_nonneg a (Int.ne_of_gt h)
  have h4 := Int.emod_lt_of_pos a h
  omega

theorem clamp_mono {a b lo hi : Int} (h : a ≤ b) : clamp a lo hi ≤ clamp b lo hi := by
  rw [clamp_eq, clamp_eq]; split <;> split <;> split <;> (try split) <;> omega

theorem nP_mono {p q : Int} {s : Shr} (hs : OkS s) (h : p ≤ q) : nP p s ≤ nP q s := by
  unfold nP
  exact clamp_mono (Int.ediv_le_ediv (by have := hs.2.2.2.1; omega) (by omega))

theorem SP_mono {p q : Int} (h : p ≤ q) : ∀ {l : List Shr}, (∀ s ∈ l, OkS s) → SP l p ≤ SP l q
  | [], _ => Int.le_refl _
  | s :: l, hs => by
    have h1 := SP_mono h (l := l) fun x hx => hs x (List.mem_cons_of_mem _ hx)
    have h2 := nP_mono (hs s (List.mem_cons_self ..)) h
    unfold SP at h1 ⊢
    simp only [List.map_cons, sumI]
    omega

theorem nP_step {p : Int} {s : Shr} (hs : OkS s) :
    ((nP (p - 1) s < s.hi ∧ nxt s (nP (p - 1) s) = p) ∧ nP p s = nP (p - 1) s + 1) ∨ (¬ (nP (p - 1) s < s.hi ∧ nxt s (nP (p - 1) s) = p) ∧ nP p s = nP (p - 1) s) := by
  obtain ⟨h1, h2, h3, h4, h5⟩ := hs
  unfold nxt nP
  rw [clamp_eq, clamp_eq]
  have b1 := div_bounds (p - 1 + s.c) (d := 2 * s.c) (by omega)
  have b2 := div_bounds (p + s.c) (d := 2 * s.c) (by omega)
  generalize (p - 1 + s.c) / (2 * s.c) = q at *
  generalize (p + s.c) / (2 * s.c) = q' at *
  rw [Int.mul_assoc] at b1 b2
  have hq : q' = q ∨ q' = q + 1 := by
    have e1 : q ≤ q' := by
      rcases Int.lt_or_le q' q with h | h
      · have : s.c * (q' + 1) ≤ s.c * q := Int.mul_le_mul_of_nonneg_left (by omega) (by omega)
        rw [Int.mul_add, Int.mul_one] at this
        omega
      · exact h
    have e2 : q' ≤ q + 1 := by
      rcases Int.lt_or_le (q + 1) q' with h | h
      · have : s.c * (q + 2) ≤ s.c * q' := Int.mul_le_mul_of_nonneg_left (by omega) (by omega)
        rw [Int.mul_add] at this
        omega
      · exact h
    omega
  have key : ∀ x : Int, s.c * (2 * x + 1) = 2 * (s.c * x) + s.c := by
    intro x
    rw [Int.mul_add, Int.mul_one, Int.mul_left_comm]
  have up : ∀ x : Int, q + 1 ≤ x → p < s.c * (2 * x + 1) := by
    intro x hx
    rw [key]
    have : s.c * (q + 1) ≤ s.c * x := Int.mul_le_mul_of_nonneg_left (by omega) (by omega)
    rw [Int.mul_add, Int.mul_one] at this
    omega
  have at_q : s.c * (2 * q + 1) = p ↔ q' = q + 1 := by
    rw [key]
    constructor
    · intro h
      rcases hq with h' | h'
      · subst h'; omega
      · exact h'
    · intro h
      subst h
      rw [Int.mul_add, Int.mul_one] at b2
      omega
  by_cases c1 : s.hi ≤ q
  · have c1' : s.hi ≤ q' := by omega
    simp only [if_pos c1, if_pos c1']
    right
    refine ⟨?_, by trivial⟩
    split <;> omega
  · simp only [if_neg c1]
    by_cases c2 : q ≤ s.lo
    · by_cases c2e : q = s.lo
      · simp only [if_pos c2]
        by_cases c3 : q' = q + 1
        · left
          refine ⟨⟨by omega, by rw [← c2e]; exact at_q.2 c3⟩, ?_⟩
          split <;> split <;> omega
        · right
          have c3' : q' = q := by omega
          refine ⟨fun h => c3 (at_q.1 (by rw [c2e]; exact h.2)), ?_⟩
          split <;> split <;> omega
      · simp only [if_pos c2]
        right
        have := up s.lo (by omega)
        refine ⟨fun h => by omega, ?_⟩
        split <;> split <;> omega
    · simp only [if_neg c2]
      by_cases c3 : q' = q + 1
      · left
        refine ⟨⟨by omega, at_q.2 c3⟩, ?_⟩
        split <;> split <;> omega
      · right
        have c3' : q' = q := by omega
        refine ⟨fun h => c3 (at_q.1 h.2), ?_⟩
        split <;> split <;> omega

theorem nP_top {s : Shr} (hs : OkS s) {p : Int} (hp : 1000200 ≤ p) : nP p s = s.hi := by
  obtain ⟨h1, h2, h3, h4, h5⟩ := hs
  unfold nP
  rw [clamp_eq]
  have b := div_bounds (p + s.c) (d := 2 * s.c) (by omega)
  generalize (p + s.c) / (2 * s.c) = q at *
  rw [Int.mul_assoc] at b
  have : s.hi ≤ q := by
    rcases Int.lt_or_le q s.hi with h | h
    · have e1 : s.c * (q + 1) ≤ s.c * 5000 := Int.mul_le_mul_of_nonneg_left (by omega) (by omega)
      have e2 : s.c * 5000 ≤ 100 * 5000 := Int.mul_le_mul_of_nonneg_right (by omega) (by omega)
      rw [Int.mul_add, Int.mul_one] at e1
      omega
    · exact h
  split <;> omega

theorem nP_bot {s : Shr} (hs : OkS s) {p : Int} (hp : p ≤ -1000201) : nP p s = s.lo := by
  obtain ⟨h1, h2, h3, h4, h5⟩ := hs
  unfold nP
  rw [clamp_eq]
  have b := div_bounds (p + s.c) (d := 2 * s.c) (by omega)
  generalize (p + s.c) / (2 * s.c) = q at *
  rw [Int.mul_assoc] at b
  have : q ≤ s.lo := by
    rcases Int.lt_or_le s.lo q with h | h
    · have e1 : s.c * (-5000) ≤ s.c * q := Int.mul_le_mul_of_nonneg_left (by omega) (by omega)
      have e2 : s.c * 5000 ≤ 100 * 5000 := Int.mul_le_mul_of_nonneg_right (by omega) (by omega)
      omega
    · exact h
  split <;> omega

theorem SP_top {p : Int} (hp : 1000200 ≤ p) : ∀ {l : List Shr}, (∀ s ∈ l, OkS s) → SP l p = highs l
  | [], _ => rfl
  | s :: l, hs => by
    have h1 := SP_top hp (l := l) fun x hx => hs x (List.mem_cons_of_mem _ hx)
    have h2 := nP_top (hs s (List.mem_cons_self ..)) hp
    unfold SP at h1 ⊢
    simp only [List.map_cons, sumI, highs]
    omega
theorem SP_bot {p : Int} (hp : p ≤ -1000201) : ∀ {l : List Shr}, (∀ s ∈ l, OkS s) → SP l p = lows l
  | [], _ => rfl
  | s :: l, hs => by
    have h1 := SP_bot hp (l := l) fun x hx => hs x (List.mem_cons_of_mem _ hx)
    have h2 := nP_bot (hs s (List.mem_cons_self ..)) hp
    unfold SP at h1 ⊢
    simp only [List.map_cons, sumI, lows]
    omega

def fillK (r : Int) : List Shr → Int → List Int
  | [], _ => []
  | s :: l, k => if 0 < k ∧ nP r s = nP (r - 1) s + 1 then nP r s :: fillK r l (k - 1) else nP (r - 1) s :: fillK r l k

theorem fillL_eq (r T : Int) : ∀ {l : List Shr} (n : Int), (∀ s ∈ l, OkS s) → fillL r T l (l.map (nP (r - 1))) n = fillK r l (T - n)
  | [], _, _ => rfl
  | s :: l, n, hs => by
    have h0 := fun m => fillL_eq r T (l := l) m fun x hx => hs x (List.mem_cons_of_mem _ hx)
    have hk := nP_step (p := r) (hs s (List.mem_cons_self ..))
    simp only [List.map_cons, fillL, fillK, Bool.and_eq_true, decide_eq_true_eq, beq_iff_eq]
    rcases hk with ⟨⟨a, b⟩, c⟩ | ⟨a, c⟩
    · by_cases hn : n < T
      · rw [if_pos ⟨⟨hn, a⟩, b⟩, if_pos ⟨by omega, c⟩, h0, c]
        congr 2; omega
      · rw [if_neg (fun h => hn h.1.1), if_neg (fun h => by omega), h0]
    · rw [if_neg (fun h => a ⟨h.1.2, h.2⟩), if_neg (fun h => by omega), h0]

theorem fillK_sum (r : Int) : ∀ {l : List Shr} {k : Int}, (∀ s ∈ l, OkS s) → 0 ≤ k → k ≤ SP l r - SP l (r - 1) → sumI (fillK r l k) = SP l (r - 1) + k
  | [], k, _, h0, h1 => by
    unfold SP at *
    simp only [List.map_nil, sumI, fillK] at *
    omega
  | s :: l, k, hs, h0, h1 => by
    have hl : ∀ x ∈ l, OkS x := fun x hx => hs x (List.mem_cons_of_mem _ hx)
    have hm := SP_mono (show r - 1 ≤ r by omega) hl
    have hk := nP_step (p := r) (hs s (List.mem_cons_self ..))
    have e : ∀ p, SP (s :: l) p = nP p s + SP l p := fun p => rfl
    rw [e, e] at h1
    rw [e]
    simp only [fillK]
    by_cases hc : 0 < k ∧ nP r s = nP (r - 1) s + 1
    · rw [if_pos hc]
      have ih := fillK_sum r (l := l) (k := k - 1) hl (by omega) (by omega)
      simp only [sumI]; omega
    · rw [if_neg hc]
      have ih := fillK_sum r (l := l) (k := k) hl h0 (by omega)
      simp only [sumI]; omega

theorem fillK_length (r : Int) : ∀ (l : List Shr) (k : Int), (fillK r l k).length = l.length
  | [], _ => rfl
  | s :: l, k => by
    simp only [fillK]
    split <;> simp [fillK_length r l]

def Up : List Shr → List Int → List Int → Prop
  | [], [], [] => True
  | s :: l, x :: xs, y :: ys => (s.lo ≤ x ∧ x ≤ s.hi ∧ x ≤ y ∧ y ≤ s.hi) ∧ Up l xs ys
  | _, _, _ => False

theorem fillK_at (r : Int) {s : Shr} (hs : OkS s) (k : Int) : ∃ x m, (∀ l, fillK r (s :: l) k = x :: fillK r l m) ∧ nP (r - 1) s ≤ x ∧ x ≤ nP r s ∧ (m = k ∧ x = nP (r - 1) s ∨ m = k - 1 ∧ 0 < k ∧ x = nP r s) := by
  have hk := nP_step (p := r) hs
  by_cases hc : 0 < k ∧ nP r s = nP (r - 1) s + 1
  · exact ⟨nP r s, k - 1, fun l => by simp only [fillK, if_pos hc], by omega, by omega, Or.inr ⟨rfl, hc.1, rfl⟩⟩
  · exact ⟨nP (r - 1) s, k, fun l => by simp only [fillK, if_neg hc], by omega, by omega, Or.inl ⟨rfl, rfl⟩⟩

theorem up_lt {r r' : Int} (h : r < r') : ∀ {l : List Shr} (k k' : Int), (∀ s ∈ l, OkS s) → Up l (fillK r l k) (fillK r' l k')
  | [], _, _, _ => trivial
  | s :: l, k, k', hs => by
    have hk := hs s (List.mem_cons_self ..)
    obtain ⟨x, m, e1, a1, a2, _⟩ := fillK_at r hk k
    obtain ⟨y, m', e2, b1, b2, _⟩ := fillK_at r' hk k'
    rw [e1, e2]
    have h1 := nP_mono hk (show r ≤ r' - 1 by omega)
    have h2 := nP_in (p := r - 1) hk
    have h3 := nP_in (p := r') hk
    exact ⟨by omega, up_lt h m m' fun x hx => hs x (List.mem_cons_of_mem _ hx)⟩

theorem up_eq {r : Int} : ∀ {l : List Shr} (k k' : Int), k ≤ k' → (∀ s ∈ l, OkS s) → Up l (fillK r l k) (fillK r l k')
  | [], _, _, _, _ => trivial
  | s :: l, k, k', hkk, hs => by
    have hk := hs s (List.mem_cons_self ..)
    have h2 := nP_in (p := r - 1) hk
    have h3 := nP_in (p := r) hk
    have hl : ∀ x ∈ l, OkS x := fun x hx => hs x (List.mem_cons_of_mem _ hx)
    simp only [fillK]
    by_cases hg : nP r s = nP (r - 1) s + 1
    · by_cases c1 : 0 < k
      · rw [if_pos ⟨c1, hg⟩, if_pos ⟨by omega, hg⟩]
        exact ⟨by omega, up_eq _ _ (by omega) hl⟩
      · by_cases c2 : 0 < k'
        · rw [if_neg (fun h => c1 h.1), if_pos ⟨c2, hg⟩]
          exact ⟨by omega, up_eq _ _ (by omega) hl⟩
        · rw [if_neg (fun h => c1 h.1), if_neg (fun h => c2 h.1)]
          exact ⟨by omega, up_eq _ _ hkk hl⟩
    · rw [if_neg (fun h => hg h.2), if_neg (fun h => hg h.2)]
      exact ⟨by omega, up_eq _ _ hkk hl⟩

theorem IsP.le {l : List Shr} {T r : Int} (hl : OkL l) (hT : lows l ≤ T ∧ T ≤ highs l) (h : IsP l T r) : SP l (r - 1) ≤ T ∧ T ≤ SP l r := by
  constructor
  · rcases h.less with e | e
    · rw [SP_bot (by omega) hl.2]; exact hT.1
    · omega
  · rcases h.enough with e | e
    · rw [SP_top (by omega) hl.2]; exact hT.2
    · exact e

theorem divL_eq {l : List Shr} (hl : OkL l) (T r : Int) : divL l T r = fillK r l (T - SP l (r - 1)) := fillL_eq r T _ hl.2

theorem divL_sum {l : List Shr} {T r : Int} (hl : OkL l) (hT : lows l ≤ T ∧ T ≤ highs l) (h : IsP l T r) : sumI (divL l T r) = T := by
  have := h.le hl hT
  rw [divL_eq hl, fillK_sum r hl.2 (by omega) (by omega)]
  omega

theorem divL_up {l : List Shr} {T T' r r' : Int} (hl : OkL l) (hT : lows l ≤ T ∧ T ≤ highs l) (hT' : lows l ≤ T' ∧ T' ≤ highs l) (hTT : T ≤ T') (h : IsP l T r) (h' : IsP l T' r') :
    Up l (divL l T r) (divL l T' r') := by
  have a := h.le hl hT
  have b := h'.le hl hT'
  rw [divL_eq hl, divL_eq hl]
  rcases Int.lt_trichotomy r r' with c | c | c
  · exact up_lt c _ _ hl.2
  · subst c; exact up_eq _ _ (by omega) hl.2
  · have d := SP_mono (show r' ≤ r - 1 by omega) hl.2
    have e : SP l (r - 1) < T := by
      rcases h.less with e | e
      · have := h'.lo; omega
      · exact e
    omega

end Go.Proofs.YtclplmjlolpfbaaGreat.Vm.Div

/- The source of shares and the examples of the chapter. -/
namespace Go.Proofs.YtclplmjlolpfbaaGreat.Vm.Div
set_option linter.unusedVariables false
set_option linter.unusedSimpArgs false

theorem ints_loop : ∀ (a b p q : List Int), p.length = q.length → a.length = b.length → (p ++ a).length ≤ 1000000000000 →
    lp E (denC E) 23 0 [] 0 { vals := [AV.sl 1 (intsK .i64 (p ++ a)), AV.sl 1 (intsK .i64 (q ++ b)), AV.int .i64 ((p ++ a).length : Int), AV.int .i64 (p.length : Int)], blks := [] } =
      if a = b then some (Ex.exit 0, { vals := [], blks := [] }) else some (Ex.ret, { vals := [AV.bool false], blks := [] })
  | [], [], p, q, hpq, _, hl => by
    rw [r23_0, ctl_dec, if_neg (by simp)]
    rfl
  | x :: a, y :: b, p, q, hpq, hab, hl => by
    simp only [List.length_append, List.length_cons] at hl
    simp only [List.length_cons] at hab
    rw [r23_0, ctl_dec, if_pos (by simp; omega), getE_ints (by simp; omega), getE_ints (by simp; omega)]
    have hx : (p ++ x :: a).getD ((p.length : Int)).toNat 0 = x := by simp [List.getD]
    have hy : (q ++ y :: b).getD ((p.length : Int)).toNat 0 = y := by simp [List.getD, hpq]
    rw [hx, hy]
    simp only [SB, Nat.reduceAdd]
    by_cases h : x = y
    · have hz : (x != y) = false := by simp [h]
      rw [hz, ctl_false, w64 (by omega)]
      have ih := ints_loop a b (p ++ [x]) (q ++ [y]) (by simp [hpq]) (by omega) (by simp; omega)
      simp only [List.append_assoc, List.cons_append, List.nil_append, List.length_append, List.length_cons, List.length_nil] at ih
      simp only [List.length_append, List.length_cons]
      have e1 : ((p.length : Int) + 1) = ((p.length + (0 + 1) : Nat) : Int) := by omega
      rw [e1, ih]
      simp [h]
    · have hz : (x != y) = true := by simp [h]
      rw [hz, ctl_true]
      simp [h]
  | [], _ :: _, _, _, _, h, _ => by simp at h
  | _ :: _, [], _, _, _, h, _ => by simp at h

theorem c_Ints (a b : List Int) (ha : a.length ≤ 1000000000000) : denC E 23 [AV.sl 1 (intsK .i64 a), AV.sl 1 (intsK .i64 b)] [] = some ([RV.p (PV.bool (decide (a = b)))], []) := by
  rw [denC_eq, r23, intsK_length, intsK_length]
  by_cases h : a.length = b.length
  · have hz : ((a.length : Int) != (b.length : Int)) = false := by simp [h]
    rw [hz, ctl_false]
    have hl := ints_loop a b [] [] rfl h (by simpa using ha)
    simp only [List.nil_append, List.length_nil] at hl
    have e0 : (((0 : Nat)) : Int) = 0 := rfl
    rw [e0] at hl
    rw [hl]
    by_cases hab : a = b
    · rw [if_pos hab]
      simp only [SB, Nat.reduceAdd]
      simp [hab]
    · rw [if_neg hab]
      simp only [SB, Nat.reduceAdd]
      simp [hab]
  · have hz : ((a.length : Int) != (b.length : Int)) = true := by simp; omega
    rw [hz, ctl_true]
    have : a ≠ b := fun e => h (by rw [e])
    simp [this]

end Go.Proofs.YtclplmjlolpfbaaGreat.Vm.Div

/- Price, and the document's Valid and Reach. -/
namespace Go.Proofs.YtclplmjlolpfbaaGreat.Vm.Div
set_option linter.unusedVariables false
set_option linter.unusedSimpArgs false

theorem rvalid_loop : ∀ (l p : List Shr), (p ++ l).length ≤ 8 →
    lp E (denC E) 120 0 [] 0 { vals := [AV.sl 3 (shK (p ++ l)), AV.int .i64 ((p ++ l).length : Int), AV.int .i64 (p.length : Int)], blks := [] } =
      ctl (l.all okSB) (some (Ex.exit 0, { vals := [], blks := [] })) (some (Ex.ret, { vals := [AV.int .i64 1], blks := [] }))
  | [], p, h => by
    rw [r120_0, ctl_dec, if_neg (by simp)]
    rfl
  | s :: l, p, h => by
    simp only [List.length_append, List.length_cons] at h
    rw [r120_0, ctl_dec, if_pos (by simp; omega), getE_mid]
    have ih := rvalid_loop l (p ++ [s]) (by simp; omega)
    simp only [List.append_assoc, List.cons_append, List.nil_append, List.length_append, List.length_cons, List.length_nil] at ih
    simp only [List.length_append, List.length_cons, shC, SB, Nat.reduceAdd]
    rw [w64 (n := (p.length : Int) + 1) (by omega)]
    have e1 : ((p.length : Int) + 1) = ((p.length + (0 + 1) : Nat) : Int) := by omega
    rw [e1, ih]
    have e2 : (ltB s.lo (-5000) || ltB s.hi s.lo || ltB 5000 s.hi || ltB s.c 1 || ltB 100 s.c) = !okSB s := by unfold okSB; simp
    rw [e2]
    cases okSB s <;> rfl

theorem c_RValid (l : List Shr) : denC E 120 [AV.sl 3 (shK l)] [] = some ([RV.p (PV.int .i64 (validN l))], []) := by
  rw [denC_eq, r120, shK_length, ctl_dec]
  unfold validN
  by_cases h : 8 < l.length
  · rw [if_pos (by omega), if_pos h]
  · rw [if_neg (by omega), if_neg h]
    have hl := rvalid_loop l [] (by simp; omega)
    simp only [List.nil_append, List.length_nil] at hl
    have e0 : (((0 : Nat)) : Int) = 0 := rfl
    rw [e0] at hl
    rw [hl]
    by_cases h2 : l.all okSB = true
    · rw [if_pos h2, h2]
      simp only [SB, Nat.reduceAdd]
    · have h3 : l.all okSB = false := by simpa using h2
      rw [if_neg h2, h3]
      simp only [SB, Nat.reduceAdd]

theorem rreach_loop : ∀ (l p : List Shr) (a b : Int), (p ++ l).length ≤ 8 → (∀ s ∈ l, OkS s) → -5000 * (p.length : Int) ≤ a ∧ a ≤ 5000 * (p.length : Int) → -5000 * (p.length : Int) ≤ b ∧ b ≤ 5000 * (p.length : Int) →
    lp E (denC E) 100 0 [] 0 { vals := [AV.int .i64 a, AV.int .i64 b, AV.sl 3 (shK (p ++ l)), AV.int .i64 ((p ++ l).length : Int), AV.int .i64 (p.length : Int)], blks := [] } =
      some (Ex.exit 0, { vals := [AV.int .i64 (a + lows l), AV.int .i64 (b + highs l)], blks := [] })
  | [], p, a, b, h, _, _, _ => by
    rw [r100_0, ctl_dec, if_neg (by simp)]
    simp [lows, highs]
  | s :: l, p, a, b, h, hs, ha, hb => by
    obtain ⟨h1, h2, h3, _⟩ := hs s (List.mem_cons_self ..)
    simp only [List.length_append, List.length_cons] at h
    have ih := rreach_loop l (p ++ [s]) (a + s.lo) (b + s.hi) (by simp; omega) (fun x hx => hs x (List.mem_cons_of_mem _ hx)) (by simp; omega) (by simp; omega)
    rw [r100_0, ctl_dec, if_pos (by simp; omega), getE_mid]
    simp only [List.append_assoc, List.cons_append, List.nil_append, List.length_append, List.length_cons, List.length_nil] at ih
    simp only [List.length_append, List.length_cons, shC, SB, Nat.reduceAdd]
    rw [w64 (n := (p.length : Int) + 1) (by omega), w64 (n := a + s.lo) (by omega), w64 (n := b + s.hi) (by omega)]
    have e1 : ((p.length : Int) + 1) = ((p.length + (0 + 1) : Nat) : Int) := by omega
    rw [e1, ih]
    simp only [lows, highs, Int.add_assoc]

theorem c_RReach {l : List Shr} (h : OkL l) : denC E 100 [AV.sl 3 (shK l)] [] = some ([RV.p (PV.int .i64 (lows l)), RV.p (PV.int .i64 (highs l)), RV.p (PV.int .i64 0)], []) := by
  rw [denC_eq, r100, c_RValid, validN_ok.2 h, shK_length]
  have hl := rreach_loop l [] 0 0 (by simpa using h.1) h.2 (by simp) (by simp)
  simp only [List.nil_append, List.length_nil, Int.zero_add] at hl
  have e0 : (((0 : Nat)) : Int) = 0 := rfl
  rw [e0] at hl
  have k : ((0 : Int) != 0) = false := rfl
  simp only [SB, Nat.reduceAdd, k]
  rw [hl]
  simp only [SB, Nat.reduceAdd]

def InR : List Shr → List Int → Prop
  | [], [] => True
  | s :: l, x :: xs => (s.lo ≤ x ∧ x ≤ s.hi) ∧ InR l xs
  | _, _ => False

theorem InR.length : ∀ {l : List Shr} {x : List Int}, InR l x → x.length = l.length
  | [], [], _ => rfl
  | s :: l, x :: xs, h => by simp [InR.length h.2]
  | [], _ :: _, h => h.elim
  | _ :: _, [], h => h.elim

theorem Up.left : ∀ {l : List Shr} {x y : List Int}, Up l x y → InR l x
  | [], [], [], _ => trivial
  | s :: l, x :: xs, y :: ys, h => ⟨by have := h.1; omega, Up.left h.2⟩
  | [], _ :: _, _, h => h.elim
  | [], [], _ :: _, h => h.elim
  | _ :: _, [], _, h => h.elim
  | _ :: _, _ :: _, [], h => h.elim

theorem Up.right : ∀ {l : List Shr} {x y : List Int}, Up l x y → InR l y
  | [], [], [], _ => trivial
  | s :: l, x :: xs, y :: ys, h => ⟨by have := h.1; omega, Up.right h.2⟩
  | [], _ :: _, _, h => h.elim
  | [], [], _ :: _, h => h.elim
  | _ :: _, [], _, h => h.elim
  | _ :: _, _ :: _, [], h => h.elim

def lst (s : Shr) (x : Int) : Int := s.c * (2 * x - 1)

theorem nP_price {r x : Int} {s : Shr} (hs : OkS s) (h1 : nP (r - 1) s ≤ x) (h2 : x ≤ nP r s) : (s.lo < x → lst s x ≤ r) ∧ (x < s.hi → r ≤ nxt s x) := by
  obtain ⟨k1, k2, k3, k4, k5⟩ := hs
  unfold nP at h1 h2
  rw [clamp_eq] at h1 h2
  have b1 := div_bounds (r - 1 + s.c) (d := 2 * s.c) (by omega)
  have b2 := div_bounds (r + s.c) (d := 2 * s.c) (by omega)
  generalize (r - 1 + s.c) / (2 * s.c) = q at *
  generalize (r + s.c) / (2 * s.c) = q' at *
  rw [Int.mul_assoc] at b1 b2
  unfold lst nxt
  constructor
  · intro h
    have hq : x ≤ q' := by split at h2 <;> split at h2 <;> omega
    have e1 : s.c * x ≤ s.c * q' := Int.mul_le_mul_of_nonneg_left hq (by omega)
    rw [Int.mul_sub, Int.mul_one, Int.mul_left_comm]
    omega
  · intro h
    have hq : q ≤ x := by split at h1 <;> split at h1 <;> omega
    have e1 : s.c * q ≤ s.c * x := Int.mul_le_mul_of_nonneg_left hq (by omega)
    rw [Int.mul_add, Int.mul_one, Int.mul_left_comm]
    omega

end Go.Proofs.YtclplmjlolpfbaaGreat.Vm.Div

/- Sum, Check and the theorem of the certificate. -/
namespace Go.Proofs.YtclplmjlolpfbaaGreat.Vm.Div
set_option linter.unusedVariables false
set_option linter.unusedSimpArgs false

theorem sq_le {s : Shr} {x : Int} (h : OkS s) (h1 : s.lo ≤ x) (h2 : x ≤ s.hi) : -500000 ≤ s.c * x ∧ s.c * x ≤ 500000 ∧ 0 ≤ s.c * x * x ∧ s.c * x * x ≤ 2500000000 := by
  obtain ⟨a, b, c, d, e⟩ := h
  have m1 := mul_le (a := s.c) (b := x) (m := 100) (n := 5000) (by omega) (by omega)
  have m2 := mul_le (a := s.c * x) (b := x) (m := 500000) (n := 5000) (by omega) (by omega)
  have m3 : 0 ≤ s.c * x * x := by
    rw [Int.mul_assoc]
    refine Int.mul_nonneg (by omega) ?_
    rcases Int.le_total 0 x with h | h
    · exact Int.mul_nonneg h h
    · exact Int.mul_nonneg_of_nonpos_of_nonpos h h
  omega

end Go.Proofs.YtclplmjlolpfbaaGreat.Vm.Div

/- The document's Divide: one at a time to the first one whose rise is least. -/
namespace Go.Proofs.YtclplmjlolpfbaaGreat.Vm.Div
set_option linter.unusedVariables false
set_option linter.unusedSimpArgs false

theorem map_eq {a b : Int} (hab : a ≤ b) : ∀ {l : List Shr}, (∀ s ∈ l, OkS s) → SP l a = SP l b → l.map (nP a) = l.map (nP b)
  | [], _, _ => rfl
  | s :: l, hs, h => by
    have h1 := nP_mono (hs s (List.mem_cons_self ..)) hab
    have h2 := SP_mono hab (l := l) fun x hx => hs x (List.mem_cons_of_mem _ hx)
    unfold SP at h h2
    simp only [List.map_cons, sumI] at h
    have ih := map_eq hab (l := l) (fun x hx => hs x (List.mem_cons_of_mem _ hx)) (by unfold SP; omega)
    simp only [List.map_cons, ih]
    congr 1
    omega
theorem fill_zero (r : Int) : ∀ (l : List Shr), fillK r l 0 = l.map (nP (r - 1))
  | [] => rfl
  | s :: l => by
    unfold fillK
    rw [if_neg (by omega), fill_zero r l]
    rfl
theorem fill_full (r : Int) : ∀ {l : List Shr}, (∀ s ∈ l, OkS s) → fillK r l (SP l r - SP l (r - 1)) = l.map (nP r)
  | [], _ => rfl
  | s :: l, hs => by
    have h1 := nP_step (p := r) (hs s (List.mem_cons_self ..))
    have h2 := SP_mono (show r - 1 ≤ r by omega) (l := l) fun x hx => hs x (List.mem_cons_of_mem _ hx)
    have ih := fill_full r (l := l) fun x hx => hs x (List.mem_cons_of_mem _ hx)
    have e : SP (s :: l) r - SP (s :: l) (r - 1) = nP r s - nP (r - 1) s + (SP l r - SP l (r - 1)) := by
      unfold SP
      simp only [List.map_cons, sumI]
      omega
    rw [e]
    unfold fillK
    rcases h1 with ⟨_, h1⟩ | ⟨_, h1⟩
    · rw [if_pos (by omega)]
      have e2 : nP r s - nP (r - 1) s + (SP l r - SP l (r - 1)) - 1 = SP l r - SP l (r - 1) := by omega
      rw [e2, ih]
      rfl
    · rw [if_neg (by omega)]
      have e2 : nP r s - nP (r - 1) s + (SP l r - SP l (r - 1)) = SP l r - SP l (r - 1) := by omega
      rw [e2, ih, ← h1]
      rfl

theorem next_price {l : List Shr} (hs : ∀ s ∈ l, OkS s) : ∀ (d : Nat) (r : Int), 1000200 - r ≤ d → SP l r < highs l → ∃ q, r < q ∧ SP l (q - 1) = SP l r ∧ SP l r < SP l q
  | 0, r, hd, h => by
    have := SP_top (p := r) (by omega) hs
    omega
  | d + 1, r, hd, h => by
    have h1 := SP_mono (show r ≤ r + 1 by omega) hs
    by_cases he : SP l r < SP l (r + 1)
    · refine ⟨r + 1, by omega, ?_, he⟩
      have e : r + 1 - 1 = r := by omega
      rw [e]
    · obtain ⟨q, q1, q2, q3⟩ := next_price hs d (r + 1) (by omega) (by omega)
      exact ⟨q, by omega, by omega, by omega⟩

def Wide (l : List Shr) (T r : Int) : Prop := SP l (r - 1) ≤ T ∧ T ≤ SP l r
theorem wide_lt {l : List Shr} (hs : ∀ s ∈ l, OkS s) {T r q : Int} (h : r < q) (h1 : Wide l T r) (h2 : Wide l T q) : fillK r l (T - SP l (r - 1)) = fillK q l (T - SP l (q - 1)) := by
  have m := SP_mono (show r ≤ q - 1 by omega) hs
  unfold Wide at h1 h2
  have e1 : T = SP l r := by omega
  have e2 : T - SP l (q - 1) = 0 := by omega
  rw [e2, fill_zero, e1, fill_full r hs]
  exact map_eq (by omega) hs (by omega)
theorem wide_uniq {l : List Shr} (hs : ∀ s ∈ l, OkS s) {T r q : Int} (h1 : Wide l T r) (h2 : Wide l T q) : fillK r l (T - SP l (r - 1)) = fillK q l (T - SP l (q - 1)) := by
  rcases Int.lt_trichotomy r q with h | h | h
  · exact wide_lt hs h h1 h2
  · rw [h]
  · exact (wide_lt hs h h2 h1).symm

def shz : Shr := ⟨0, 0, 0⟩
def bsI (L : List Shr) (X : List Int) : List Shr → List Int → Nat → Int → Int
  | s :: l, x :: xs, i, b => bsI L X l xs (i + 1) (if x < s.hi ∧ (b < 0 ∨ nxt s x < nxt (L.getD b.toNat shz) (X.getD b.toNat 0)) then (i : Int) else b)
  | _, _, _, b => b

theorem fill_rise {r : Int} {s : Shr} (hs : OkS s) {k : Int} : ∀ (l : List Shr), ∃ x m, fillK r (s :: l) k = x :: fillK r l m ∧ (x < s.hi → r ≤ nxt s x) := fun l => by
  obtain ⟨x, m, e, a1, a2, _⟩ := fillK_at r hs k
  exact ⟨x, m, e l, (nP_price hs a1 a2).2⟩

theorem bs_keep (L : List Shr) (X : List Int) (r b : Int) (hb : nxt (L.getD b.toNat shz) (X.getD b.toNat 0) = r) (hb0 : 0 ≤ b) : ∀ (l : List Shr) (k : Int) (i : Nat), (∀ s ∈ l, OkS s) → bsI L X l (fillK r l k) i b = b
  | [], k, i, hs => rfl
  | s :: l, k, i, hs => by
    obtain ⟨x, m, e, h⟩ := fill_rise (r := r) (k := k) (hs s (List.mem_cons_self ..)) l
    rw [e]
    unfold bsI
    rw [if_neg (by
      rintro ⟨h1, h2⟩
      have := h h1
      omega)]
    exact bs_keep L X r b hb hb0 l m (i + 1) fun z hz => hs z (List.mem_cons_of_mem _ hz)

theorem getD_app {α : Type} (d : α) (p : List α) (s : α) (l : List α) {n : Nat} (h : p.length = n) : (p ++ s :: l).getD n d = s := by
  subst h
  simp [List.getD]

theorem bs_fill (L : List Shr) (X : List Int) (r : Int) : ∀ (l p : List Shr) (px : List Int) (k b : Int), L = p ++ l → X = px ++ fillK r l k → px.length = p.length → (∀ s ∈ l, OkS s) → 0 ≤ k → k < SP l r - SP l (r - 1) →
    (b < 0 ∨ 0 ≤ b ∧ r < nxt (L.getD b.toNat shz) (X.getD b.toNat 0)) →
    ∃ j, j < l.length ∧ bsI L X l (fillK r l k) p.length b = ((p.length + j : Nat) : Int) ∧ (fillK r l k).set j ((fillK r l k).getD j 0 + 1) = fillK r l (k + 1)
  | [], p, px, k, b, hL, hX, hp, hs, hk, hk2, hb => by
    unfold SP at hk2
    simp only [List.map_nil, sumI] at hk2
    omega
  | s :: l, p, px, k, b, hL, hX, hp, hs, hk, hk2, hb => by
    have hs1 := hs s (List.mem_cons_self ..)
    have hst := nP_step (p := r) hs1
    have hin := nP_in (p := r) hs1
    have er : r + 1 - 1 = r := by omega
    have hrise := (nP_price (r := r + 1) (x := nP r s) hs1 (by rw [er]; exact Int.le_refl _) (nP_mono hs1 (by omega))).2
    have ed : SP (s :: l) r - SP (s :: l) (r - 1) = nP r s - nP (r - 1) s + (SP l r - SP l (r - 1)) := by
      unfold SP
      simp only [List.map_cons, sumI]
      omega
    rw [ed] at hk2
    have gs : L.getD p.length shz = s := by rw [hL]; exact getD_app shz p s l rfl
    -- what is taken over when this one has its number at the price
    have over : ∀ (m : Int), fillK r (s :: l) k = nP r s :: fillK r l m → fillK r (s :: l) (k + 1) = nP r s :: fillK r l (m + 1) → 0 ≤ m → m < SP l r - SP l (r - 1) →
        ∃ j, j < (s :: l).length ∧ bsI L X (s :: l) (fillK r (s :: l) k) p.length b = ((p.length + j : Nat) : Int) ∧ (fillK r (s :: l) k).set j ((fillK r (s :: l) k).getD j 0 + 1) = fillK r (s :: l) (k + 1) := by
      intro m e1 e2 hm hm2
      have gx : X.getD p.length 0 = nP r s := by rw [hX, e1]; exact getD_app 0 px _ _ hp
      obtain ⟨j, j1, j2, j3⟩ := bs_fill L X r l (p ++ [s]) (px ++ [nP r s]) m (if nP r s < s.hi ∧ (b < 0 ∨ nxt s (nP r s) < nxt (L.getD b.toNat shz) (X.getD b.toNat 0)) then (p.length : Int) else b) (by rw [hL]; simp) (by rw [hX, e1]; simp) (by simp [hp]) (fun z hz => hs z (List.mem_cons_of_mem _ hz)) hm hm2 (by
        split
        · rename_i hc
          right
          refine ⟨by omega, ?_⟩
          rw [Int.toNat_natCast, gs, gx]
          have := hrise hc.1
          omega
        · exact hb)
      refine ⟨j + 1, by simpa using j1, ?_, ?_⟩
      · rw [e1]
        unfold bsI
        simp only [List.length_append, List.length_cons, List.length_nil, Nat.zero_add] at j2
        rw [j2]
        congr 1
        omega
      · rw [e1, e2]
        simp only [List.set_cons_succ, List.getD_cons_succ]
        rw [j3]
    by_cases hc : 0 < k ∧ nP r s = nP (r - 1) s + 1
    · refine over (k - 1) ?_ ?_ (by omega) (by omega)
      · have e : fillK r (s :: l) k = if 0 < k ∧ nP r s = nP (r - 1) s + 1 then nP r s :: fillK r l (k - 1) else nP (r - 1) s :: fillK r l k := rfl
        rw [e, if_pos hc]
      · have e : fillK r (s :: l) (k + 1) = if 0 < k + 1 ∧ nP r s = nP (r - 1) s + 1 then nP r s :: fillK r l (k + 1 - 1) else nP (r - 1) s :: fillK r l (k + 1) := rfl
        rw [e, if_pos (by omega)]
        congr 2
        omega
    · have e : fillK r (s :: l) k = if 0 < k ∧ nP r s = nP (r - 1) s + 1 then nP r s :: fillK r l (k - 1) else nP (r - 1) s :: fillK r l k := rfl
      have e' : fillK r (s :: l) (k + 1) = if 0 < k + 1 ∧ nP r s = nP (r - 1) s + 1 then nP r s :: fillK r l (k + 1 - 1) else nP (r - 1) s :: fillK r l (k + 1) := rfl
      rw [if_neg hc] at e
      rcases hst with ⟨⟨hst1, hst2⟩, hst3⟩ | ⟨hst1, hst2⟩
      · -- this one takes it
        have hk0 : k = 0 := by omega
        have gx : X.getD p.length 0 = nP (r - 1) s := by rw [hX, e]; exact getD_app 0 px _ _ hp
        refine ⟨0, by simp, ?_, ?_⟩
        · rw [e]
          unfold bsI
          have hcond : nP (r - 1) s < s.hi ∧ (b < 0 ∨ nxt s (nP (r - 1) s) < nxt (L.getD b.toNat shz) (X.getD b.toNat 0)) := by
            refine ⟨hst1, ?_⟩
            rcases hb with hb | ⟨_, hb⟩
            · exact .inl hb
            · right; omega
          rw [if_pos hcond]
          exact bs_keep L X r (p.length : Int) (by rw [Int.toNat_natCast, gs, gx]; exact hst2) (by omega) l k _ fun z hz => hs z (List.mem_cons_of_mem _ hz)
        · rw [e, e', if_pos (by omega)]
          simp only [List.set_cons_zero, List.getD_cons_zero]
          have : k + 1 - 1 = k := by omega
          rw [this, hst3]
      · refine over k ?_ ?_ hk (by omega)
        · rw [e, hst2]
        · rw [e', if_neg (by omega), hst2]

theorem c_rise {s : Shr} {x : Int} (h : OkS s) (hx : -5001 ≤ x ∧ x ≤ 5001) : denC E 101 [AV.agg [PV.int .i64 s.lo, PV.int .i64 s.hi, PV.int .i64 s.c], AV.int .i64 x] [] = some ([RV.p (PV.int .i64 (nxt s x))], []) := by
  obtain ⟨_, _, _, h4, h5⟩ := h
  rw [denC_eq, r101, w64 (n := 2 * x) (by omega), w64 (n := 2 * x + 1) (by omega)]
  have h1 := mul_le (a := s.c) (b := 2 * x + 1) (m := 100) (n := 20000) (by omega) (by omega)
  rw [w64 (by omega)]
  rfl

theorem nth_ints' {y : List Int} {i : Nat} (h : i < y.length) : nth [] (intsK .i64 y) i = [PV.int .i64 (y.getD i 0)] := by
  rw [nth_eq]
  simp [intsK, List.getD, h]
theorem getE_shz {α : Type} {l : List Shr} {i : Int} (hi : 0 ≤ i ∧ i < l.length) (K : List PV → Option α) : getE (shK l) i K = K (shC (l.getD i.toNat shz)) := by
  unfold getE
  rw [shK_length]
  have h1 : leB 0 i = true := by simpa using hi.1
  have h2 : ltB i l.length = true := by simpa using hi.2
  rw [h1, h2]
  have hlt : i.toNat < l.length := by omega
  simp only [Bool.and_self, ctl_true]
  rw [nth_eq]
  simp [shK, List.getD, hlt]

theorem rd_init (total low goal : Int) (L : List Shr) : ∀ (l p : List Shr) (acc : List Int), L = p ++ l → acc.length = p.length → L.length ≤ 8 →
    lp E (denC E) 65 0 [] 0 { vals := [AV.sl 3 (shK L), AV.int .i64 total, AV.int .i64 low, AV.int .i64 goal, AV.sl 3 (shK L), AV.int .i64 (L.length : Int), AV.int .i64 (p.length : Int)], blks := [Blk.arr 1 (intsK .i64 acc)] } =
      some (Ex.exit 0, { vals := [AV.sl 3 (shK L), AV.int .i64 total, AV.int .i64 low, AV.int .i64 goal], blks := [Blk.arr 1 (intsK .i64 (acc ++ l.map Shr.lo))] })
  | [], p, acc, hL, ha, h8 => by
    have : L.length = p.length := by rw [hL]; simp
    rw [r65_0, ctl_dec, if_neg (by omega)]
    simp
  | s :: l, p, acc, hL, ha, h8 => by
    have ih := rd_init total low goal L l (p ++ [s]) (acc ++ [s.lo]) (by rw [hL]; simp) (by simp [ha]) h8
    have hlen : p.length < L.length := by rw [hL]; simp
    simp only [List.append_assoc, List.cons_append, List.nil_append, List.length_append, List.length_cons, List.length_nil] at ih
    have hg : ∀ {α : Type} (K : List PV → Option α), getE (shK L) (p.length : Int) K = K (shC s) := fun K => by rw [hL]; exact getE_mid p s l K
    rw [r65_0, ctl_dec, if_pos (by omega), hg]
    have hroom : (leN (((intsK .i64 acc).length + 1) * 8) 140737488355328) = true := by rw [intsK_length]; simp only [decide_eq_true_eq]; omega
    have e4 : intsK .i64 (acc ++ [s.lo]) = intsK .i64 acc ++ [[PV.int .i64 s.lo]] := by simp [intsK]
    simp only [shC, SB, Nat.reduceAdd, hroom]
    rw [w64 (n := (p.length : Int) + 1) (by omega)]
    have e1 : ((p.length : Int) + 1) = ((p.length + (0 + 1) : Nat) : Int) := by omega
    rw [e1, ← e4, ih]

theorem bs_loop (total goal n : Int) (L : List Shr) (X : List Int) (hX : X.length = L.length) (h8 : L.length ≤ 8) (hok : ∀ s ∈ L, OkS s) (hsm : ∀ x ∈ X, -5000 ≤ x ∧ x ≤ 5000) : ∀ (l p : List Shr) (xs px : List Int) (b : Int), L = p ++ l → X = px ++ xs → px.length = p.length → (b = -1 ∨ 0 ≤ b ∧ b < (p.length : Int)) →
    lp E (denC E) 65 0 [] 4 { vals := [AV.sl 3 (shK L), AV.int .i64 total, AV.int .i64 goal, AV.int .i64 n, AV.int .i64 b, AV.sl 3 (shK L), AV.int .i64 (L.length : Int), AV.int .i64 (p.length : Int)], blks := [Blk.arr 1 (intsK .i64 X)] } =
      some (Ex.exit 4, { vals := [AV.sl 3 (shK L), AV.int .i64 total, AV.int .i64 goal, AV.int .i64 n, AV.int .i64 (bsI L X l xs p.length b)], blks := [Blk.arr 1 (intsK .i64 X)] })
  | [], p, xs, px, b, hL, hXX, hp, hb => by
    have : L.length = p.length := by rw [hL]; simp
    rw [r65_4, ctl_dec, if_neg (by omega)]
    rfl
  | s :: l, p, [], px, b, hL, hXX, hp, hb => by
    have h1 : L.length = p.length + (l.length + 1) := by rw [hL]; simp
    have h2 : X.length = px.length := by rw [hXX]; simp
    omega
  | s :: l, p, x :: xs, px, b, hL, hXX, hp, hb => by
    have hlen : p.length < L.length := by rw [hL]; simp
    have ih := fun b hb => bs_loop total goal n L X hX h8 hok hsm l (p ++ [s]) xs (px ++ [x]) b (by rw [hL]; simp) (by rw [hXX]; simp) (by simp [hp]) hb
    simp only [List.length_append, List.length_cons, List.length_nil] at ih
    have hg : ∀ {α : Type} (K : List PV → Option α), getE (shK L) (p.length : Int) K = K (shC s) := fun K => by rw [hL]; exact getE_mid p s l K
    have hs : OkS s := hok s (by rw [hL]; simp)
    have hx : -5000 ≤ x ∧ x ≤ 5000 := hsm x (by rw [hXX]; simp)
    have gx : X.getD p.length 0 = x := by rw [hXX]; exact getD_app 0 px _ _ hp
    have hn : nth [] (intsK .i64 X) p.length = [PV.int .i64 x] := by rw [nth_ints' (by omega), gx]
    have c1 : leB 0 (p.length : Int) = true := by simp only [decide_eq_true_eq]; omega
    have c2 : ltB (p.length : Int) ((intsK .i64 X).length : Int) = true := by rw [intsK_length]; simp only [decide_eq_true_eq]; omega
    have e1 : ((p.length : Int) + 1) = ((p.length + (0 + 1) : Nat) : Int) := by omega
    have td : ∀ v : PV, List.take 1 (List.drop 0 [v]) = [v] := fun v => rfl
    have hr := c_rise hs (x := x) (by omega)
    unfold bsI
    rw [r65_4, ctl_dec, if_pos (by omega), hg]
    simp only [shC, SB, Nat.reduceAdd, c1, c2, Int.toNat_natCast, hn, td]
    rw [w64 (n := (p.length : Int) + 1) (by omega), e1]
    by_cases h1 : x < s.hi
    · have f1 : ltB x s.hi = true := by simpa using h1
      simp only [f1, SB, Nat.reduceAdd]
      rcases hb with rfl | ⟨hb0, hb1⟩
      · have f2 : ltB (-1 : Int) 0 = true := by decide
        rw [if_pos ⟨h1, .inl (by omega)⟩]
        simp only [f2, SB, Nat.reduceAdd]
        exact ih (p.length : Int) (.inr (by omega))
      · have f2 : ltB b 0 = false := by simp only [decide_eq_false_iff_not]; omega
        have f3 : leB 0 b = true := by simp only [decide_eq_true_eq]; omega
        have f4 : ltB b ((intsK .i64 X).length : Int) = true := by rw [intsK_length]; simp only [decide_eq_true_eq]; omega
        have hbn : b.toNat < L.length := by omega
        have hbm : L.getD b.toNat shz ∈ L := by
          simp only [List.getD, List.getElem?_eq_getElem hbn, Option.getD_some]
          exact List.getElem_mem _
        have hbx : X.getD b.toNat 0 ∈ X := by
          have : b.toNat < X.length := by omega
          simp only [List.getD, List.getElem?_eq_getElem this, Option.getD_some]
          exact List.getElem_mem _
        have hr2 := c_rise (hok _ hbm) (x := X.getD b.toNat 0) (by have := hsm _ hbx; omega)
        have hn2 : nth [] (intsK .i64 X) b.toNat = [PV.int .i64 (X.getD b.toNat 0)] := nth_ints' (by omega)
        simp only [f2, SB, Nat.reduceAdd]
        rw [hr]
        simp only [SB, Nat.reduceAdd]
        rw [getE_shz (by omega)]
        simp only [shC, SB, Nat.reduceAdd, f3, f4, hn2, td]
        rw [hr2]
        simp only [SB, Nat.reduceAdd]
        by_cases h2 : nxt s x < nxt (L.getD b.toNat shz) (X.getD b.toNat 0)
        · have f5 : ltB (nxt s x) (nxt (L.getD b.toNat shz) (X.getD b.toNat 0)) = true := by simpa using h2
          rw [if_pos ⟨h1, .inr h2⟩, f5]
          simp only [SB, Nat.reduceAdd]
          exact ih (p.length : Int) (.inr (by omega))
        · have f5 : ltB (nxt s x) (nxt (L.getD b.toNat shz) (X.getD b.toNat 0)) = false := by simpa using h2
          rw [if_neg (by rintro ⟨_, h | h⟩ <;> omega), f5]
          simp only [SB, Nat.reduceAdd]
          exact ih b (.inr (by omega))
    · have f1 : ltB x s.hi = false := by simpa using h1
      rw [if_neg (fun h => h1 h.1)]
      simp only [f1, SB, Nat.reduceAdd]
      exact ih b (by omega)

theorem fill_small {r : Int} : ∀ {l : List Shr} {k : Int}, (∀ s ∈ l, OkS s) → ∀ x ∈ fillK r l k, -5000 ≤ x ∧ x ≤ 5000
  | [], _, _, x, hx => by cases hx
  | s :: l, k, hs, x, hx => by
    have hk := hs s (List.mem_cons_self ..)
    obtain ⟨y, m, e, a1, a2, _⟩ := fillK_at r hk k
    have i1 := nP_in (p := r) hk
    have i2 := nP_in (p := r - 1) hk
    unfold OkS at hk
    rw [e] at hx
    rcases List.mem_cons.1 hx with rfl | hx
    · omega
    · exact fill_small (fun z hz => hs z (List.mem_cons_of_mem _ hz)) x hx

theorem rd_loop {L : List Shr} (h : OkL L) (total goal : Int) (hg : goal ≤ highs L) : ∀ (m : Nat) (n r : Int), n + m = goal → Wide L n r →
    ∃ q, Wide L goal q ∧ lp E (denC E) 65 0 [] 2 { vals := [AV.sl 3 (shK L), AV.int .i64 total, AV.int .i64 goal, AV.int .i64 n], blks := [Blk.arr 1 (intsK .i64 (fillK r L (n - SP L (r - 1))))] } =
      some (Ex.exit 2, { vals := [AV.int .i64 total, AV.int .i64 goal], blks := [Blk.arr 1 (intsK .i64 (fillK q L (goal - SP L (q - 1))))] })
  | 0, n, r, hn, hw => by
    have e : n = goal := by omega
    subst e
    refine ⟨r, hw, ?_⟩
    rw [r65_2, ctl_dec, if_neg (by omega)]
  | m + 1, n, r, hn, hw => by
    have he := ends_in h.2
    have h8 := h.1
    -- a price with a step
    obtain ⟨q, hq, hq2⟩ : ∃ q, Wide L n q ∧ n < SP L q := by
      by_cases hlt : n < SP L r
      · exact ⟨r, hw, hlt⟩
      · have e : n = SP L r := by unfold Wide at hw; omega
        obtain ⟨q, q1, q2, q3⟩ := next_price h.2 (1000200 - r).toNat r (by omega) (by omega)
        exact ⟨q, ⟨by omega, by omega⟩, by omega⟩
    rw [wide_uniq h.2 hw hq]
    have hin := SP_in (q - 1) h.2
    have hqw := hq
    unfold Wide at hqw
    obtain ⟨q', hq', ih⟩ := rd_loop h total goal hg m (n + 1) q (by omega) ⟨by unfold Wide at hq; omega, by omega⟩
    refine ⟨q', hq', ?_⟩
    generalize hX : fillK q L (n - SP L (q - 1)) = X
    have hXl : X.length = L.length := by rw [← hX]; exact fillK_length q L _
    have hXs : ∀ x ∈ X, -5000 ≤ x ∧ x ≤ 5000 := by rw [← hX]; exact fill_small h.2
    obtain ⟨j, j1, j2, j3⟩ := bs_fill L X q L [] [] (n - SP L (q - 1)) (-1) rfl (by rw [hX]; rfl) rfl h.2 (by unfold Wide at hq; omega) (by omega) (.inl (by omega))
    have hbs := bs_loop total goal n L X hXl h8 h.2 hXs L [] X [] (-1) rfl rfl rfl (.inl rfl)
    rw [hX] at j2 j3
    simp only [List.length_nil, Nat.zero_add] at j2 hbs
    rw [j2] at hbs
    have e0 : (((0 : Nat)) : Int) = 0 := rfl
    rw [e0] at hbs
    have ek : n - SP L (q - 1) + 1 = n + 1 - SP L (q - 1) := by omega
    rw [ek] at j3
    have hjx : X.getD j 0 ∈ X := by
      have : j < X.length := by omega
      simp only [List.getD, List.getElem?_eq_getElem this, Option.getD_some]
      exact List.getElem_mem _
    have hj := hXs _ hjx
    have c1 : leB 0 (j : Int) = true := by simp only [decide_eq_true_eq]; omega
    have c2 : ltB (j : Int) ((intsK .i64 X).length : Int) = true := by rw [intsK_length]; simp only [decide_eq_true_eq]; omega
    have hn2 : nth [] (intsK .i64 X) j = [PV.int .i64 (X.getD j 0)] := nth_ints' (by omega)
    have td : ∀ v : PV, List.take 1 (List.drop 0 [v]) = [v] := fun v => rfl
    rw [r65_2, ctl_dec, if_pos (by omega), shK_length, hbs]
    simp only [SB, Nat.reduceAdd, c1, c2, Int.toNat_natCast, hn2, td]
    rw [w64 (n := X.getD j 0 + 1) (by omega), w64 (n := n + 1) (by omega), setEs_ints (by omega), j3]
    exact ih

theorem c_RDivide {l : List Shr} (h : OkL l) {total : Int} (ht : -500000 ≤ total ∧ total ≤ 500000) {r : Int} (hr : IsP l (clamp total (lows l) (highs l)) r) :
    denC E 65 [AV.sl 3 (shK l), AV.int .i64 total] [] = some ([RV.p (PV.sl 1 (intsK .i64 (divL l (clamp total (lows l) (highs l)) r))), RV.p (PV.int .i64 (total - clamp total (lows l) (highs l))), RV.p (PV.int .i64 0)], []) := by
  have he := ends_in h.2
  have h8 := h.1
  have hT := clamp_in (x := total) he.2.1
  have hb := SP_bot (p := -1000200 - 1) (by omega) h.2
  have hb2 := SP_mono (show (-1000200 : Int) - 1 ≤ -1000200 by omega) h.2
  have e1 : minI (highs l) (maxI (lows l) total) = clamp total (lows l) (highs l) := by
    rw [clamp_eq]
    unfold minI maxI
    split <;> split <;> (try split) <;> omega
  generalize hTe : clamp total (lows l) (highs l) = T at *
  obtain ⟨q, q1, q2⟩ := rd_loop h total T hT.2 (T - lows l).toNat (lows l) (-1000200) (by omega) ⟨by omega, by omega⟩
  have ez : lows l - SP l (-1000200 - 1) = 0 := by omega
  rw [ez, fill_zero] at q2
  have em : l.map (nP (-1000200 - 1)) = l.map Shr.lo := List.map_congr_left fun s hs => nP_bot (h.2 s hs) (by omega)
  rw [em, wide_uniq h.2 q1 (IsP.le h hT hr), ← divL_eq h] at q2
  have hi := rd_init total (lows l) T l l [] [] rfl rfl h8
  have ei : intsK .i64 [] = [] := rfl
  have e0 : (((0 : Nat)) : Int) = 0 := rfl
  simp only [List.nil_append, List.length_nil] at hi
  rw [ei, e0] at hi
  have k0 : ((0 : Int) != 0) = false := rfl
  have k1 : ltB total (-500000) = false := by simp; omega
  have k2 : ltB 500000 total = false := by simp; omega
  rw [denC_eq, r65, c_RReach h]
  simp only [SB, Nat.reduceAdd, k0, k1, k2, e1, shK_length]
  rw [hi]
  simp only [SB, Nat.reduceAdd]
  rw [q2]
  simp only [SB, Nat.reduceAdd]
  rw [w64 (n := total - T) (by omega)]

end Go.Proofs.YtclplmjlolpfbaaGreat.Vm.Div
