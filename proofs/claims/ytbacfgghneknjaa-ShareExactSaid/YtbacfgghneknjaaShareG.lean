/- The document's Divide: one at a time to the first one whose rise is least. -/
import Derived.Test.YtbacfgghneknjaaShareQ
namespace Go.Proofs.Ytbacfgghneknjaa.Vm
set_option linter.unusedVariables false
set_option linter.unusedSimpArgs false

/-! ### Prices without steps -/
theorem map_eq {a b : Int} (hab : a ≤ b) : ∀ {l : List Shr}, (∀ s ∈ l, OkS s) → SP l a = SP l b → l.map (nP a) = l.map (nP b)
  | [], _, _ => rfl
  | s :: l, hs, h => by
    have h1 := nP_mono (hs s (List.mem_cons_self ..)) hab
    have h2 := SP_mono hab (l := l) fun x hx => hs x (List.mem_cons_of_mem _ hx)
    unfold SP at h h2
    simp only [List.map_cons, sumI] at h
    have ih := map_eq hab (l := l) (fun x hx => hs x (List.mem_cons_of_mem _ hx)) (by unfold SP; omega)
    simp only [List.map_cons, ih]
    congr 1
    omega
theorem fill_zero (r : Int) : ∀ (l : List Shr), fillK r l 0 = l.map (nP (r - 1))
  | [] => rfl
  | s :: l => by
    unfold fillK
    rw [if_neg (by omega), fill_zero r l]
    rfl
theorem fill_full (r : Int) : ∀ {l : List Shr}, (∀ s ∈ l, OkS s) → fillK r l (SP l r - SP l (r - 1)) = l.map (nP r)
  | [], _ => rfl
  | s :: l, hs => by
    have h1 := nP_step (p := r) (hs s (List.mem_cons_self ..))
    have h2 := SP_mono (show r - 1 ≤ r by omega) (l := l) fun x hx => hs x (List.mem_cons_of_mem _ hx)
    have ih := fill_full r (l := l) fun x hx => hs x (List.mem_cons_of_mem _ hx)
    have e : SP (s :: l) r - SP (s :: l) (r - 1) = nP r s - nP (r - 1) s + (SP l r - SP l (r - 1)) := by
      unfold SP
      simp only [List.map_cons, sumI]
      omega
    rw [e]
    unfold fillK
    rcases h1 with ⟨_, h1⟩ | ⟨_, h1⟩
    · rw [if_pos (by omega)]
      have e2 : nP r s - nP (r - 1) s + (SP l r - SP l (r - 1)) - 1 = SP l r - SP l (r - 1) := by omega
      rw [e2, ih]
      rfl
    · rw [if_neg (by omega)]
      have e2 : nP r s - nP (r - 1) s + (SP l r - SP l (r - 1)) = SP l r - SP l (r - 1) := by omega
      rw [e2, ih, ← h1]
      rfl

/-- The next price with a step. -/
theorem next_price {l : List Shr} (hs : ∀ s ∈ l, OkS s) : ∀ (d : Nat) (r : Int), 1000200 - r ≤ d → SP l r < highs l → ∃ q, r < q ∧ SP l (q - 1) = SP l r ∧ SP l r < SP l q
  | 0, r, hd, h => by
    have := SP_top (p := r) (by omega) hs
    omega
  | d + 1, r, hd, h => by
    have h1 := SP_mono (show r ≤ r + 1 by omega) hs
    by_cases he : SP l r < SP l (r + 1)
    · refine ⟨r + 1, by omega, ?_, he⟩
      have e : r + 1 - 1 = r := by omega
      rw [e]
    · obtain ⟨q, q1, q2, q3⟩ := next_price hs d (r + 1) (by omega) (by omega)
      exact ⟨q, by omega, by omega, by omega⟩

/-- A price that is right for a sum, wide. -/
def Wide (l : List Shr) (T r : Int) : Prop := SP l (r - 1) ≤ T ∧ T ≤ SP l r
theorem wide_lt {l : List Shr} (hs : ∀ s ∈ l, OkS s) {T r q : Int} (h : r < q) (h1 : Wide l T r) (h2 : Wide l T q) : fillK r l (T - SP l (r - 1)) = fillK q l (T - SP l (q - 1)) := by
  have m := SP_mono (show r ≤ q - 1 by omega) hs
  unfold Wide at h1 h2
  have e1 : T = SP l r := by omega
  have e2 : T - SP l (q - 1) = 0 := by omega
  rw [e2, fill_zero, e1, fill_full r hs]
  exact map_eq (by omega) hs (by omega)
theorem wide_uniq {l : List Shr} (hs : ∀ s ∈ l, OkS s) {T r q : Int} (h1 : Wide l T r) (h2 : Wide l T q) : fillK r l (T - SP l (r - 1)) = fillK q l (T - SP l (q - 1)) := by
  rcases Int.lt_trichotomy r q with h | h | h
  · exact wide_lt hs h h1 h2
  · rw [h]
  · exact (wide_lt hs h h2 h1).symm

/-! ### The first one whose rise is least -/
def shz : Shr := ⟨0, 0, 0⟩
def bsI (L : List Shr) (X : List Int) : List Shr → List Int → Nat → Int → Int
  | s :: l, x :: xs, i, b => bsI L X l xs (i + 1) (if x < s.hi ∧ (b < 0 ∨ nxt s x < nxt (L.getD b.toNat shz) (X.getD b.toNat 0)) then (i : Int) else b)
  | _, _, _, b => b

theorem fill_rise {r : Int} {s : Shr} (hs : OkS s) {k : Int} : ∀ (l : List Shr), ∃ x m, fillK r (s :: l) k = x :: fillK r l m ∧ (x < s.hi → r ≤ nxt s x) := fun l => by
  obtain ⟨x, m, e, a1, a2, _⟩ := fillK_at r hs k
  exact ⟨x, m, e l, (nP_price hs a1 a2).2⟩

theorem bs_keep (L : List Shr) (X : List Int) (r b : Int) (hb : nxt (L.getD b.toNat shz) (X.getD b.toNat 0) = r) (hb0 : 0 ≤ b) : ∀ (l : List Shr) (k : Int) (i : Nat), (∀ s ∈ l, OkS s) → bsI L X l (fillK r l k) i b = b
  | [], k, i, hs => rfl
  | s :: l, k, i, hs => by
    obtain ⟨x, m, e, h⟩ := fill_rise (r := r) (k := k) (hs s (List.mem_cons_self ..)) l
    rw [e]
    unfold bsI
    rw [if_neg (by
      rintro ⟨h1, h2⟩
      have := h h1
      omega)]
    exact bs_keep L X r b hb hb0 l m (i + 1) fun z hz => hs z (List.mem_cons_of_mem _ hz)

theorem getD_app {α : Type} (d : α) (p : List α) (s : α) (l : List α) {n : Nat} (h : p.length = n) : (p ++ s :: l).getD n d = s := by
  subst h
  simp [List.getD]

theorem bs_fill (L : List Shr) (X : List Int) (r : Int) : ∀ (l p : List Shr) (px : List Int) (k b : Int), L = p ++ l → X = px ++ fillK r l k → px.length = p.length → (∀ s ∈ l, OkS s) → 0 ≤ k → k < SP l r - SP l (r - 1) →
    (b < 0 ∨ 0 ≤ b ∧ r < nxt (L.getD b.toNat shz) (X.getD b.toNat 0)) →
    ∃ j, j < l.length ∧ bsI L X l (fillK r l k) p.length b = ((p.length + j : Nat) : Int) ∧ (fillK r l k).set j ((fillK r l k).getD j 0 + 1) = fillK r l (k + 1)
  | [], p, px, k, b, hL, hX, hp, hs, hk, hk2, hb => by
    unfold SP at hk2
    simp only [List.map_nil, sumI] at hk2
    omega
  | s :: l, p, px, k, b, hL, hX, hp, hs, hk, hk2, hb => by
    have hs1 := hs s (List.mem_cons_self ..)
    have hst := nP_step (p := r) hs1
    have hin := nP_in (p := r) hs1
    have er : r + 1 - 1 = r := by omega
    have hrise := (nP_price (r := r + 1) (x := nP r s) hs1 (by rw [er]; exact Int.le_refl _) (nP_mono hs1 (by omega))).2
    have ed : SP (s :: l) r - SP (s :: l) (r - 1) = nP r s - nP (r - 1) s + (SP l r - SP l (r - 1)) := by
      unfold SP
      simp only [List.map_cons, sumI]
      omega
    rw [ed] at hk2
    have gs : L.getD p.length shz = s := by rw [hL]; exact getD_app shz p s l rfl
    -- what is taken over when this one has its number at the price
    have over : ∀ (m : Int), fillK r (s :: l) k = nP r s :: fillK r l m → fillK r (s :: l) (k + 1) = nP r s :: fillK r l (m + 1) → 0 ≤ m → m < SP l r - SP l (r - 1) →
        ∃ j, j < (s :: l).length ∧ bsI L X (s :: l) (fillK r (s :: l) k) p.length b = ((p.length + j : Nat) : Int) ∧ (fillK r (s :: l) k).set j ((fillK r (s :: l) k).getD j 0 + 1) = fillK r (s :: l) (k + 1) := by
      intro m e1 e2 hm hm2
      have gx : X.getD p.length 0 = nP r s := by rw [hX, e1]; exact getD_app 0 px _ _ hp
      obtain ⟨j, j1, j2, j3⟩ := bs_fill L X r l (p ++ [s]) (px ++ [nP r s]) m (if nP r s < s.hi ∧ (b < 0 ∨ nxt s (nP r s) < nxt (L.getD b.toNat shz) (X.getD b.toNat 0)) then (p.length : Int) else b) (by rw [hL]; simp) (by rw [hX, e1]; simp) (by simp [hp]) (fun z hz => hs z (List.mem_cons_of_mem _ hz)) hm hm2 (by
        split
        · rename_i hc
          right
          refine ⟨by omega, ?_⟩
          rw [Int.toNat_natCast, gs, gx]
          have := hrise hc.1
          omega
        · exact hb)
      refine ⟨j + 1, by simpa using j1, ?_, ?_⟩
      · rw [e1]
        unfold bsI
        simp only [List.length_append, List.length_cons, List.length_nil, Nat.zero_add] at j2
        rw [j2]
        congr 1
        omega
      · rw [e1, e2]
        simp only [List.set_cons_succ, List.getD_cons_succ]
        rw [j3]
    by_cases hc : 0 < k ∧ nP r s = nP (r - 1) s + 1
    · refine over (k - 1) ?_ ?_ (by omega) (by omega)
      · have e : fillK r (s :: l) k = if 0 < k ∧ nP r s = nP (r - 1) s + 1 then nP r s :: fillK r l (k - 1) else nP (r - 1) s :: fillK r l k := rfl
        rw [e, if_pos hc]
      · have e : fillK r (s :: l) (k + 1) = if 0 < k + 1 ∧ nP r s = nP (r - 1) s + 1 then nP r s :: fillK r l (k + 1 - 1) else nP (r - 1) s :: fillK r l (k + 1) := rfl
        rw [e, if_pos (by omega)]
        congr 2
        omega
    · have e : fillK r (s :: l) k = if 0 < k ∧ nP r s = nP (r - 1) s + 1 then nP r s :: fillK r l (k - 1) else nP (r - 1) s :: fillK r l k := rfl
      have e' : fillK r (s :: l) (k + 1) = if 0 < k + 1 ∧ nP r s = nP (r - 1) s + 1 then nP r s :: fillK r l (k + 1 - 1) else nP (r - 1) s :: fillK r l (k + 1) := rfl
      rw [if_neg hc] at e
      rcases hst with ⟨⟨hst1, hst2⟩, hst3⟩ | ⟨hst1, hst2⟩
      · -- this one takes it
        have hk0 : k = 0 := by omega
        have gx : X.getD p.length 0 = nP (r - 1) s := by rw [hX, e]; exact getD_app 0 px _ _ hp
        refine ⟨0, by simp, ?_, ?_⟩
        · rw [e]
          unfold bsI
          have hcond : nP (r - 1) s < s.hi ∧ (b < 0 ∨ nxt s (nP (r - 1) s) < nxt (L.getD b.toNat shz) (X.getD b.toNat 0)) := by
            refine ⟨hst1, ?_⟩
            rcases hb with hb | ⟨_, hb⟩
            · exact .inl hb
            · right; omega
          rw [if_pos hcond]
          exact bs_keep L X r (p.length : Int) (by rw [Int.toNat_natCast, gs, gx]; exact hst2) (by omega) l k _ fun z hz => hs z (List.mem_cons_of_mem _ hz)
        · rw [e, e', if_pos (by omega)]
          simp only [List.set_cons_zero, List.getD_cons_zero]
          have : k + 1 - 1 = k := by omega
          rw [this, hst3]
      · refine over k ?_ ?_ hk (by omega)
        · rw [e, hst2]
        · rw [e', if_neg (by omega), hst2]

/-! ### The walk -/
theorem c_rise {s : Shr} {x : Int} (h : OkS s) (hx : -5001 ≤ x ∧ x ≤ 5001) : denC E 37 [AV.agg [PV.int .i64 s.lo, PV.int .i64 s.hi, PV.int .i64 s.c], AV.int .i64 x] [] = some ([RV.p (PV.int .i64 (nxt s x))], []) := by
  obtain ⟨_, _, _, h4, h5⟩ := h
  rw [denC_eq, r37, w64 (n := 2 * x) (by omega), w64 (n := 2 * x + 1) (by omega)]
  have h1 := mul_le (a := s.c) (b := 2 * x + 1) (m := 100) (n := 20000) (by omega) (by omega)
  rw [w64 (by omega)]
  rfl

theorem nth_ints' {y : List Int} {i : Nat} (h : i < y.length) : nth [] (intsK .i64 y) i = [PV.int .i64 (y.getD i 0)] := by
  rw [nth_eq]
  simp [intsK, List.getD, h]
theorem getE_shz {α : Type} {l : List Shr} {i : Int} (hi : 0 ≤ i ∧ i < l.length) (K : List PV → Option α) : getE (shK l) i K = K (shC (l.getD i.toNat shz)) := by
  unfold getE
  rw [shK_length]
  have h1 : leB 0 i = true := by simpa using hi.1
  have h2 : ltB i l.length = true := by simpa using hi.2
  rw [h1, h2]
  have hlt : i.toNat < l.length := by omega
  simp only [Bool.and_self, ctl_true]
  rw [nth_eq]
  simp [shK, List.getD, hlt]

theorem rd_init (total low goal : Int) (L : List Shr) : ∀ (l p : List Shr) (acc : List Int), L = p ++ l → acc.length = p.length → L.length ≤ 8 →
    lp E (denC E) 25 0 [] 0 { vals := [AV.sl 3 (shK L), AV.int .i64 total, AV.int .i64 low, AV.int .i64 goal, AV.sl 3 (shK L), AV.int .i64 (L.length : Int), AV.int .i64 (p.length : Int)], blks := [Blk.arr 1 (intsK .i64 acc)] } =
      some (Ex.exit 0, { vals := [AV.sl 3 (shK L), AV.int .i64 total, AV.int .i64 low, AV.int .i64 goal], blks := [Blk.arr 1 (intsK .i64 (acc ++ l.map Shr.lo))] })
  | [], p, acc, hL, ha, h8 => by
    have : L.length = p.length := by rw [hL]; simp
    rw [r25_0, ctl_dec, if_neg (by omega)]
    simp
  | s :: l, p, acc, hL, ha, h8 => by
    have ih := rd_init total low goal L l (p ++ [s]) (acc ++ [s.lo]) (by rw [hL]; simp) (by simp [ha]) h8
    have hlen : p.length < L.length := by rw [hL]; simp
    simp only [List.append_assoc, List.cons_append, List.nil_append, List.length_append, List.length_cons, List.length_nil] at ih
    have hg : ∀ {α : Type} (K : List PV → Option α), getE (shK L) (p.length : Int) K = K (shC s) := fun K => by rw [hL]; exact getE_mid p s l K
    rw [r25_0, ctl_dec, if_pos (by omega), hg]
    have hroom : (leN (((intsK .i64 acc).length + 1) * 8) 140737488355328) = true := by rw [intsK_length]; simp only [decide_eq_true_eq]; omega
    have e4 : intsK .i64 (acc ++ [s.lo]) = intsK .i64 acc ++ [[PV.int .i64 s.lo]] := by simp [intsK]
    simp only [shC, bnd_some, ctl_true, ctl_false, ctl_and, ctl_or', ctl_or2, x_toPV, x_toCs, x_toCs2, x_toEs, x_bEs, x_bCs, x_aPV, x_aCs, x_int, x_bool, x_str, x_es, x_esn, nth_0, nth_1, nth_2, nth_3, nth_4, nth_5, nth_6, nth_7, nth_8, nth_9, y_nil, y_int, y_bool, y_str, y_sl, y_nils, y_agg, y_ownp, y_own, z_nil, z_int, z_bool, z_str, z_sl, z_nils, b_nil, b_arr, b_box1, b_box2, b_box3, b_box4, List.map_cons, List.map_nil, Bool.and_self, Bool.and_true, Bool.true_and, Bool.not_true, Bool.not_false, Bool.or_false, Bool.false_or, cond_true, cond_false, okPack, okPut, okPutBlks, okPutCells, q_isP, q_isAg, q_isBox, q_isArr, q_int, q_bool, q_str, q_sl, q_nils, e_exit, e_ret, e_nrm, e_ret_exit, e_exit_ret, e_nrm_exit, e_nrm_ret, e_exit_nrm, e_ret_nrm, Nat.zero_add, Nat.reduceAdd, noslR, noslP, noslB, noslA, List.all_cons, List.all_nil, hroom]
    rw [w64 (n := (p.length : Int) + 1) (by omega)]
    have e1 : ((p.length : Int) + 1) = ((p.length + (0 + 1) : Nat) : Int) := by omega
    rw [e1, ← e4, ih]

theorem bs_loop (total goal n : Int) (L : List Shr) (X : List Int) (hX : X.length = L.length) (h8 : L.length ≤ 8) (hok : ∀ s ∈ L, OkS s) (hsm : ∀ x ∈ X, -5000 ≤ x ∧ x ≤ 5000) : ∀ (l p : List Shr) (xs px : List Int) (b : Int), L = p ++ l → X = px ++ xs → px.length = p.length → (b = -1 ∨ 0 ≤ b ∧ b < (p.length : Int)) →
    lp E (denC E) 25 0 [] 4 { vals := [AV.sl 3 (shK L), AV.int .i64 total, AV.int .i64 goal, AV.int .i64 n, AV.int .i64 b, AV.sl 3 (shK L), AV.int .i64 (L.length : Int), AV.int .i64 (p.length : Int)], blks := [Blk.arr 1 (intsK .i64 X)] } =
      some (Ex.exit 4, { vals := [AV.sl 3 (shK L), AV.int .i64 total, AV.int .i64 goal, AV.int .i64 n, AV.int .i64 (bsI L X l xs p.length b)], blks := [Blk.arr 1 (intsK .i64 X)] })
  | [], p, xs, px, b, hL, hXX, hp, hb => by
    have : L.length = p.length := by rw [hL]; simp
    rw [r25_4, ctl_dec, if_neg (by omega)]
    rfl
  | s :: l, p, [], px, b, hL, hXX, hp, hb => by
    have h1 : L.length = p.length + (l.length + 1) := by rw [hL]; simp
    have h2 : X.length = px.length := by rw [hXX]; simp
    omega
  | s :: l, p, x :: xs, px, b, hL, hXX, hp, hb => by
    have hlen : p.length < L.length := by rw [hL]; simp
    have ih := fun b hb => bs_loop total goal n L X hX h8 hok hsm l (p ++ [s]) xs (px ++ [x]) b (by rw [hL]; simp) (by rw [hXX]; simp) (by simp [hp]) hb
    simp only [List.length_append, List.length_cons, List.length_nil] at ih
    have hg : ∀ {α : Type} (K : List PV → Option α), getE (shK L) (p.length : Int) K = K (shC s) := fun K => by rw [hL]; exact getE_mid p s l K
    have hs : OkS s := hok s (by rw [hL]; simp)
    have hx : -5000 ≤ x ∧ x ≤ 5000 := hsm x (by rw [hXX]; simp)
    have gx : X.getD p.length 0 = x := by rw [hXX]; exact getD_app 0 px _ _ hp
    have hn : nth [] (intsK .i64 X) p.length = [PV.int .i64 x] := by rw [nth_ints' (by omega), gx]
    have c1 : leB 0 (p.length : Int) = true := by simp only [decide_eq_true_eq]; omega
    have c2 : ltB (p.length : Int) ((intsK .i64 X).length : Int) = true := by rw [intsK_length]; simp only [decide_eq_true_eq]; omega
    have e1 : ((p.length : Int) + 1) = ((p.length + (0 + 1) : Nat) : Int) := by omega
    have td : ∀ v : PV, List.take 1 (List.drop 0 [v]) = [v] := fun v => rfl
    have hr := c_rise hs (x := x) (by omega)
    unfold bsI
    rw [r25_4, ctl_dec, if_pos (by omega), hg]
    simp only [shC, bnd_some, ctl_true, ctl_false, ctl_and, ctl_or', ctl_or2, x_toPV, x_toCs, x_toCs2, x_toEs, x_bEs, x_bCs, x_aPV, x_aCs, x_int, x_bool, x_str, x_es, x_esn, nth_0, nth_1, nth_2, nth_3, nth_4, nth_5, nth_6, nth_7, nth_8, nth_9, y_nil, y_int, y_bool, y_str, y_sl, y_nils, y_agg, y_ownp, y_own, z_nil, z_int, z_bool, z_str, z_sl, z_nils, b_nil, b_arr, b_box1, b_box2, b_box3, b_box4, List.map_cons, List.map_nil, Bool.and_self, Bool.and_true, Bool.true_and, Bool.not_true, Bool.not_false, Bool.or_false, Bool.false_or, cond_true, cond_false, okPack, okPut, okPutBlks, okPutCells, q_isP, q_isAg, q_isBox, q_isArr, q_int, q_bool, q_str, q_sl, q_nils, e_exit, e_ret, e_nrm, e_ret_exit, e_exit_ret, e_nrm_exit, e_nrm_ret, e_exit_nrm, e_ret_nrm, Nat.zero_add, Nat.reduceAdd, noslR, noslP, noslB, noslA, List.all_cons, List.all_nil, c1, c2, Int.toNat_natCast, hn, td]
    rw [w64 (n := (p.length : Int) + 1) (by omega), e1]
    by_cases h1 : x < s.hi
    · have f1 : ltB x s.hi = true := by simpa using h1
      simp only [f1, bnd_some, ctl_true, ctl_false, ctl_and, ctl_or', ctl_or2, x_toPV, x_toCs, x_toCs2, x_toEs, x_bEs, x_bCs, x_aPV, x_aCs, x_int, x_bool, x_str, x_es, x_esn, nth_0, nth_1, nth_2, nth_3, nth_4, nth_5, nth_6, nth_7, nth_8, nth_9, y_nil, y_int, y_bool, y_str, y_sl, y_nils, y_agg, y_ownp, y_own, z_nil, z_int, z_bool, z_str, z_sl, z_nils, b_nil, b_arr, b_box1, b_box2, b_box3, b_box4, List.map_cons, List.map_nil, Bool.and_self, Bool.and_true, Bool.true_and, Bool.not_true, Bool.not_false, Bool.or_false, Bool.false_or, cond_true, cond_false, okPack, okPut, okPutBlks, okPutCells, q_isP, q_isAg, q_isBox, q_isArr, q_int, q_bool, q_str, q_sl, q_nils, e_exit, e_ret, e_nrm, e_ret_exit, e_exit_ret, e_nrm_exit, e_nrm_ret, e_exit_nrm, e_ret_nrm, Nat.zero_add, Nat.reduceAdd, noslR, noslP, noslB, noslA, List.all_cons, List.all_nil]
      rcases hb with rfl | ⟨hb0, hb1⟩
      · have f2 : ltB (-1 : Int) 0 = true := by decide
        rw [if_pos ⟨h1, .inl (by omega)⟩]
        simp only [f2, bnd_some, ctl_true, ctl_false, ctl_and, ctl_or', ctl_or2, x_toPV, x_toCs, x_toCs2, x_toEs, x_bEs, x_bCs, x_aPV, x_aCs, x_int, x_bool, x_str, x_es, x_esn, nth_0, nth_1, nth_2, nth_3, nth_4, nth_5, nth_6, nth_7, nth_8, nth_9, y_nil, y_int, y_bool, y_str, y_sl, y_nils, y_agg, y_ownp, y_own, z_nil, z_int, z_bool, z_str, z_sl, z_nils, b_nil, b_arr, b_box1, b_box2, b_box3, b_box4, List.map_cons, List.map_nil, Bool.and_self, Bool.and_true, Bool.true_and, Bool.not_true, Bool.not_false, Bool.or_false, Bool.false_or, cond_true, cond_false, okPack, okPut, okPutBlks, okPutCells, q_isP, q_isAg, q_isBox, q_isArr, q_int, q_bool, q_str, q_sl, q_nils, e_exit, e_ret, e_nrm, e_ret_exit, e_exit_ret, e_nrm_exit, e_nrm_ret, e_exit_nrm, e_ret_nrm, Nat.zero_add, Nat.reduceAdd, noslR, noslP, noslB, noslA, List.all_cons, List.all_nil]
        exact ih (p.length : Int) (.inr (by omega))
      · have f2 : ltB b 0 = false := by simp only [decide_eq_false_iff_not]; omega
        have f3 : leB 0 b = true := by simp only [decide_eq_true_eq]; omega
        have f4 : ltB b ((intsK .i64 X).length : Int) = true := by rw [intsK_length]; simp only [decide_eq_true_eq]; omega
        have hbn : b.toNat < L.length := by omega
        have hbm : L.getD b.toNat shz ∈ L := by
          simp only [List.getD, List.getElem?_eq_getElem hbn, Option.getD_some]
          exact List.getElem_mem _
        have hbx : X.getD b.toNat 0 ∈ X := by
          have : b.toNat < X.length := by omega
          simp only [List.getD, List.getElem?_eq_getElem this, Option.getD_some]
          exact List.getElem_mem _
        have hr2 := c_rise (hok _ hbm) (x := X.getD b.toNat 0) (by have := hsm _ hbx; omega)
        have hn2 : nth [] (intsK .i64 X) b.toNat = [PV.int .i64 (X.getD b.toNat 0)] := nth_ints' (by omega)
        simp only [f2, bnd_some, ctl_true, ctl_false, ctl_and, ctl_or', ctl_or2, x_toPV, x_toCs, x_toCs2, x_toEs, x_bEs, x_bCs, x_aPV, x_aCs, x_int, x_bool, x_str, x_es, x_esn, nth_0, nth_1, nth_2, nth_3, nth_4, nth_5, nth_6, nth_7, nth_8, nth_9, y_nil, y_int, y_bool, y_str, y_sl, y_nils, y_agg, y_ownp, y_own, z_nil, z_int, z_bool, z_str, z_sl, z_nils, b_nil, b_arr, b_box1, b_box2, b_box3, b_box4, List.map_cons, List.map_nil, Bool.and_self, Bool.and_true, Bool.true_and, Bool.not_true, Bool.not_false, Bool.or_false, Bool.false_or, cond_true, cond_false, okPack, okPut, okPutBlks, okPutCells, q_isP, q_isAg, q_isBox, q_isArr, q_int, q_bool, q_str, q_sl, q_nils, e_exit, e_ret, e_nrm, e_ret_exit, e_exit_ret, e_nrm_exit, e_nrm_ret, e_exit_nrm, e_ret_nrm, Nat.zero_add, Nat.reduceAdd, noslR, noslP, noslB, noslA, List.all_cons, List.all_nil]
        rw [hr]
        simp only [bnd_some, ctl_true, ctl_false, ctl_and, ctl_or', ctl_or2, x_toPV, x_toCs, x_toCs2, x_toEs, x_bEs, x_bCs, x_aPV, x_aCs, x_int, x_bool, x_str, x_es, x_esn, nth_0, nth_1, nth_2, nth_3, nth_4, nth_5, nth_6, nth_7, nth_8, nth_9, y_nil, y_int, y_bool, y_str, y_sl, y_nils, y_agg, y_ownp, y_own, z_nil, z_int, z_bool, z_str, z_sl, z_nils, b_nil, b_arr, b_box1, b_box2, b_box3, b_box4, List.map_cons, List.map_nil, Bool.and_self, Bool.and_true, Bool.true_and, Bool.not_true, Bool.not_false, Bool.or_false, Bool.false_or, cond_true, cond_false, okPack, okPut, okPutBlks, okPutCells, q_isP, q_isAg, q_isBox, q_isArr, q_int, q_bool, q_str, q_sl, q_nils, e_exit, e_ret, e_nrm, e_ret_exit, e_exit_ret, e_nrm_exit, e_nrm_ret, e_exit_nrm, e_ret_nrm, Nat.zero_add, Nat.reduceAdd, noslR, noslP, noslB, noslA, List.all_cons, List.all_nil]
        rw [getE_shz (by omega)]
        simp only [shC, bnd_some, ctl_true, ctl_false, ctl_and, ctl_or', ctl_or2, x_toPV, x_toCs, x_toCs2, x_toEs, x_bEs, x_bCs, x_aPV, x_aCs, x_int, x_bool, x_str, x_es, x_esn, nth_0, nth_1, nth_2, nth_3, nth_4, nth_5, nth_6, nth_7, nth_8, nth_9, y_nil, y_int, y_bool, y_str, y_sl, y_nils, y_agg, y_ownp, y_own, z_nil, z_int, z_bool, z_str, z_sl, z_nils, b_nil, b_arr, b_box1, b_box2, b_box3, b_box4, List.map_cons, List.map_nil, Bool.and_self, Bool.and_true, Bool.true_and, Bool.not_true, Bool.not_false, Bool.or_false, Bool.false_or, cond_true, cond_false, okPack, okPut, okPutBlks, okPutCells, q_isP, q_isAg, q_isBox, q_isArr, q_int, q_bool, q_str, q_sl, q_nils, e_exit, e_ret, e_nrm, e_ret_exit, e_exit_ret, e_nrm_exit, e_nrm_ret, e_exit_nrm, e_ret_nrm, Nat.zero_add, Nat.reduceAdd, noslR, noslP, noslB, noslA, List.all_cons, List.all_nil, f3, f4, hn2, td]
        rw [hr2]
        simp only [bnd_some, ctl_true, ctl_false, ctl_and, ctl_or', ctl_or2, x_toPV, x_toCs, x_toCs2, x_toEs, x_bEs, x_bCs, x_aPV, x_aCs, x_int, x_bool, x_str, x_es, x_esn, nth_0, nth_1, nth_2, nth_3, nth_4, nth_5, nth_6, nth_7, nth_8, nth_9, y_nil, y_int, y_bool, y_str, y_sl, y_nils, y_agg, y_ownp, y_own, z_nil, z_int, z_bool, z_str, z_sl, z_nils, b_nil, b_arr, b_box1, b_box2, b_box3, b_box4, List.map_cons, List.map_nil, Bool.and_self, Bool.and_true, Bool.true_and, Bool.not_true, Bool.not_false, Bool.or_false, Bool.false_or, cond_true, cond_false, okPack, okPut, okPutBlks, okPutCells, q_isP, q_isAg, q_isBox, q_isArr, q_int, q_bool, q_str, q_sl, q_nils, e_exit, e_ret, e_nrm, e_ret_exit, e_exit_ret, e_nrm_exit, e_nrm_ret, e_exit_nrm, e_ret_nrm, Nat.zero_add, Nat.reduceAdd, noslR, noslP, noslB, noslA, List.all_cons, List.all_nil]
        by_cases h2 : nxt s x < nxt (L.getD b.toNat shz) (X.getD b.toNat 0)
        · have f5 : ltB (nxt s x) (nxt (L.getD b.toNat shz) (X.getD b.toNat 0)) = true := by simpa using h2
          rw [if_pos ⟨h1, .inr h2⟩, f5]
          simp only [bnd_some, ctl_true, ctl_false, ctl_and, ctl_or', ctl_or2, x_toPV, x_toCs, x_toCs2, x_toEs, x_bEs, x_bCs, x_aPV, x_aCs, x_int, x_bool, x_str, x_es, x_esn, nth_0, nth_1, nth_2, nth_3, nth_4, nth_5, nth_6, nth_7, nth_8, nth_9, y_nil, y_int, y_bool, y_str, y_sl, y_nils, y_agg, y_ownp, y_own, z_nil, z_int, z_bool, z_str, z_sl, z_nils, b_nil, b_arr, b_box1, b_box2, b_box3, b_box4, List.map_cons, List.map_nil, Bool.and_self, Bool.and_true, Bool.true_and, Bool.not_true, Bool.not_false, Bool.or_false, Bool.false_or, cond_true, cond_false, okPack, okPut, okPutBlks, okPutCells, q_isP, q_isAg, q_isBox, q_isArr, q_int, q_bool, q_str, q_sl, q_nils, e_exit, e_ret, e_nrm, e_ret_exit, e_exit_ret, e_nrm_exit, e_nrm_ret, e_exit_nrm, e_ret_nrm, Nat.zero_add, Nat.reduceAdd, noslR, noslP, noslB, noslA, List.all_cons, List.all_nil]
          exact ih (p.length : Int) (.inr (by omega))
        · have f5 : ltB (nxt s x) (nxt (L.getD b.toNat shz) (X.getD b.toNat 0)) = false := by simpa using h2
          rw [if_neg (by rintro ⟨_, h | h⟩ <;> omega), f5]
          simp only [bnd_some, ctl_true, ctl_false, ctl_and, ctl_or', ctl_or2, x_toPV, x_toCs, x_toCs2, x_toEs, x_bEs, x_bCs, x_aPV, x_aCs, x_int, x_bool, x_str, x_es, x_esn, nth_0, nth_1, nth_2, nth_3, nth_4, nth_5, nth_6, nth_7, nth_8, nth_9, y_nil, y_int, y_bool, y_str, y_sl, y_nils, y_agg, y_ownp, y_own, z_nil, z_int, z_bool, z_str, z_sl, z_nils, b_nil, b_arr, b_box1, b_box2, b_box3, b_box4, List.map_cons, List.map_nil, Bool.and_self, Bool.and_true, Bool.true_and, Bool.not_true, Bool.not_false, Bool.or_false, Bool.false_or, cond_true, cond_false, okPack, okPut, okPutBlks, okPutCells, q_isP, q_isAg, q_isBox, q_isArr, q_int, q_bool, q_str, q_sl, q_nils, e_exit, e_ret, e_nrm, e_ret_exit, e_exit_ret, e_nrm_exit, e_nrm_ret, e_exit_nrm, e_ret_nrm, Nat.zero_add, Nat.reduceAdd, noslR, noslP, noslB, noslA, List.all_cons, List.all_nil]
          exact ih b (.inr (by omega))
    · have f1 : ltB x s.hi = false := by simpa using h1
      rw [if_neg (fun h => h1 h.1)]
      simp only [f1, bnd_some, ctl_true, ctl_false, ctl_and, ctl_or', ctl_or2, x_toPV, x_toCs, x_toCs2, x_toEs, x_bEs, x_bCs, x_aPV, x_aCs, x_int, x_bool, x_str, x_es, x_esn, nth_0, nth_1, nth_2, nth_3, nth_4, nth_5, nth_6, nth_7, nth_8, nth_9, y_nil, y_int, y_bool, y_str, y_sl, y_nils, y_agg, y_ownp, y_own, z_nil, z_int, z_bool, z_str, z_sl, z_nils, b_nil, b_arr, b_box1, b_box2, b_box3, b_box4, List.map_cons, List.map_nil, Bool.and_self, Bool.and_true, Bool.true_and, Bool.not_true, Bool.not_false, Bool.or_false, Bool.false_or, cond_true, cond_false, okPack, okPut, okPutBlks, okPutCells, q_isP, q_isAg, q_isBox, q_isArr, q_int, q_bool, q_str, q_sl, q_nils, e_exit, e_ret, e_nrm, e_ret_exit, e_exit_ret, e_nrm_exit, e_nrm_ret, e_exit_nrm, e_ret_nrm, Nat.zero_add, Nat.reduceAdd, noslR, noslP, noslB, noslA, List.all_cons, List.all_nil]
      exact ih b (by omega)

theorem fill_small {r : Int} : ∀ {l : List Shr} {k : Int}, (∀ s ∈ l, OkS s) → ∀ x ∈ fillK r l k, -5000 ≤ x ∧ x ≤ 5000
  | [], _, _, x, hx => by cases hx
  | s :: l, k, hs, x, hx => by
    have hk := hs s (List.mem_cons_self ..)
    obtain ⟨y, m, e, a1, a2, _⟩ := fillK_at r hk k
    have i1 := nP_in (p := r) hk
    have i2 := nP_in (p := r - 1) hk
    unfold OkS at hk
    rw [e] at hx
    rcases List.mem_cons.1 hx with rfl | hx
    · omega
    · exact fill_small (fun z hz => hs z (List.mem_cons_of_mem _ hz)) x hx

theorem rd_loop {L : List Shr} (h : OkL L) (total goal : Int) (hg : goal ≤ highs L) : ∀ (m : Nat) (n r : Int), n + m = goal → Wide L n r →
    ∃ q, Wide L goal q ∧ lp E (denC E) 25 0 [] 2 { vals := [AV.sl 3 (shK L), AV.int .i64 total, AV.int .i64 goal, AV.int .i64 n], blks := [Blk.arr 1 (intsK .i64 (fillK r L (n - SP L (r - 1))))] } =
      some (Ex.exit 2, { vals := [AV.int .i64 total, AV.int .i64 goal], blks := [Blk.arr 1 (intsK .i64 (fillK q L (goal - SP L (q - 1))))] })
  | 0, n, r, hn, hw => by
    have e : n = goal := by omega
    subst e
    refine ⟨r, hw, ?_⟩
    rw [r25_2, ctl_dec, if_neg (by omega)]
  | m + 1, n, r, hn, hw => by
    have he := ends_in h.2
    have h8 := h.1
    -- a price with a step
    obtain ⟨q, hq, hq2⟩ : ∃ q, Wide L n q ∧ n < SP L q := by
      by_cases hlt : n < SP L r
      · exact ⟨r, hw, hlt⟩
      · have e : n = SP L r := by unfold Wide at hw; omega
        obtain ⟨q, q1, q2, q3⟩ := next_price h.2 (1000200 - r).toNat r (by omega) (by omega)
        exact ⟨q, ⟨by omega, by omega⟩, by omega⟩
    rw [wide_uniq h.2 hw hq]
    have hin := SP_in (q - 1) h.2
    have hqw := hq
    unfold Wide at hqw
    obtain ⟨q', hq', ih⟩ := rd_loop h total goal hg m (n + 1) q (by omega) ⟨by unfold Wide at hq; omega, by omega⟩
    refine ⟨q', hq', ?_⟩
    generalize hX : fillK q L (n - SP L (q - 1)) = X
    have hXl : X.length = L.length := by rw [← hX]; exact fillK_length q L _
    have hXs : ∀ x ∈ X, -5000 ≤ x ∧ x ≤ 5000 := by rw [← hX]; exact fill_small h.2
    obtain ⟨j, j1, j2, j3⟩ := bs_fill L X q L [] [] (n - SP L (q - 1)) (-1) rfl (by rw [hX]; rfl) rfl h.2 (by unfold Wide at hq; omega) (by omega) (.inl (by omega))
    have hbs := bs_loop total goal n L X hXl h8 h.2 hXs L [] X [] (-1) rfl rfl rfl (.inl rfl)
    rw [hX] at j2 j3
    simp only [List.length_nil, Nat.zero_add] at j2 hbs
    rw [j2] at hbs
    have e0 : (((0 : Nat)) : Int) = 0 := rfl
    rw [e0] at hbs
    have ek : n - SP L (q - 1) + 1 = n + 1 - SP L (q - 1) := by omega
    rw [ek] at j3
    have hjx : X.getD j 0 ∈ X := by
      have : j < X.length := by omega
      simp only [List.getD, List.getElem?_eq_getElem this, Option.getD_some]
      exact List.getElem_mem _
    have hj := hXs _ hjx
    have c1 : leB 0 (j : Int) = true := by simp only [decide_eq_true_eq]; omega
    have c2 : ltB (j : Int) ((intsK .i64 X).length : Int) = true := by rw [intsK_length]; simp only [decide_eq_true_eq]; omega
    have hn2 : nth [] (intsK .i64 X) j = [PV.int .i64 (X.getD j 0)] := nth_ints' (by omega)
    have td : ∀ v : PV, List.take 1 (List.drop 0 [v]) = [v] := fun v => rfl
    rw [r25_2, ctl_dec, if_pos (by omega), shK_length, hbs]
    simp only [bnd_some, ctl_true, ctl_false, ctl_and, ctl_or', ctl_or2, x_toPV, x_toCs, x_toCs2, x_toEs, x_bEs, x_bCs, x_aPV, x_aCs, x_int, x_bool, x_str, x_es, x_esn, nth_0, nth_1, nth_2, nth_3, nth_4, nth_5, nth_6, nth_7, nth_8, nth_9, y_nil, y_int, y_bool, y_str, y_sl, y_nils, y_agg, y_ownp, y_own, z_nil, z_int, z_bool, z_str, z_sl, z_nils, b_nil, b_arr, b_box1, b_box2, b_box3, b_box4, List.map_cons, List.map_nil, Bool.and_self, Bool.and_true, Bool.true_and, Bool.not_true, Bool.not_false, Bool.or_false, Bool.false_or, cond_true, cond_false, okPack, okPut, okPutBlks, okPutCells, q_isP, q_isAg, q_isBox, q_isArr, q_int, q_bool, q_str, q_sl, q_nils, e_exit, e_ret, e_nrm, e_ret_exit, e_exit_ret, e_nrm_exit, e_nrm_ret, e_exit_nrm, e_ret_nrm, Nat.zero_add, Nat.reduceAdd, noslR, noslP, noslB, noslA, List.all_cons, List.all_nil, c1, c2, Int.toNat_natCast, hn2, td]
    rw [w64 (n := X.getD j 0 + 1) (by omega), w64 (n := n + 1) (by omega), setEs_ints (by omega), j3]
    exact ih

theorem c_RDivide {l : List Shr} (h : OkL l) {total : Int} (ht : -500000 ≤ total ∧ total ≤ 500000) {r : Int} (hr : IsP l (clamp total (lows l) (highs l)) r) :
    denC E 25 [AV.sl 3 (shK l), AV.int .i64 total] [] = some ([RV.p (PV.sl 1 (intsK .i64 (divL l (clamp total (lows l) (highs l)) r))), RV.p (PV.int .i64 (total - clamp total (lows l) (highs l))), RV.p (PV.int .i64 0)], []) := by
  have he := ends_in h.2
  have h8 := h.1
  have hT := clamp_in (x := total) he.2.1
  have hb := SP_bot (p := -1000200 - 1) (by omega) h.2
  have hb2 := SP_mono (show (-1000200 : Int) - 1 ≤ -1000200 by omega) h.2
  have e1 : minI (highs l) (maxI (lows l) total) = clamp total (lows l) (highs l) := by
    rw [clamp_eq]
    unfold minI maxI
    split <;> split <;> (try split) <;> omega
  generalize hTe : clamp total (lows l) (highs l) = T at *
  obtain ⟨q, q1, q2⟩ := rd_loop h total T hT.2 (T - lows l).toNat (lows l) (-1000200) (by omega) ⟨by omega, by omega⟩
  have ez : lows l - SP l (-1000200 - 1) = 0 := by omega
  rw [ez, fill_zero] at q2
  have em : l.map (nP (-1000200 - 1)) = l.map Shr.lo := List.map_congr_left fun s hs => nP_bot (h.2 s hs) (by omega)
  rw [em, wide_uniq h.2 q1 (IsP.le h hT hr), ← divL_eq h] at q2
  have hi := rd_init total (lows l) T l l [] [] rfl rfl h8
  have ei : intsK .i64 [] = [] := rfl
  have e0 : (((0 : Nat)) : Int) = 0 := rfl
  simp only [List.nil_append, List.length_nil] at hi
  rw [ei, e0] at hi
  have k0 : ((0 : Int) != 0) = false := rfl
  have k1 : ltB total (-500000) = false := by simp; omega
  have k2 : ltB 500000 total = false := by simp; omega
  rw [denC_eq, r25, c_RReach h]
  simp only [bnd_some, ctl_true, ctl_false, ctl_and, ctl_or', ctl_or2, x_toPV, x_toCs, x_toCs2, x_toEs, x_bEs, x_bCs, x_aPV, x_aCs, x_int, x_bool, x_str, x_es, x_esn, nth_0, nth_1, nth_2, nth_3, nth_4, nth_5, nth_6, nth_7, nth_8, nth_9, y_nil, y_int, y_bool, y_str, y_sl, y_nils, y_agg, y_ownp, y_own, z_nil, z_int, z_bool, z_str, z_sl, z_nils, b_nil, b_arr, b_box1, b_box2, b_box3, b_box4, List.map_cons, List.map_nil, Bool.and_self, Bool.and_true, Bool.true_and, Bool.not_true, Bool.not_false, Bool.or_false, Bool.false_or, cond_true, cond_false, okPack, okPut, okPutBlks, okPutCells, q_isP, q_isAg, q_isBox, q_isArr, q_int, q_bool, q_str, q_sl, q_nils, e_exit, e_ret, e_nrm, e_ret_exit, e_exit_ret, e_nrm_exit, e_nrm_ret, e_exit_nrm, e_ret_nrm, Nat.zero_add, Nat.reduceAdd, noslR, noslP, noslB, noslA, List.all_cons, List.all_nil, k0, k1, k2, e1, shK_length]
  rw [hi]
  simp only [bnd_some, ctl_true, ctl_false, ctl_and, ctl_or', ctl_or2, x_toPV, x_toCs, x_toCs2, x_toEs, x_bEs, x_bCs, x_aPV, x_aCs, x_int, x_bool, x_str, x_es, x_esn, nth_0, nth_1, nth_2, nth_3, nth_4, nth_5, nth_6, nth_7, nth_8, nth_9, y_nil, y_int, y_bool, y_str, y_sl, y_nils, y_agg, y_ownp, y_own, z_nil, z_int, z_bool, z_str, z_sl, z_nils, b_nil, b_arr, b_box1, b_box2, b_box3, b_box4, List.map_cons, List.map_nil, Bool.and_self, Bool.and_true, Bool.true_and, Bool.not_true, Bool.not_false, Bool.or_false, Bool.false_or, cond_true, cond_false, okPack, okPut, okPutBlks, okPutCells, q_isP, q_isAg, q_isBox, q_isArr, q_int, q_bool, q_str, q_sl, q_nils, e_exit, e_ret, e_nrm, e_ret_exit, e_exit_ret, e_nrm_exit, e_nrm_ret, e_exit_nrm, e_ret_nrm, Nat.zero_add, Nat.reduceAdd, noslR, noslP, noslB, noslA, List.all_cons, List.all_nil]
  rw [q2]
  simp only [bnd_some, ctl_true, ctl_false, ctl_and, ctl_or', ctl_or2, x_toPV, x_toCs, x_toCs2, x_toEs, x_bEs, x_bCs, x_aPV, x_aCs, x_int, x_bool, x_str, x_es, x_esn, nth_0, nth_1, nth_2, nth_3, nth_4, nth_5, nth_6, nth_7, nth_8, nth_9, y_nil, y_int, y_bool, y_str, y_sl, y_nils, y_agg, y_ownp, y_own, z_nil, z_int, z_bool, z_str, z_sl, z_nils, b_nil, b_arr, b_box1, b_box2, b_box3, b_box4, List.map_cons, List.map_nil, Bool.and_self, Bool.and_true, Bool.true_and, Bool.not_true, Bool.not_false, Bool.or_false, Bool.false_or, cond_true, cond_false, okPack, okPut, okPutBlks, okPutCells, q_isP, q_isAg, q_isBox, q_isArr, q_int, q_bool, q_str, q_sl, q_nils, e_exit, e_ret, e_nrm, e_ret_exit, e_exit_ret, e_nrm_exit, e_nrm_ret, e_exit_nrm, e_ret_nrm, Nat.zero_add, Nat.reduceAdd, noslR, noslP, noslB, noslA, List.all_cons, List.all_nil]
  rw [w64 (n := total - T) (by omega)]

end Go.Proofs.Ytbacfgghneknjaa.Vm
