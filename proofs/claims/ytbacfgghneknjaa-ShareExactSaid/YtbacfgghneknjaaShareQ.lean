/- Sum, Check and the theorem of the certificate. -/
import Derived.Test.YtbacfgghneknjaaShareP
namespace Go.Proofs.Ytbacfgghneknjaa.Vm
set_option linter.unusedVariables false
set_option linter.unusedSimpArgs false

def costS : List Shr → List Int → Int
  | s :: l, x :: xs => s.c * x * x + costS l xs
  | _, _ => 0

theorem sq_le {s : Shr} {x : Int} (h : OkS s) (h1 : s.lo ≤ x) (h2 : x ≤ s.hi) : -500000 ≤ s.c * x ∧ s.c * x ≤ 500000 ∧ 0 ≤ s.c * x * x ∧ s.c * x * x ≤ 2500000000 := by
  obtain ⟨a, b, c, d, e⟩ := h
  have m1 := mul_le (a := s.c) (b := x) (m := 100) (n := 5000) (by omega) (by omega)
  have m2 := mul_le (a := s.c * x) (b := x) (m := 500000) (n := 5000) (by omega) (by omega)
  have m3 : 0 ≤ s.c * x * x := by
    rw [Int.mul_assoc]
    refine Int.mul_nonneg (by omega) ?_
    rcases Int.le_total 0 x with h | h
    · exact Int.mul_nonneg h h
    · exact Int.mul_nonneg_of_nonpos_of_nonpos h h
  omega

theorem sum_loop : ∀ (l : List Shr) (x : List Int) (p : List Shr) (px : List Int) (n : Int), px.length = p.length → (p ++ l).length ≤ 8 → (∀ s ∈ l, OkS s) → InR l x →
    0 ≤ n ∧ n ≤ 2500000000 * (p.length : Int) →
    lp E (denC E) 16 0 [] 1 { vals := [AV.sl 1 (intsK .i64 (px ++ x)), AV.int .i64 n, AV.sl 3 (shK (p ++ l)), AV.int .i64 ((p ++ l).length : Int), AV.int .i64 (p.length : Int)], blks := [] } =
      some (Ex.exit 1, { vals := [AV.int .i64 (n + costS l x)], blks := [] })
  | [], [], p, px, n, hx, hl, _, h, _ => by
    rw [r16_1, ctl_dec, if_neg (by simp)]
    simp [costS]
  | s :: l, x :: xs, p, px, n, hx, hl, hs, h, hn => by
    obtain ⟨⟨a1, a2⟩, h⟩ := h
    have hk := sq_le (hs s (List.mem_cons_self ..)) a1 a2
    simp only [List.length_append, List.length_cons] at hl
    rw [r16_1, ctl_dec, if_pos (by simp; omega)]
    simp only [getE_mid, getE_imid px x xs hx]
    have ih := sum_loop l xs (p ++ [s]) (px ++ [x]) (n + s.c * x * x) (by simp [hx]) (by simp; omega) (fun y hy => hs y (List.mem_cons_of_mem _ hy)) h (by simp; omega)
    simp only [List.append_assoc, List.cons_append, List.nil_append, List.length_append, List.length_cons, List.length_nil] at ih
    simp only [List.length_append, List.length_cons, shC, bnd_some, ctl_true, ctl_false, ctl_and, ctl_or', ctl_or2, x_toPV, x_toCs, x_toCs2, x_toEs, x_bEs, x_bCs, x_aPV, x_aCs, x_int, x_bool, x_str, x_es, x_esn, nth_0, nth_1, nth_2, nth_3, nth_4, nth_5, nth_6, nth_7, nth_8, nth_9, y_nil, y_int, y_bool, y_str, y_sl, y_nils, y_agg, y_ownp, y_own, z_nil, z_int, z_bool, z_str, z_sl, z_nils, b_nil, b_arr, b_box1, b_box2, b_box3, b_box4, List.map_cons, List.map_nil, Bool.and_self, Bool.and_true, Bool.true_and, Bool.not_true, Bool.not_false, Bool.or_false, Bool.false_or, cond_true, cond_false, okPack, okPut, okPutBlks, okPutCells, q_isP, q_isAg, q_isBox, q_isArr, q_int, q_bool, q_str, q_sl, q_nils, e_exit, e_ret, e_nrm, e_ret_exit, e_exit_ret, e_nrm_exit, e_nrm_ret, e_exit_nrm, e_ret_nrm, Nat.zero_add, Nat.reduceAdd, noslR, noslP, noslB, noslA, List.all_cons, List.all_nil]
    rw [w64 (n := s.c * x) (by omega), w64 (n := s.c * x * x) (by omega), w64 (n := n + s.c * x * x) (by omega), w64 (n := (p.length : Int) + 1) (by omega)]
    have e1 : ((p.length : Int) + 1) = ((p.length + (0 + 1) : Nat) : Int) := by omega
    rw [e1, ih]
    simp only [costS, Int.add_assoc]
  | [], _ :: _, _, _, _, _, _, _, h, _ => h.elim
  | _ :: _, [], _, _, _, _, _, _, h, _ => h.elim

theorem c_Sum {l : List Shr} {x : List Int} (h : OkL l) (hx : InR l x) : denC E 16 [AV.sl 3 (shK l), AV.sl 1 (intsK .i64 x)] [] = some ([RV.p (PV.int .i64 (costS l x)), RV.p (PV.int .i64 0)], []) := by
  rw [denC_eq, r16, c_Valid, validN_ok.2 h, c_ranged h hx, shK_length, intsK_length, hx.length]
  have hl := sum_loop l x [] [] 0 rfl (by simpa using h.1) h.2 hx (by simp)
  simp only [List.nil_append, List.length_nil, Int.zero_add] at hl
  have e0 : (((0 : Nat)) : Int) = 0 := rfl
  rw [e0] at hl
  have z : ((0 : Int) != 0) = false := rfl
  simp only [bnd_some, ctl_true, ctl_false, ctl_and, ctl_or', ctl_or2, x_toPV, x_toCs, x_toCs2, x_toEs, x_bEs, x_bCs, x_aPV, x_aCs, x_int, x_bool, x_str, x_es, x_esn, nth_0, nth_1, nth_2, nth_3, nth_4, nth_5, nth_6, nth_7, nth_8, nth_9, y_nil, y_int, y_bool, y_str, y_sl, y_nils, y_agg, y_ownp, y_own, z_nil, z_int, z_bool, z_str, z_sl, z_nils, b_nil, b_arr, b_box1, b_box2, b_box3, b_box4, List.map_cons, List.map_nil, Bool.and_self, Bool.and_true, Bool.true_and, Bool.not_true, Bool.not_false, Bool.or_false, Bool.false_or, cond_true, cond_false, okPack, okPut, okPutBlks, okPutCells, q_isP, q_isAg, q_isBox, q_isArr, q_int, q_bool, q_str, q_sl, q_nils, e_exit, e_ret, e_nrm, e_ret_exit, e_exit_ret, e_nrm_exit, e_nrm_ret, e_exit_nrm, e_ret_nrm, Nat.zero_add, Nat.reduceAdd, noslR, noslP, noslB, noslA, List.all_cons, List.all_nil, z, bne_self_eq_false]
  rw [hl]
  simp only [bnd_some, ctl_true, ctl_false, ctl_and, ctl_or', ctl_or2, x_toPV, x_toCs, x_toCs2, x_toEs, x_bEs, x_bCs, x_aPV, x_aCs, x_int, x_bool, x_str, x_es, x_esn, nth_0, nth_1, nth_2, nth_3, nth_4, nth_5, nth_6, nth_7, nth_8, nth_9, y_nil, y_int, y_bool, y_str, y_sl, y_nils, y_agg, y_ownp, y_own, z_nil, z_int, z_bool, z_str, z_sl, z_nils, b_nil, b_arr, b_box1, b_box2, b_box3, b_box4, List.map_cons, List.map_nil, Bool.and_self, Bool.and_true, Bool.true_and, Bool.not_true, Bool.not_false, Bool.or_false, Bool.false_or, cond_true, cond_false, okPack, okPut, okPutBlks, okPutCells, q_isP, q_isAg, q_isBox, q_isArr, q_int, q_bool, q_str, q_sl, q_nils, e_exit, e_ret, e_nrm, e_ret_exit, e_exit_ret, e_nrm_exit, e_nrm_ret, e_exit_nrm, e_ret_nrm, Nat.zero_add, Nat.reduceAdd, noslR, noslP, noslB, noslA, List.all_cons, List.all_nil]

theorem InR.bound : ∀ {l : List Shr} {x : List Int}, (∀ s ∈ l, OkS s) → InR l x → ∀ y ∈ x, -5000 ≤ y ∧ y ≤ 5000
  | [], [], _, _, _, h => by cases h
  | s :: l, x :: xs, hs, h, y, hy => by
    rcases List.mem_cons.1 hy with rfl | hy
    · have := hs s (List.mem_cons_self ..)
      have h1 := h.1
      unfold OkS at this
      omega
    · exact InR.bound (fun z hz => hs z (List.mem_cons_of_mem _ hz)) h.2 y hy
  | [], _ :: _, _, h, _, _ => h.elim
  | _ :: _, [], _, h, _, _ => h.elim

theorem check_loop {l0 : List (List PV)} {total a b : Int} {z : List Int} (hz : z.length ≤ 8) : ∀ (l d : List Int) (n : Int), d ++ l = z → (∀ y ∈ l, -5000 ≤ y ∧ y ≤ 5000) → -5000 * (d.length : Int) ≤ n ∧ n ≤ 5000 * (d.length : Int) →
    lp E (denC E) 28 0 [] 0 { vals := [AV.sl 3 l0, AV.int .i64 total, AV.sl 1 (intsK .i64 z), AV.int .i64 a, AV.int .i64 b, AV.int .i64 n, AV.sl 1 (intsK .i64 z), AV.int .i64 (z.length : Int), AV.int .i64 (d.length : Int)], blks := [] } =
      some (Ex.exit 0, { vals := [AV.sl 3 l0, AV.int .i64 total, AV.sl 1 (intsK .i64 z), AV.int .i64 a, AV.int .i64 b, AV.int .i64 (n + sumI l)], blks := [] })
  | [], d, n, hd, _, _ => by
    rw [r28_0, ctl_dec, if_neg (by rw [← hd]; simp)]
    simp [sumI]
  | u :: l, d, n, hd, hu, hn => by
    have hk := hu u (List.mem_cons_self ..)
    have hlt : d.length < z.length := by rw [← hd]; simp
    rw [r28_0, ctl_dec, if_pos (by omega), getE_ints (by omega)]
    have e1 : z.getD ((d.length : Int)).toNat 0 = u := by rw [← hd]; simp [List.getD]
    rw [e1]
    simp only [bnd_some, ctl_true, ctl_false, ctl_and, ctl_or', ctl_or2, x_toPV, x_toCs, x_toCs2, x_toEs, x_bEs, x_bCs, x_aPV, x_aCs, x_int, x_bool, x_str, x_es, x_esn, nth_0, nth_1, nth_2, nth_3, nth_4, nth_5, nth_6, nth_7, nth_8, nth_9, y_nil, y_int, y_bool, y_str, y_sl, y_nils, y_agg, y_ownp, y_own, z_nil, z_int, z_bool, z_str, z_sl, z_nils, b_nil, b_arr, b_box1, b_box2, b_box3, b_box4, List.map_cons, List.map_nil, Bool.and_self, Bool.and_true, Bool.true_and, Bool.not_true, Bool.not_false, Bool.or_false, Bool.false_or, cond_true, cond_false, okPack, okPut, okPutBlks, okPutCells, q_isP, q_isAg, q_isBox, q_isArr, q_int, q_bool, q_str, q_sl, q_nils, e_exit, e_ret, e_nrm, e_ret_exit, e_exit_ret, e_nrm_exit, e_nrm_ret, e_exit_nrm, e_ret_nrm, Nat.zero_add, Nat.reduceAdd, noslR, noslP, noslB, noslA, List.all_cons, List.all_nil]
    have ih := check_loop (l0 := l0) (total := total) (a := a) (b := b) hz l (d ++ [u]) (n + u) (by rw [← hd]; simp) (fun v hv => hu v (List.mem_cons_of_mem _ hv)) (by simp; omega)
    rw [w64 (n := n + u) (by omega), w64 (n := (d.length : Int) + 1) (by omega)]
    simp only [List.length_append, List.length_cons, List.length_nil] at ih
    have e3 : ((d.length : Int) + 1) = ((d.length + (0 + 1) : Nat) : Int) := by omega
    rw [e3, ih]
    simp only [sumI, Int.add_assoc]

/-- What Check answers. -/
def chk (l : List Shr) (total : Int) (x : List Int) : Bool :=
  (sumI x == clamp total (lows l) (highs l)) && (!((prc l x).2.2.1 && (prc l x).2.2.2) || leB (prc l x).1 (prc l x).2.1)

theorem c_Check {l : List Shr} {x : List Int} (h : OkL l) (hx : InR l x) (total : Int) : denC E 28 [AV.sl 3 (shK l), AV.int .i64 total, AV.sl 1 (intsK .i64 x)] [] = some ([RV.p (PV.bool (chk l total x))], []) := by
  rw [denC_eq, r28, c_ranged h hx, c_Reach h, intsK_length]
  have hl8 : x.length ≤ 8 := by rw [hx.length]; exact h.1
  have hl := check_loop (l0 := shK l) (total := total) (a := lows l) (b := highs l) hl8 x [] 0 rfl (hx.bound h.2) (by simp)
  simp only [List.length_nil, Int.zero_add] at hl
  have e0 : (((0 : Nat)) : Int) = 0 := rfl
  rw [e0] at hl
  simp only [bnd_some, ctl_true, ctl_false, ctl_and, ctl_or', ctl_or2, x_toPV, x_toCs, x_toCs2, x_toEs, x_bEs, x_bCs, x_aPV, x_aCs, x_int, x_bool, x_str, x_es, x_esn, nth_0, nth_1, nth_2, nth_3, nth_4, nth_5, nth_6, nth_7, nth_8, nth_9, y_nil, y_int, y_bool, y_str, y_sl, y_nils, y_agg, y_ownp, y_own, z_nil, z_int, z_bool, z_str, z_sl, z_nils, b_nil, b_arr, b_box1, b_box2, b_box3, b_box4, List.map_cons, List.map_nil, Bool.and_self, Bool.and_true, Bool.true_and, Bool.not_true, Bool.not_false, Bool.or_false, Bool.false_or, cond_true, cond_false, okPack, okPut, okPutBlks, okPutCells, q_isP, q_isAg, q_isBox, q_isArr, q_int, q_bool, q_str, q_sl, q_nils, e_exit, e_ret, e_nrm, e_ret_exit, e_exit_ret, e_nrm_exit, e_nrm_ret, e_exit_nrm, e_ret_nrm, Nat.zero_add, Nat.reduceAdd, noslR, noslP, noslB, noslA, List.all_cons, List.all_nil]
  rw [hl]
  simp only [bnd_some, ctl_true, ctl_false, ctl_and, ctl_or', ctl_or2, x_toPV, x_toCs, x_toCs2, x_toEs, x_bEs, x_bCs, x_aPV, x_aCs, x_int, x_bool, x_str, x_es, x_esn, nth_0, nth_1, nth_2, nth_3, nth_4, nth_5, nth_6, nth_7, nth_8, nth_9, y_nil, y_int, y_bool, y_str, y_sl, y_nils, y_agg, y_ownp, y_own, z_nil, z_int, z_bool, z_str, z_sl, z_nils, b_nil, b_arr, b_box1, b_box2, b_box3, b_box4, List.map_cons, List.map_nil, Bool.and_self, Bool.and_true, Bool.true_and, Bool.not_true, Bool.not_false, Bool.or_false, Bool.false_or, cond_true, cond_false, okPack, okPut, okPutBlks, okPutCells, q_isP, q_isAg, q_isBox, q_isArr, q_int, q_bool, q_str, q_sl, q_nils, e_exit, e_ret, e_nrm, e_ret_exit, e_exit_ret, e_nrm_exit, e_nrm_ret, e_exit_nrm, e_ret_nrm, Nat.zero_add, Nat.reduceAdd, noslR, noslP, noslB, noslA, List.all_cons, List.all_nil]
  rw [c_Price h hx, c_Clamp]
  simp only [bnd_some, ctl_true, ctl_false, ctl_and, ctl_or', ctl_or2, x_toPV, x_toCs, x_toCs2, x_toEs, x_bEs, x_bCs, x_aPV, x_aCs, x_int, x_bool, x_str, x_es, x_esn, nth_0, nth_1, nth_2, nth_3, nth_4, nth_5, nth_6, nth_7, nth_8, nth_9, y_nil, y_int, y_bool, y_str, y_sl, y_nils, y_agg, y_ownp, y_own, z_nil, z_int, z_bool, z_str, z_sl, z_nils, b_nil, b_arr, b_box1, b_box2, b_box3, b_box4, List.map_cons, List.map_nil, Bool.and_self, Bool.and_true, Bool.true_and, Bool.not_true, Bool.not_false, Bool.or_false, Bool.false_or, cond_true, cond_false, okPack, okPut, okPutBlks, okPutCells, q_isP, q_isAg, q_isBox, q_isArr, q_int, q_bool, q_str, q_sl, q_nils, e_exit, e_ret, e_nrm, e_ret_exit, e_exit_ret, e_nrm_exit, e_nrm_ret, e_exit_nrm, e_ret_nrm, Nat.zero_add, Nat.reduceAdd, noslR, noslP, noslB, noslA, List.all_cons, List.all_nil]
  unfold chk
  cases (prc l x).2.2.1 <;> cases (prc l x).2.2.2 <;> rfl

/-- p is a price of the numbers: no loss is greater, no growth less. -/
def Pr (p : Int) : List Shr → List Int → Prop
  | [], [] => True
  | s :: l, x :: xs => ((s.lo < x → lst s x ≤ p) ∧ (x < s.hi → p ≤ nxt s x)) ∧ Pr p l xs
  | _, _ => False

theorem one_le {s : Shr} {p x y : Int} (hs : OkS s) (hx : s.lo ≤ x ∧ x ≤ s.hi) (hy : s.lo ≤ y ∧ y ≤ s.hi) (h : (s.lo < x → lst s x ≤ p) ∧ (x < s.hi → p ≤ nxt s x)) : p * (y - x) ≤ s.c * y * y - s.c * x * x := by
  have hc := hs.2.2.2.1
  have e : s.c * y * y - s.c * x * x = (s.c * (y + x)) * (y - x) := by
    rw [Int.mul_sub, Int.mul_assoc, Int.mul_assoc, Int.mul_assoc, Int.mul_assoc, Int.add_mul, Int.add_mul, Int.mul_add, Int.mul_add, Int.mul_comm y x]
    omega
  rw [e]
  unfold lst nxt at h
  rcases Int.lt_trichotomy x y with c | c | c
  · have h1 := h.2 (by omega)
    have h2 : s.c * (2 * x + 1) ≤ s.c * (y + x) := Int.mul_le_mul_of_nonneg_left (by omega) (by omega)
    exact Int.mul_le_mul_of_nonneg_right (by omega) (by omega)
  · subst c; simp
  · have h1 := h.1 (by omega)
    have h2 : s.c * (y + x) ≤ s.c * (2 * x - 1) := Int.mul_le_mul_of_nonneg_left (by omega) (by omega)
    have h3 : s.c * (y + x) ≤ p := by omega
    have h4 := Int.mul_le_mul_of_nonneg_right h3 (show 0 ≤ x - y by omega)
    have e1 : p * (y - x) = -(p * (x - y)) := by rw [← Int.mul_neg]; congr 1; omega
    have e2 : s.c * (y + x) * (y - x) = -(s.c * (y + x) * (x - y)) := by rw [← Int.mul_neg]; congr 1; omega
    rw [e1, e2]; omega

theorem cost_le (p : Int) : ∀ {l : List Shr} {x y : List Int}, (∀ s ∈ l, OkS s) → InR l x → InR l y → Pr p l x → p * (sumI y - sumI x) ≤ costS l y - costS l x
  | [], [], [], _, _, _, _ => by simp [sumI, costS]
  | s :: l, x :: xs, y :: ys, hs, hx, hy, hp => by
    have ih := cost_le p (fun z hz => hs z (List.mem_cons_of_mem _ hz)) hx.2 hy.2 hp.2
    have h1 := one_le (hs s (List.mem_cons_self ..)) hx.1 hy.1 hp.1
    simp only [sumI, costS]
    have e : p * (y + sumI ys - (x + sumI xs)) = p * (y - x) + p * (sumI ys - sumI xs) := by rw [← Int.mul_add]; congr 1; omega
    rw [e]; omega
  | [], _ :: _, _, _, h, _, _ => h.elim
  | [], [], _ :: _, _, _, h, _ => h.elim
  | _ :: _, [], _, _, h, _, _ => h.elim
  | _ :: _, _ :: _, [], _, _, h, _ => h.elim

/-- The certificate: numbers with a price cost least. -/
theorem cert_least {p : Int} {l : List Shr} {x y : List Int} (hl : OkL l) (hx : InR l x) (hy : InR l y) (hp : Pr p l x) (h : sumI y = sumI x) : costS l x ≤ costS l y := by
  have := cost_le p hl.2 hx hy hp
  rw [h, Int.sub_self, Int.mul_zero] at this
  omega

theorem fillK_pr (r : Int) : ∀ {l : List Shr} {k : Int}, (∀ s ∈ l, OkS s) → Pr r l (fillK r l k)
  | [], _, _ => trivial
  | s :: l, k, hs => by
    have hk := hs s (List.mem_cons_self ..)
    obtain ⟨x, m, e1, a1, a2, _⟩ := fillK_at r hk k
    rw [e1]
    exact ⟨nP_price hk a1 a2, fillK_pr r fun z hz => hs z (List.mem_cons_of_mem _ hz)⟩

/-- The loop of Price only raises the one and lowers the other. -/
theorem prS_keep : ∀ {l : List Shr} {x : List Int} {low high : Int} {less more : Bool},
    (less = true → (prS low high less more l x).2.2.1 = true ∧ low ≤ (prS low high less more l x).1) ∧ (more = true → (prS low high less more l x).2.2.2 = true ∧ (prS low high less more l x).2.1 ≤ high)
  | s :: l, x :: xs, low, high, less, more => by
    simp only [prS]
    have ih := prS_keep (l := l) (x := xs) (low := bif (ltB s.lo x && (!less || ltB low (lst s x))) then lst s x else low) (high := bif (ltB x s.hi && (!more || ltB (nxt s x) high)) then nxt s x else high)
      (less := (ltB s.lo x && (!less || ltB low (lst s x))) || less) (more := (ltB x s.hi && (!more || ltB (nxt s x) high)) || more)
    constructor
    · intro h
      subst h
      obtain ⟨h1, h2⟩ := ih.1 (by simp)
      refine ⟨h1, Int.le_trans ?_ h2⟩
      cases hb : (ltB s.lo x && (!true || ltB low (lst s x))) with
      | false => exact Int.le_refl _
      | true => simp at hb ⊢; omega
    · intro h
      subst h
      obtain ⟨h1, h2⟩ := ih.2 (by simp)
      refine ⟨h1, Int.le_trans h2 ?_⟩
      cases hb : (ltB x s.hi && (!true || ltB (nxt s x) high)) with
      | false => exact Int.le_refl _
      | true => simp at hb ⊢; omega
  | [], [], _, _, _, _ => ⟨fun h => ⟨h, Int.le_refl _⟩, fun h => ⟨h, Int.le_refl _⟩⟩
  | [], _ :: _, _, _, _, _ => ⟨fun h => ⟨h, Int.le_refl _⟩, fun h => ⟨h, Int.le_refl _⟩⟩
  | _ :: _, [], _, _, _, _ => ⟨fun h => ⟨h, Int.le_refl _⟩, fun h => ⟨h, Int.le_refl _⟩⟩

/-- What Price found bounds every loss and every growth. -/
theorem prS_pr {p : Int} : ∀ {l : List Shr} {x : List Int} {low high : Int} {less more : Bool}, InR l x →
    ((prS low high less more l x).2.2.1 = true → (prS low high less more l x).1 ≤ p) → ((prS low high less more l x).2.2.2 = true → p ≤ (prS low high less more l x).2.1) → Pr p l x
  | [], [], _, _, _, _, _, _, _ => trivial
  | s :: l, x :: xs, low, high, less, more, h, h1, h2 => by
    simp only [prS] at h1 h2
    refine ⟨⟨fun hx => ?_, fun hx => ?_⟩, prS_pr h.2 h1 h2⟩
    · have k := (prS_keep (l := l) (x := xs) (low := bif (ltB s.lo x && (!less || ltB low (lst s x))) then lst s x else low) (high := bif (ltB x s.hi && (!more || ltB (nxt s x) high)) then nxt s x else high)
        (less := (ltB s.lo x && (!less || ltB low (lst s x))) || less) (more := (ltB x s.hi && (!more || ltB (nxt s x) high)) || more)).1 (by cases less <;> simp [hx])
      have g := h1 k.1
      have e : lst s x ≤ bif (ltB s.lo x && (!less || ltB low (lst s x))) then lst s x else low := by
        cases hb : (ltB s.lo x && (!less || ltB low (lst s x))) with
        | true => exact Int.le_refl _
        | false =>
          cases less with
          | false => simp [hx] at hb
          | true => simp [hx] at hb ⊢; omega
      omega
    · have k := (prS_keep (l := l) (x := xs) (low := bif (ltB s.lo x && (!less || ltB low (lst s x))) then lst s x else low) (high := bif (ltB x s.hi && (!more || ltB (nxt s x) high)) then nxt s x else high)
        (less := (ltB s.lo x && (!less || ltB low (lst s x))) || less) (more := (ltB x s.hi && (!more || ltB (nxt s x) high)) || more)).2 (by cases more <;> simp [hx])
      have g := h2 k.1
      have e : (bif (ltB x s.hi && (!more || ltB (nxt s x) high)) then nxt s x else high) ≤ nxt s x := by
        cases hb : (ltB x s.hi && (!more || ltB (nxt s x) high)) with
        | true => exact Int.le_refl _
        | false =>
          cases more with
          | false => simp [hx] at hb
          | true => simp [hx] at hb ⊢; omega
      omega
  | [], _ :: _, _, _, _, _, h, _, _ => h.elim
  | _ :: _, [], _, _, _, _, h, _, _ => h.elim

/-- What Check accepts has a price. -/
theorem chk_pr {l : List Shr} {x : List Int} {total : Int} (hx : InR l x) (h : chk l total x = true) : sumI x = clamp total (lows l) (highs l) ∧ ∃ p, Pr p l x := by
  unfold chk at h
  rw [Bool.and_eq_true, beq_iff_eq] at h
  refine ⟨h.1, ?_⟩
  have h2 := h.2
  have key : ∀ p, ((prc l x).2.2.1 = true → (prc l x).1 ≤ p) → ((prc l x).2.2.2 = true → p ≤ (prc l x).2.1) → Pr p l x := fun p a b => prS_pr hx a b
  generalize prc l x = A at *
  obtain ⟨a, b, le, mo⟩ := A
  simp only at h2 key
  cases le
  · cases mo
    · exact ⟨0, key 0 (fun h => by cases h) (fun h => by cases h)⟩
    · exact ⟨b, key b (fun h => by cases h) (fun _ => Int.le_refl _)⟩
  · cases mo
    · exact ⟨a, key a (fun _ => Int.le_refl _) (fun h => by cases h)⟩
    · simp at h2
      exact ⟨a, key a (fun _ => Int.le_refl _) (fun _ => h2)⟩

theorem pr_chk {l : List Shr} {x : List Int} {total r : Int} (h : ((prc l x).2.2.1 = true → (prc l x).1 ≤ r) ∧ ((prc l x).2.2.2 = true → r ≤ (prc l x).2.1)) (hs : sumI x = clamp total (lows l) (highs l)) : chk l total x = true := by
  unfold chk
  rw [hs]
  generalize prc l x = A at *
  obtain ⟨a, b, le, mo⟩ := A
  simp only at h
  cases le <;> cases mo <;> simp at h ⊢
  omega

end Go.Proofs.Ytbacfgghneknjaa.Vm
