/- What Divide comes to. -/
import Derived.Test.YtbacfgghneknjaaShareC
namespace Go.Proofs.Ytbacfgghneknjaa.Vm
set_option linter.unusedVariables false
set_option linter.unusedSimpArgs false

def sumI : List Int → Int
  | [] => 0
  | x :: l => x + sumI l
/-- The number of a share at a price. -/
def nP (p : Int) (s : Shr) : Int := clamp ((p + s.c) / (2 * s.c)) s.lo s.hi
def nxt (s : Shr) (x : Int) : Int := s.c * (2 * x + 1)

theorem nP_in {p : Int} {s : Shr} (h : OkS s) : s.lo ≤ nP p s ∧ nP p s ≤ s.hi := clamp_in h.2.1

theorem c_next {s : Shr} {x : Int} (h : OkS s) (hx : -5001 ≤ x ∧ x ≤ 5001) : denC E 33 [AV.agg [PV.int .i64 s.lo, PV.int .i64 s.hi, PV.int .i64 s.c], AV.int .i64 x] [] = some ([RV.p (PV.int .i64 (nxt s x))], []) := by
  obtain ⟨_, _, _, h4, h5⟩ := h
  rw [denC_eq, r33, w64 (n := 2 * x) (by omega), w64 (n := 2 * x + 1) (by omega)]
  have h1 := mul_le (a := s.c) (b := 2 * x + 1) (m := 100) (n := 20000) (by omega) (by omega)
  rw [w64 (by omega)]
  rfl

theorem priced_loop {p : Int} (hp : -2000000 ≤ p ∧ p ≤ 2000000) : ∀ (l q : List Shr) (n : Int) (acc : List (List PV)), (q ++ l).length ≤ 8 → (∀ s ∈ l, OkS s) →
    -5000 * (q.length : Int) ≤ n ∧ n ≤ 5000 * (q.length : Int) → acc.length = q.length →
    lp E (denC E) 32 0 [] 0 { vals := [AV.int .i64 p, AV.int .i64 n, AV.sl 3 (shK (q ++ l)), AV.int .i64 ((q ++ l).length : Int), AV.int .i64 (q.length : Int)], blks := [Blk.arr 1 acc] } =
      some (Ex.exit 0, { vals := [AV.int .i64 (n + sumI (l.map (nP p)))], blks := [Blk.arr 1 (acc ++ intsK .i64 (l.map (nP p)))] })
  | [], q, n, acc, h, _, _, _ => by
    rw [r32_0, ctl_dec, if_neg (by simp)]
    simp [sumI, intsK]
  | s :: l, q, n, acc, h, hs, hn, ha => by
    have hk := hs s (List.mem_cons_self ..)
    have hk2 := nP_in (p := p) hk
    obtain ⟨h1, h2, h3, h4, h5⟩ := hk
    simp only [List.length_append, List.length_cons] at h
    have ih := priced_loop hp l (q ++ [s]) (n + nP p s) (acc ++ [[PV.int .i64 (nP p s)]]) (by simp; omega) (fun x hx => hs x (List.mem_cons_of_mem _ hx)) (by simp; omega) (by simp [ha])
    rw [r32_0, ctl_dec, if_pos (by simp; omega), getE_mid]
    simp only [List.append_assoc, List.cons_append, List.nil_append, List.length_append, List.length_cons, List.length_nil] at ih
    simp only [List.length_append, List.length_cons, shC, bnd_some, ctl_true, ctl_false, ctl_and, ctl_or', ctl_or2, x_toPV, x_toCs, x_toCs2, x_toEs, x_bEs, x_bCs, x_aPV, x_aCs, x_int, x_bool, x_str, x_es, x_esn, nth_0, nth_1, nth_2, nth_3, nth_4, nth_5, nth_6, nth_7, nth_8, nth_9, y_nil, y_int, y_bool, y_str, y_sl, y_nils, y_agg, y_ownp, y_own, z_nil, z_int, z_bool, z_str, z_sl, z_nils, b_nil, b_arr, b_box1, b_box2, b_box3, b_box4, List.map_cons, List.map_nil, Bool.and_self, Bool.and_true, Bool.true_and, Bool.not_true, Bool.not_false, Bool.or_false, Bool.false_or, cond_true, cond_false, okPack, okPut, okPutBlks, okPutCells, q_isP, q_isAg, q_isBox, q_isArr, q_int, q_bool, q_str, q_sl, q_nils, e_exit, e_ret, e_nrm, e_ret_exit, e_exit_ret, e_nrm_exit, e_nrm_ret, e_exit_nrm, e_ret_nrm, Nat.zero_add, Nat.reduceAdd, noslR, noslP, noslB, noslA, List.all_cons, List.all_nil]
    rw [w64 (n := p + s.c) (by omega), w64 (n := 2 * s.c) (by omega), w64 (n := (q.length : Int) + 1) (by omega), c_Floor (by omega) (by omega)]
    simp only [bnd_some, ctl_true, ctl_false, ctl_and, ctl_or', ctl_or2, x_toPV, x_toCs, x_toCs2, x_toEs, x_bEs, x_bCs, x_aPV, x_aCs, x_int, x_bool, x_str, x_es, x_esn, nth_0, nth_1, nth_2, nth_3, nth_4, nth_5, nth_6, nth_7, nth_8, nth_9, y_nil, y_int, y_bool, y_str, y_sl, y_nils, y_agg, y_ownp, y_own, z_nil, z_int, z_bool, z_str, z_sl, z_nils, b_nil, b_arr, b_box1, b_box2, b_box3, b_box4, List.map_cons, List.map_nil, Bool.and_self, Bool.and_true, Bool.true_and, Bool.not_true, Bool.not_false, Bool.or_false, Bool.false_or, cond_true, cond_false, okPack, okPut, okPutBlks, okPutCells, q_isP, q_isAg, q_isBox, q_isArr, q_int, q_bool, q_str, q_sl, q_nils, e_exit, e_ret, e_nrm, e_ret_exit, e_exit_ret, e_nrm_exit, e_nrm_ret, e_exit_nrm, e_ret_nrm, Nat.zero_add, Nat.reduceAdd, noslR, noslP, noslB, noslA, List.all_cons, List.all_nil, c_Clamp]
    have hroom : (leN ((acc.length + 1) * 8) 140737488355328) = true := by simp; omega
    have e0 : clamp ((p + s.c) / (2 * s.c)) s.lo s.hi = nP p s := rfl
    rw [hroom, ctl_true, e0, w64 (n := n + nP p s) (by omega)]
    have e1 : ((q.length : Int) + 1) = ((q.length + (0 + 1) : Nat) : Int) := by omega
    rw [e1, ih]
    simp [sumI, intsK, Int.add_assoc]

/-- The sum at a price. -/
def SP (l : List Shr) (p : Int) : Int := sumI (l.map (nP p))

theorem SP_in (p : Int) : ∀ {l : List Shr}, (∀ s ∈ l, OkS s) → lows l ≤ SP l p ∧ SP l p ≤ highs l
  | [], _ => by simp [SP, sumI, lows, highs]
  | s :: l, h => by
    have h1 := SP_in p (l := l) fun x hx => h x (List.mem_cons_of_mem _ hx)
    have h2 := nP_in (p := p) (h s (List.mem_cons_self ..))
    unfold SP at h1 ⊢
    simp only [List.map_cons, sumI, lows, highs]
    omega

theorem c_priced {l : List Shr} {p : Int} (h : OkL l) (hp : -2000000 ≤ p ∧ p ≤ 2000000) :
    denC E 32 [AV.sl 3 (shK l), AV.int .i64 p] [] = some ([RV.own 1 (intsK .i64 (l.map (nP p))), RV.p (PV.int .i64 (SP l p))], []) := by
  rw [denC_eq, r32, shK_length]
  have hl := priced_loop hp l [] 0 [] (by simpa using h.1) h.2 (by simp) rfl
  simp only [List.nil_append, List.length_nil, Int.zero_add] at hl
  have e0 : (((0 : Nat)) : Int) = 0 := rfl
  rw [e0] at hl
  rw [hl]
  simp only [bnd_some, ctl_true, ctl_false, ctl_and, ctl_or', ctl_or2, x_toPV, x_toCs, x_toCs2, x_toEs, x_bEs, x_bCs, x_aPV, x_aCs, x_int, x_bool, x_str, x_es, x_esn, nth_0, nth_1, nth_2, nth_3, nth_4, nth_5, nth_6, nth_7, nth_8, nth_9, y_nil, y_int, y_bool, y_str, y_sl, y_nils, y_agg, y_ownp, y_own, z_nil, z_int, z_bool, z_str, z_sl, z_nils, b_nil, b_arr, b_box1, b_box2, b_box3, b_box4, List.map_cons, List.map_nil, Bool.and_self, Bool.and_true, Bool.true_and, Bool.not_true, Bool.not_false, Bool.or_false, Bool.false_or, cond_true, cond_false, okPack, okPut, okPutBlks, okPutCells, q_isP, q_isAg, q_isBox, q_isArr, q_int, q_bool, q_str, q_sl, q_nils, e_exit, e_ret, e_nrm, e_ret_exit, e_exit_ret, e_nrm_exit, e_nrm_ret, e_exit_nrm, e_ret_nrm, Nat.zero_add, Nat.reduceAdd, noslR, noslP, noslB, noslA, List.all_cons, List.all_nil]
  rfl

theorem search_loop {l : List Shr} (h : OkL l) (total T : Int) : ∀ (m : Nat) (a b : Int), a ≤ b → b - a ≤ m → -1000200 ≤ a → b ≤ 1000200 →
    ∃ r, a ≤ r ∧ r ≤ b ∧ (r = a ∨ SP l (r - 1) < T) ∧ (r = b ∨ T ≤ SP l r) ∧
      lp E (denC E) 13 0 [] 0 { vals := [AV.sl 3 (shK l), AV.int .i64 total, AV.int .i64 T, AV.int .i64 a, AV.int .i64 b], blks := [] } =
        some (Ex.exit 0, { vals := [AV.sl 3 (shK l), AV.int .i64 total, AV.int .i64 T, AV.int .i64 r], blks := [] })
  | m, a, b, hab, hm, ha, hb => by
    by_cases hlt : a < b
    · cases m with
      | zero => omega
      | succ m =>
        have hmid : a ≤ (a + b) / 2 ∧ (a + b) / 2 < b := by omega
        rw [r13_0, ctl_dec, if_pos hlt, w64 (n := a + b) (by omega), c_Floor (by omega) (by omega)]
        simp only [bnd_some, ctl_true, ctl_false, ctl_and, ctl_or', ctl_or2, x_toPV, x_toCs, x_toCs2, x_toEs, x_bEs, x_bCs, x_aPV, x_aCs, x_int, x_bool, x_str, x_es, x_esn, nth_0, nth_1, nth_2, nth_3, nth_4, nth_5, nth_6, nth_7, nth_8, nth_9, y_nil, y_int, y_bool, y_str, y_sl, y_nils, y_agg, y_ownp, y_own, z_nil, z_int, z_bool, z_str, z_sl, z_nils, b_nil, b_arr, b_box1, b_box2, b_box3, b_box4, List.map_cons, List.map_nil, Bool.and_self, Bool.and_true, Bool.true_and, Bool.not_true, Bool.not_false, Bool.or_false, Bool.false_or, cond_true, cond_false, okPack, okPut, okPutBlks, okPutCells, q_isP, q_isAg, q_isBox, q_isArr, q_int, q_bool, q_str, q_sl, q_nils, e_exit, e_ret, e_nrm, e_ret_exit, e_exit_ret, e_nrm_exit, e_nrm_ret, e_exit_nrm, e_ret_nrm, Nat.zero_add, Nat.reduceAdd, noslR, noslP, noslB, noslA, List.all_cons, List.all_nil]
        rw [c_priced h (by omega)]
        simp only [bnd_some, ctl_true, ctl_false, ctl_and, ctl_or', ctl_or2, x_toPV, x_toCs, x_toCs2, x_toEs, x_bEs, x_bCs, x_aPV, x_aCs, x_int, x_bool, x_str, x_es, x_esn, nth_0, nth_1, nth_2, nth_3, nth_4, nth_5, nth_6, nth_7, nth_8, nth_9, y_nil, y_int, y_bool, y_str, y_sl, y_nils, y_agg, y_ownp, y_own, z_nil, z_int, z_bool, z_str, z_sl, z_nils, b_nil, b_arr, b_box1, b_box2, b_box3, b_box4, List.map_cons, List.map_nil, Bool.and_self, Bool.and_true, Bool.true_and, Bool.not_true, Bool.not_false, Bool.or_false, Bool.false_or, cond_true, cond_false, okPack, okPut, okPutBlks, okPutCells, q_isP, q_isAg, q_isBox, q_isArr, q_int, q_bool, q_str, q_sl, q_nils, e_exit, e_ret, e_nrm, e_ret_exit, e_exit_ret, e_nrm_exit, e_nrm_ret, e_exit_nrm, e_ret_nrm, Nat.zero_add, Nat.reduceAdd, noslR, noslP, noslB, noslA, List.all_cons, List.all_nil]
        rw [ctl_dec, w64 (n := (a + b) / 2 + 1) (by omega)]
        by_cases hs : T ≤ SP l ((a + b) / 2)
        · rw [if_pos hs]
          obtain ⟨r, h1, h2, h3, h4, h5⟩ := search_loop h total T m a ((a + b) / 2) (by omega) (by omega) ha (by omega)
          refine ⟨r, h1, by omega, h3, ?_, h5⟩
          rcases h4 with rfl | h4
          · exact Or.inr hs
          · exact Or.inr h4
        · rw [if_neg hs]
          obtain ⟨r, h1, h2, h3, h4, h5⟩ := search_loop h total T m ((a + b) / 2 + 1) b (by omega) (by omega) (by omega) hb
          refine ⟨r, by omega, h2, ?_, h4, h5⟩
          rcases h3 with rfl | h3
          · right
            have : (a + b) / 2 + 1 - 1 = (a + b) / 2 := by omega
            rw [this]; omega
          · exact Or.inr h3
    · refine ⟨a, by omega, by omega, Or.inl rfl, Or.inl (by omega), ?_⟩
      rw [r13_0, ctl_dec, if_neg hlt]

/-- One more for the first ones that stand at the price. -/
def fillL (p T : Int) : List Shr → List Int → Int → List Int
  | s :: l, x :: xs, n => if (ltB n T && ltB x s.hi && (nxt s x == p)) = true then (x + 1) :: fillL p T l xs (n + 1) else x :: fillL p T l xs n
  | _, _, _ => []

theorem setEs_ints {k : IntKind} {L : List Int} {i : Nat} {v : Int} (hi : i < L.length) : setEs (intsK k L) i 0 [PV.int k v] = intsK k (L.set i v) := by
  unfold setEs intsK
  rw [upd_eq, List.map_set]
  congr 1
  rw [nth_eq]
  simp [List.getD, hi, lay, lay.go]

theorem nth_mid (d : List Int) (x : Int) (xs : List Int) : nth [] (intsK .i64 (d ++ x :: xs)) d.length = [PV.int .i64 x] := by
  rw [nth_eq]
  simp [intsK, List.getD]

theorem fill_loop {p T total : Int} : ∀ (l q : List Shr) (xs d : List Int) (n : Int), (q ++ l).length ≤ 8 → (∀ s ∈ l, OkS s) → d.length = q.length → xs.length = l.length → (∀ x ∈ xs, -5000 ≤ x ∧ x ≤ 5000) →
    -100000 ≤ n ∧ n ≤ 100000 + (q.length : Int) →
    lp E (denC E) 13 0 [] 2 { vals := [AV.int .i64 total, AV.int .i64 T, AV.int .i64 p, AV.int .i64 n, AV.sl 3 (shK (q ++ l)), AV.int .i64 ((q ++ l).length : Int), AV.int .i64 (q.length : Int)], blks := [Blk.arr 1 (intsK .i64 (d ++ xs))] } =
      some (Ex.exit 2, { vals := [AV.int .i64 total, AV.int .i64 T], blks := [Blk.arr 1 (intsK .i64 (d ++ fillL p T l xs n))] })
  | [], q, [], d, n, h, _, _, _, _, _ => by
    rw [r13_2, ctl_dec, if_neg (by simp)]
    simp [fillL]
  | [], _, _ :: _, _, _, _, _, _, h, _, _ => by simp at h
  | _ :: _, _, [], _, _, _, _, _, h, _, _ => by simp at h
  | s :: l, q, x :: xs, d, n, h, hs, hd, hx, hb, hn => by
    have hk := hs s (List.mem_cons_self ..)
    have hxb := hb x (List.mem_cons_self ..)
    simp only [List.length_append, List.length_cons] at h
    rw [r13_2, ctl_dec, if_pos (by simp; omega), getE_mid]
    have i0 : leB 0 (q.length : Int) = true := by simp
    have i1 : ltB (q.length : Int) ((intsK .i64 (d ++ x :: xs)).length : Int) = true := by rw [intsK_length]; simp; omega
    have i2 : nth [] (intsK .i64 (d ++ x :: xs)) ((q.length : Int)).toNat = [PV.int .i64 x] := by
      rw [Int.toNat_natCast, ← hd]; exact nth_mid d x xs
    have i3 : okCs [Sh.int .i64] (List.take 1 (List.drop 0 [PV.int .i64 x])) = true := rfl
    simp only [shC, bnd_some, ctl_true, ctl_false, ctl_and, ctl_or', ctl_or2, x_toPV, x_toCs, x_toCs2, x_toEs, x_bEs, x_bCs, x_aPV, x_aCs, x_int, x_bool, x_str, x_es, x_esn, nth_0, nth_1, nth_2, nth_3, nth_4, nth_5, nth_6, nth_7, nth_8, nth_9, y_nil, y_int, y_bool, y_str, y_sl, y_nils, y_agg, y_ownp, y_own, z_nil, z_int, z_bool, z_str, z_sl, z_nils, b_nil, b_arr, b_box1, b_box2, b_box3, b_box4, List.map_cons, List.map_nil, Bool.and_self, Bool.and_true, Bool.true_and, Bool.not_true, Bool.not_false, Bool.or_false, Bool.false_or, cond_true, cond_false, okPack, okPut, okPutBlks, okPutCells, q_isP, q_isAg, q_isBox, q_isArr, q_int, q_bool, q_str, q_sl, q_nils, e_exit, e_ret, e_nrm, e_ret_exit, e_exit_ret, e_nrm_exit, e_nrm_ret, e_exit_nrm, e_ret_nrm, Nat.zero_add, Nat.reduceAdd, noslR, noslP, noslB, noslA, List.all_cons, List.all_nil, i0, i1, i2, i3]
    rw [c_next hk (by omega)]
    simp only [bnd_some, ctl_true, ctl_false, ctl_and, ctl_or', ctl_or2, x_toPV, x_toCs, x_toCs2, x_toEs, x_bEs, x_bCs, x_aPV, x_aCs, x_int, x_bool, x_str, x_es, x_esn, nth_0, nth_1, nth_2, nth_3, nth_4, nth_5, nth_6, nth_7, nth_8, nth_9, y_nil, y_int, y_bool, y_str, y_sl, y_nils, y_agg, y_ownp, y_own, z_nil, z_int, z_bool, z_str, z_sl, z_nils, b_nil, b_arr, b_box1, b_box2, b_box3, b_box4, List.map_cons, List.map_nil, Bool.and_self, Bool.and_true, Bool.true_and, Bool.not_true, Bool.not_false, Bool.or_false, Bool.false_or, cond_true, cond_false, okPack, okPut, okPutBlks, okPutCells, q_isP, q_isAg, q_isBox, q_isArr, q_int, q_bool, q_str, q_sl, q_nils, e_exit, e_ret, e_nrm, e_ret_exit, e_exit_ret, e_nrm_exit, e_nrm_ret, e_exit_nrm, e_ret_nrm, Nat.zero_add, Nat.reduceAdd, noslR, noslP, noslB, noslA, List.all_cons, List.all_nil]
    have e1 : ((q.length : Int) + 1) = ((q.length + (0 + 1) : Nat) : Int) := by omega
    have iha := fun m => fill_loop (p := p) (T := T) (total := total) l (q ++ [s]) xs (d ++ [m]) 
    rw [w64 (n := n + 1) (by omega), w64 (n := x + 1) (by omega), w64 (n := (q.length : Int) + 1) (by omega), Int.toNat_natCast, setEs_ints (by simp; omega)]
    have eset : (d ++ x :: xs).set q.length (x + 1) = d ++ (x + 1) :: xs := by
      rw [← hd, List.set_append_right _ _ (Nat.le_refl _)]; simp
    rw [eset, e1]
    cases hc : (ltB n T && ltB x s.hi && (nxt s x == p)) with
    | false =>
      have ih := iha x n (by simp; omega) (fun y hy => hs y (List.mem_cons_of_mem _ hy)) (by simp [hd]) (by simpa using hx) (fun y hy => hb y (List.mem_cons_of_mem _ hy)) (by simp; omega)
      simp only [List.append_assoc, List.cons_append, List.nil_append, List.length_append, List.length_cons, List.length_nil] at ih
      simp only [List.length_append, List.length_cons, ctl_false, fillL, hc, Bool.false_eq_true, if_false]
      rw [ih]
    | true =>
      have ih := iha (x + 1) (n + 1) (by simp; omega) (fun y hy => hs y (List.mem_cons_of_mem _ hy)) (by simp [hd]) (by simpa using hx) (fun y hy => hb y (List.mem_cons_of_mem _ hy)) (by simp; omega)
      simp only [List.append_assoc, List.cons_append, List.nil_append, List.length_append, List.length_cons, List.length_nil] at ih
      simp only [List.length_append, List.length_cons, ctl_true, fillL, hc, if_true]
      rw [ih]

/-- What Divide gives out, by its price. -/
def divL (l : List Shr) (T r : Int) : List Int := fillL r T l (l.map (nP (r - 1))) (SP l (r - 1))

/-- The price at which Divide stops. -/
structure IsP (l : List Shr) (T r : Int) : Prop where
  lo : -1000200 ≤ r
  hi : r ≤ 1000200
  less : r = -1000200 ∨ SP l (r - 1) < T
  enough : r = 1000200 ∨ T ≤ SP l r

theorem c_Divide {l : List Shr} (h : OkL l) {total : Int} (ht : -500000 ≤ total ∧ total ≤ 500000) :
    ∃ r, IsP l (clamp total (lows l) (highs l)) r ∧
      denC E 13 [AV.sl 3 (shK l), AV.int .i64 total] [] =
        some ([RV.own 1 (intsK .i64 (divL l (clamp total (lows l) (highs l)) r)), RV.p (PV.int .i64 (total - clamp total (lows l) (highs l))), RV.p (PV.int .i64 0)], []) := by
  have he := ends_in h.2
  have h8 := h.1
  have hT := clamp_in (x := total) he.2.1
  generalize hT0 : clamp total (lows l) (highs l) = T at hT
  obtain ⟨r, h1, h2, h3, h4, h5⟩ := search_loop h total T 2000400 (-1000200) 1000200 (by omega) (by omega) (by omega) (by omega)
  refine ⟨r, ⟨h1, h2, h3, h4⟩, ?_⟩
  rw [denC_eq, r13, c_Reach h]
  have k0 : ((0 : Int) != 0) = false := rfl
  have k1 : ltB total (-500000) = false := by simp; omega
  have k2 : ltB 500000 total = false := by simp; omega
  simp only [bnd_some, ctl_true, ctl_false, ctl_and, ctl_or', ctl_or2, x_toPV, x_toCs, x_toCs2, x_toEs, x_bEs, x_bCs, x_aPV, x_aCs, x_int, x_bool, x_str, x_es, x_esn, nth_0, nth_1, nth_2, nth_3, nth_4, nth_5, nth_6, nth_7, nth_8, nth_9, y_nil, y_int, y_bool, y_str, y_sl, y_nils, y_agg, y_ownp, y_own, z_nil, z_int, z_bool, z_str, z_sl, z_nils, b_nil, b_arr, b_box1, b_box2, b_box3, b_box4, List.map_cons, List.map_nil, Bool.and_self, Bool.and_true, Bool.true_and, Bool.not_true, Bool.not_false, Bool.or_false, Bool.false_or, cond_true, cond_false, okPack, okPut, okPutBlks, okPutCells, q_isP, q_isAg, q_isBox, q_isArr, q_int, q_bool, q_str, q_sl, q_nils, e_exit, e_ret, e_nrm, e_ret_exit, e_exit_ret, e_nrm_exit, e_nrm_ret, e_exit_nrm, e_ret_nrm, Nat.zero_add, Nat.reduceAdd, noslR, noslP, noslB, noslA, List.all_cons, List.all_nil, k0, k1, k2, c_Clamp, hT0]
  rw [h5]
  simp only [bnd_some, ctl_true, ctl_false, ctl_and, ctl_or', ctl_or2, x_toPV, x_toCs, x_toCs2, x_toEs, x_bEs, x_bCs, x_aPV, x_aCs, x_int, x_bool, x_str, x_es, x_esn, nth_0, nth_1, nth_2, nth_3, nth_4, nth_5, nth_6, nth_7, nth_8, nth_9, y_nil, y_int, y_bool, y_str, y_sl, y_nils, y_agg, y_ownp, y_own, z_nil, z_int, z_bool, z_str, z_sl, z_nils, b_nil, b_arr, b_box1, b_box2, b_box3, b_box4, List.map_cons, List.map_nil, Bool.and_self, Bool.and_true, Bool.true_and, Bool.not_true, Bool.not_false, Bool.or_false, Bool.false_or, cond_true, cond_false, okPack, okPut, okPutBlks, okPutCells, q_isP, q_isAg, q_isBox, q_isArr, q_int, q_bool, q_str, q_sl, q_nils, e_exit, e_ret, e_nrm, e_ret_exit, e_exit_ret, e_nrm_exit, e_nrm_ret, e_exit_nrm, e_ret_nrm, Nat.zero_add, Nat.reduceAdd, noslR, noslP, noslB, noslA, List.all_cons, List.all_nil]
  rw [w64 (n := r - 1) (by omega), c_priced h (by omega)]
  simp only [bnd_some, ctl_true, ctl_false, ctl_and, ctl_or', ctl_or2, x_toPV, x_toCs, x_toCs2, x_toEs, x_bEs, x_bCs, x_aPV, x_aCs, x_int, x_bool, x_str, x_es, x_esn, nth_0, nth_1, nth_2, nth_3, nth_4, nth_5, nth_6, nth_7, nth_8, nth_9, y_nil, y_int, y_bool, y_str, y_sl, y_nils, y_agg, y_ownp, y_own, z_nil, z_int, z_bool, z_str, z_sl, z_nils, b_nil, b_arr, b_box1, b_box2, b_box3, b_box4, List.map_cons, List.map_nil, Bool.and_self, Bool.and_true, Bool.true_and, Bool.not_true, Bool.not_false, Bool.or_false, Bool.false_or, cond_true, cond_false, okPack, okPut, okPutBlks, okPutCells, q_isP, q_isAg, q_isBox, q_isArr, q_int, q_bool, q_str, q_sl, q_nils, e_exit, e_ret, e_nrm, e_ret_exit, e_exit_ret, e_nrm_exit, e_nrm_ret, e_exit_nrm, e_ret_nrm, Nat.zero_add, Nat.reduceAdd, noslR, noslP, noslB, noslA, List.all_cons, List.all_nil]
  have hS := SP_in (r - 1) h.2
  have hf := fill_loop (p := r) (T := T) (total := total) l [] (l.map (nP (r - 1))) [] (SP l (r - 1)) (by simpa using h.1) h.2 rfl (by simp)
    (fun x hx => by
      obtain ⟨s, hs, rfl⟩ := List.mem_map.1 hx
      have h6 := nP_in (p := r - 1) (h.2 s hs)
      have h7 := h.2 s hs
      unfold OkS at h7; omega) (by simp; omega)
  simp only [List.nil_append, List.length_nil] at hf
  have e0 : (((0 : Nat)) : Int) = 0 := rfl
  rw [e0] at hf
  rw [shK_length, hf]
  simp only [bnd_some, ctl_true, ctl_false, ctl_and, ctl_or', ctl_or2, x_toPV, x_toCs, x_toCs2, x_toEs, x_bEs, x_bCs, x_aPV, x_aCs, x_int, x_bool, x_str, x_es, x_esn, nth_0, nth_1, nth_2, nth_3, nth_4, nth_5, nth_6, nth_7, nth_8, nth_9, y_nil, y_int, y_bool, y_str, y_sl, y_nils, y_agg, y_ownp, y_own, z_nil, z_int, z_bool, z_str, z_sl, z_nils, b_nil, b_arr, b_box1, b_box2, b_box3, b_box4, List.map_cons, List.map_nil, Bool.and_self, Bool.and_true, Bool.true_and, Bool.not_true, Bool.not_false, Bool.or_false, Bool.false_or, cond_true, cond_false, okPack, okPut, okPutBlks, okPutCells, q_isP, q_isAg, q_isBox, q_isArr, q_int, q_bool, q_str, q_sl, q_nils, e_exit, e_ret, e_nrm, e_ret_exit, e_exit_ret, e_nrm_exit, e_nrm_ret, e_exit_nrm, e_ret_nrm, Nat.zero_add, Nat.reduceAdd, noslR, noslP, noslB, noslA, List.all_cons, List.all_nil]
  rw [w64 (by omega)]
  rfl

end Go.Proofs.Ytbacfgghneknjaa.Vm
