import Derived.Test.YtcnjaffogkkpnaaRawOptimal
import Derived.Test.YtcnjaffogkkpnaaShareM
/- The source of shares and the examples of the chapter. -/
namespace Go.Proofs.Ytcnjaffogkkpnaa.Vm.Div
set_option linter.unusedVariables false
set_option linter.unusedSimpArgs false


def costL : List Int := [1, 1, 2, 3, 7, 100]
/-- One share of the source. -/
def shr1 (L : List Int) (k : Nat) : Shr := ⟨vRange L k (-9) 5, vRange L k (-9) 5 + vN L (at' L k) 12, vPick L (at' L (at' L k)) costL⟩
def sharesL (L : List Int) : Nat → Nat → List Shr × Nat
  | k, 0 => ([], k)
  | k, j + 1 => (shr1 L k :: (sharesL L (at' L (at' L (at' L k))) j).1, (sharesL L (at' L (at' L (at' L k))) j).2)

theorem shr1_ok (L : List Int) (k : Nat) : OkS (shr1 L k) ∧ -9 ≤ (shr1 L k).lo ∧ (shr1 L k).hi ≤ 16 := by
  have h1 := vRange_bounds (L := L) (k := k) (lo := -9) (hi := 5) (by omega)
  have h2 := vN_bounds (L := L) (k := at' L k) (n := 12) (by omega)
  have h3 := vPick_mem L (at' L (at' L k)) (l := costL) (by decide)
  unfold costL at h3
  simp only [List.mem_cons, List.not_mem_nil, or_false] at h3
  unfold OkS shr1 costL
  simp only
  omega

def shN (L : List Int) (k : Nat) (most : Int) : List Shr := (sharesL L (at' L k) (vN L k (most + 1)).toNat).1
def shAt (L : List Int) (k : Nat) (most : Int) : Nat := (sharesL L (at' L k) (vN L k (most + 1)).toNat).2

theorem sharesL_le {L : List Int} (hL : L.length ≤ 600) : ∀ (j : Nat) {k : Nat}, k ≤ 600 → (sharesL L k j).2 ≤ 600
  | 0, _, h => h
  | j + 1, _, h => sharesL_le hL j (at'_le hL (at'_le hL (at'_le hL h)))
theorem shAt_le {L : List Int} (hL : L.length ≤ 600) {k : Nat} (hk : k ≤ 600) (most : Int) : shAt L k most ≤ 600 := sharesL_le hL _ (at'_le hL hk)
theorem sharesL_length (L : List Int) : ∀ (j k : Nat), (sharesL L k j).1.length = j
  | 0, _ => rfl
  | j + 1, k => by simp [sharesL, sharesL_length L j]
theorem sharesL_ok (L : List Int) : ∀ (j k : Nat), ∀ s ∈ (sharesL L k j).1, OkS s ∧ -9 ≤ s.lo ∧ s.hi ≤ 16
  | 0, _, _, h => by cases h
  | j + 1, k, s, h => by
    simp only [sharesL, List.mem_cons] at h
    rcases h with rfl | h
    · exact shr1_ok L k
    · exact sharesL_ok L j _ s h
theorem shN_ok (L : List Int) (k : Nat) {most : Int} (hm : 0 ≤ most ∧ most ≤ 8) : OkL (shN L k most) ∧ ∀ s ∈ shN L k most, OkS s ∧ -9 ≤ s.lo ∧ s.hi ≤ 16 := by
  have hb := vN_bounds (L := L) (k := k) (n := most + 1) (by omega)
  refine ⟨⟨?_, fun s hs => (sharesL_ok L _ _ s hs).1⟩, sharesL_ok L _ _⟩
  unfold shN
  rw [sharesL_length]; omega

/-- The price is the only one. -/
theorem IsP.uniq {l : List Shr} {T r p : Int} (hl : OkL l) (h : IsP l T r) (hp : -1000200 < p ∧ p < 1000200) (h1 : SP l (p - 1) < T) (h2 : T ≤ SP l p) : r = p := by
  rcases Int.lt_trichotomy r p with c | c | c
  · have d := SP_mono (show r ≤ p - 1 by omega) hl.2
    rcases h.enough with e | e <;> omega
  · exact c
  · have d := SP_mono (show p ≤ r - 1 by omega) hl.2
    rcases h.less with e | e <;> omega

theorem c_DivideAt {l : List Shr} (h : OkL l) {total p : Int} (ht : -500000 ≤ total ∧ total ≤ 500000) (hp : -1000200 < p ∧ p < 1000200)
    (h1 : SP l (p - 1) < clamp total (lows l) (highs l)) (h2 : clamp total (lows l) (highs l) ≤ SP l p) :
    denC E 30 [AV.sl 3 (shK l), AV.int .i64 total] [] =
      some ([RV.own 1 (intsK .i64 (divL l (clamp total (lows l) (highs l)) p)), RV.p (PV.int .i64 (total - clamp total (lows l) (highs l))), RV.p (PV.int .i64 0)], []) := by
  obtain ⟨r, hr, e⟩ := c_Divide h ht
  rw [hr.uniq h hp h1 h2] at e
  exact e

end Go.Proofs.Ytcnjaffogkkpnaa.Vm.Div

/- Price, and the document's Valid and Reach. -/
namespace Go.Proofs.Ytcnjaffogkkpnaa.Vm.Div
set_option linter.unusedVariables false
set_option linter.unusedSimpArgs false

theorem rvalid_loop : ∀ (l p : List Shr), (p ++ l).length ≤ 8 →
    lp E (denC E) 48 0 [] 0 { vals := [AV.sl 3 (shK (p ++ l)), AV.int .i64 ((p ++ l).length : Int), AV.int .i64 (p.length : Int)], blks := [] } =
      ctl (l.all okSB) (some (Ex.exit 0, { vals := [], blks := [] })) (some (Ex.ret, { vals := [AV.int .i64 1], blks := [] }))
  | [], p, h => by
    rw [r48_0, ctl_dec, if_neg (by simp)]
    rfl
  | s :: l, p, h => by
    simp only [List.length_append, List.length_cons] at h
    rw [r48_0, ctl_dec, if_pos (by simp; omega), getE_mid]
    have ih := rvalid_loop l (p ++ [s]) (by simp; omega)
    simp only [List.append_assoc, List.cons_append, List.nil_append, List.length_append, List.length_cons, List.length_nil] at ih
    simp only [List.length_append, List.length_cons, shC, bnd_some, ctl_true, ctl_false, ctl_and, ctl_or', ctl_or2, x_toPV, x_toCs, x_toCs2, x_toEs, x_bEs, x_bCs, x_aPV, x_aCs, x_int, x_bool, x_str, x_es, x_esn, nth_0, nth_1, nth_2, nth_3, nth_4, nth_5, nth_6, nth_7, nth_8, nth_9, y_nil, y_int, y_bool, y_str, y_sl, y_nils, y_agg, y_ownp, y_own, z_nil, z_int, z_bool, z_str, z_sl, z_nils, b_nil, b_arr, b_box1, b_box2, b_box3, b_box4, List.map_cons, List.map_nil, Bool.and_self, Bool.and_true, Bool.true_and, Bool.not_true, Bool.not_false, Bool.or_false, Bool.false_or, cond_true, cond_false, okPack, okPut, okPutBlks, okPutCells, q_isP, q_isAg, q_isBox, q_isArr, q_int, q_bool, q_str, q_sl, q_nils, e_exit, e_ret, e_nrm, e_ret_exit, e_exit_ret, e_nrm_exit, e_nrm_ret, e_exit_nrm, e_ret_nrm, Nat.zero_add, Nat.reduceAdd, noslR, noslP, noslB, noslA, List.all_cons, List.all_nil]
    rw [w64 (n := (p.length : Int) + 1) (by omega)]
    have e1 : ((p.length : Int) + 1) = ((p.length + (0 + 1) : Nat) : Int) := by omega
    rw [e1, ih]
    have e2 : (ltB s.lo (-5000) || ltB s.hi s.lo || ltB 5000 s.hi || ltB s.c 1 || ltB 100 s.c) = !okSB s := by unfold okSB; simp
    rw [e2]
    cases okSB s <;> rfl

theorem c_RValid (l : List Shr) : denC E 48 [AV.sl 3 (shK l)] [] = some ([RV.p (PV.int .i64 (validN l))], []) := by
  rw [denC_eq, r48, shK_length, ctl_dec]
  unfold validN
  by_cases h : 8 < l.length
  · rw [if_pos (by omega), if_pos h]
  · rw [if_neg (by omega), if_neg h]
    have hl := rvalid_loop l [] (by simp; omega)
    simp only [List.nil_append, List.length_nil] at hl
    have e0 : (((0 : Nat)) : Int) = 0 := rfl
    rw [e0] at hl
    rw [hl]
    by_cases h2 : l.all okSB = true
    · rw [if_pos h2, h2]
      simp only [bnd_some, ctl_true, ctl_false, ctl_and, ctl_or', ctl_or2, x_toPV, x_toCs, x_toCs2, x_toEs, x_bEs, x_bCs, x_aPV, x_aCs, x_int, x_bool, x_str, x_es, x_esn, nth_0, nth_1, nth_2, nth_3, nth_4, nth_5, nth_6, nth_7, nth_8, nth_9, y_nil, y_int, y_bool, y_str, y_sl, y_nils, y_agg, y_ownp, y_own, z_nil, z_int, z_bool, z_str, z_sl, z_nils, b_nil, b_arr, b_box1, b_box2, b_box3, b_box4, List.map_cons, List.map_nil, Bool.and_self, Bool.and_true, Bool.true_and, Bool.not_true, Bool.not_false, Bool.or_false, Bool.false_or, cond_true, cond_false, okPack, okPut, okPutBlks, okPutCells, q_isP, q_isAg, q_isBox, q_isArr, q_int, q_bool, q_str, q_sl, q_nils, e_exit, e_ret, e_nrm, e_ret_exit, e_exit_ret, e_nrm_exit, e_nrm_ret, e_exit_nrm, e_ret_nrm, Nat.zero_add, Nat.reduceAdd, noslR, noslP, noslB, noslA, List.all_cons, List.all_nil]
    · have h3 : l.all okSB = false := by simpa using h2
      rw [if_neg h2, h3]
      simp only [bnd_some, ctl_true, ctl_false, ctl_and, ctl_or', ctl_or2, x_toPV, x_toCs, x_toCs2, x_toEs, x_bEs, x_bCs, x_aPV, x_aCs, x_int, x_bool, x_str, x_es, x_esn, nth_0, nth_1, nth_2, nth_3, nth_4, nth_5, nth_6, nth_7, nth_8, nth_9, y_nil, y_int, y_bool, y_str, y_sl, y_nils, y_agg, y_ownp, y_own, z_nil, z_int, z_bool, z_str, z_sl, z_nils, b_nil, b_arr, b_box1, b_box2, b_box3, b_box4, List.map_cons, List.map_nil, Bool.and_self, Bool.and_true, Bool.true_and, Bool.not_true, Bool.not_false, Bool.or_false, Bool.false_or, cond_true, cond_false, okPack, okPut, okPutBlks, okPutCells, q_isP, q_isAg, q_isBox, q_isArr, q_int, q_bool, q_str, q_sl, q_nils, e_exit, e_ret, e_nrm, e_ret_exit, e_exit_ret, e_nrm_exit, e_nrm_ret, e_exit_nrm, e_ret_nrm, Nat.zero_add, Nat.reduceAdd, noslR, noslP, noslB, noslA, List.all_cons, List.all_nil]

theorem rreach_loop : ∀ (l p : List Shr) (a b : Int), (p ++ l).length ≤ 8 → (∀ s ∈ l, OkS s) → -5000 * (p.length : Int) ≤ a ∧ a ≤ 5000 * (p.length : Int) → -5000 * (p.length : Int) ≤ b ∧ b ≤ 5000 * (p.length : Int) →
    lp E (denC E) 25 0 [] 0 { vals := [AV.int .i64 a, AV.int .i64 b, AV.sl 3 (shK (p ++ l)), AV.int .i64 ((p ++ l).length : Int), AV.int .i64 (p.length : Int)], blks := [] } =
      some (Ex.exit 0, { vals := [AV.int .i64 (a + lows l), AV.int .i64 (b + highs l)], blks := [] })
  | [], p, a, b, h, _, _, _ => by
    rw [r25_0, ctl_dec, if_neg (by simp)]
    simp [lows, highs]
  | s :: l, p, a, b, h, hs, ha, hb => by
    obtain ⟨h1, h2, h3, _⟩ := hs s (List.mem_cons_self ..)
    simp only [List.length_append, List.length_cons] at h
    have ih := rreach_loop l (p ++ [s]) (a + s.lo) (b + s.hi) (by simp; omega) (fun x hx => hs x (List.mem_cons_of_mem _ hx)) (by simp; omega) (by simp; omega)
    rw [r25_0, ctl_dec, if_pos (by simp; omega), getE_mid]
    simp only [List.append_assoc, List.cons_append, List.nil_append, List.length_append, List.length_cons, List.length_nil] at ih
    simp only [List.length_append, List.length_cons, shC, bnd_some, ctl_true, ctl_false, ctl_and, ctl_or', ctl_or2, x_toPV, x_toCs, x_toCs2, x_toEs, x_bEs, x_bCs, x_aPV, x_aCs, x_int, x_bool, x_str, x_es, x_esn, nth_0, nth_1, nth_2, nth_3, nth_4, nth_5, nth_6, nth_7, nth_8, nth_9, y_nil, y_int, y_bool, y_str, y_sl, y_nils, y_agg, y_ownp, y_own, z_nil, z_int, z_bool, z_str, z_sl, z_nils, b_nil, b_arr, b_box1, b_box2, b_box3, b_box4, List.map_cons, List.map_nil, Bool.and_self, Bool.and_true, Bool.true_and, Bool.not_true, Bool.not_false, Bool.or_false, Bool.false_or, cond_true, cond_false, okPack, okPut, okPutBlks, okPutCells, q_isP, q_isAg, q_isBox, q_isArr, q_int, q_bool, q_str, q_sl, q_nils, e_exit, e_ret, e_nrm, e_ret_exit, e_exit_ret, e_nrm_exit, e_nrm_ret, e_exit_nrm, e_ret_nrm, Nat.zero_add, Nat.reduceAdd, noslR, noslP, noslB, noslA, List.all_cons, List.all_nil]
    rw [w64 (n := (p.length : Int) + 1) (by omega), w64 (n := a + s.lo) (by omega), w64 (n := b + s.hi) (by omega)]
    have e1 : ((p.length : Int) + 1) = ((p.length + (0 + 1) : Nat) : Int) := by omega
    rw [e1, ih]
    simp only [lows, highs, Int.add_assoc]

theorem c_RReach {l : List Shr} (h : OkL l) : denC E 25 [AV.sl 3 (shK l)] [] = some ([RV.p (PV.int .i64 (lows l)), RV.p (PV.int .i64 (highs l)), RV.p (PV.int .i64 0)], []) := by
  rw [denC_eq, r25, c_RValid, validN_ok.2 h, shK_length]
  have hl := rreach_loop l [] 0 0 (by simpa using h.1) h.2 (by simp) (by simp)
  simp only [List.nil_append, List.length_nil, Int.zero_add] at hl
  have e0 : (((0 : Nat)) : Int) = 0 := rfl
  rw [e0] at hl
  have k : ((0 : Int) != 0) = false := rfl
  simp only [bnd_some, ctl_true, ctl_false, ctl_and, ctl_or', ctl_or2, x_toPV, x_toCs, x_toCs2, x_toEs, x_bEs, x_bCs, x_aPV, x_aCs, x_int, x_bool, x_str, x_es, x_esn, nth_0, nth_1, nth_2, nth_3, nth_4, nth_5, nth_6, nth_7, nth_8, nth_9, y_nil, y_int, y_bool, y_str, y_sl, y_nils, y_agg, y_ownp, y_own, z_nil, z_int, z_bool, z_str, z_sl, z_nils, b_nil, b_arr, b_box1, b_box2, b_box3, b_box4, List.map_cons, List.map_nil, Bool.and_self, Bool.and_true, Bool.true_and, Bool.not_true, Bool.not_false, Bool.or_false, Bool.false_or, cond_true, cond_false, okPack, okPut, okPutBlks, okPutCells, q_isP, q_isAg, q_isBox, q_isArr, q_int, q_bool, q_str, q_sl, q_nils, e_exit, e_ret, e_nrm, e_ret_exit, e_exit_ret, e_nrm_exit, e_nrm_ret, e_exit_nrm, e_ret_nrm, Nat.zero_add, Nat.reduceAdd, noslR, noslP, noslB, noslA, List.all_cons, List.all_nil, k]
  rw [hl]
  simp only [bnd_some, ctl_true, ctl_false, ctl_and, ctl_or', ctl_or2, x_toPV, x_toCs, x_toCs2, x_toEs, x_bEs, x_bCs, x_aPV, x_aCs, x_int, x_bool, x_str, x_es, x_esn, nth_0, nth_1, nth_2, nth_3, nth_4, nth_5, nth_6, nth_7, nth_8, nth_9, y_nil, y_int, y_bool, y_str, y_sl, y_nils, y_agg, y_ownp, y_own, z_nil, z_int, z_bool, z_str, z_sl, z_nils, b_nil, b_arr, b_box1, b_box2, b_box3, b_box4, List.map_cons, List.map_nil, Bool.and_self, Bool.and_true, Bool.true_and, Bool.not_true, Bool.not_false, Bool.or_false, Bool.false_or, cond_true, cond_false, okPack, okPut, okPutBlks, okPutCells, q_isP, q_isAg, q_isBox, q_isArr, q_int, q_bool, q_str, q_sl, q_nils, e_exit, e_ret, e_nrm, e_ret_exit, e_exit_ret, e_nrm_exit, e_nrm_ret, e_exit_nrm, e_ret_nrm, Nat.zero_add, Nat.reduceAdd, noslR, noslP, noslB, noslA, List.all_cons, List.all_nil]


theorem getE_imid {α : Type} (d : List Int) (x : Int) (xs : List Int) {n : Nat} (h : d.length = n) (K : List PV → Option α) : getE (intsK .i64 (d ++ x :: xs)) (n : Int) K = K [PV.int .i64 x] := by
  subst h
  rw [getE_ints (by simp; omega)]
  simp [List.getD]

/-- Numbers in the ranges. -/
def InR : List Shr → List Int → Prop
  | [], [] => True
  | s :: l, x :: xs => (s.lo ≤ x ∧ x ≤ s.hi) ∧ InR l xs
  | _, _ => False

theorem InR.length : ∀ {l : List Shr} {x : List Int}, InR l x → x.length = l.length
  | [], [], _ => rfl
  | s :: l, x :: xs, h => by simp [InR.length h.2]
  | [], _ :: _, h => h.elim
  | _ :: _, [], h => h.elim

theorem Up.left : ∀ {l : List Shr} {x y : List Int}, Up l x y → InR l x
  | [], [], [], _ => trivial
  | s :: l, x :: xs, y :: ys, h => ⟨by have := h.1; omega, Up.left h.2⟩
  | [], _ :: _, _, h => h.elim
  | [], [], _ :: _, h => h.elim
  | _ :: _, [], _, h => h.elim
  | _ :: _, _ :: _, [], h => h.elim
theorem Up.right : ∀ {l : List Shr} {x y : List Int}, Up l x y → InR l y
  | [], [], [], _ => trivial
  | s :: l, x :: xs, y :: ys, h => ⟨by have := h.1; omega, Up.right h.2⟩
  | [], _ :: _, _, h => h.elim
  | [], [], _ :: _, h => h.elim
  | _ :: _, [], _, h => h.elim
  | _ :: _, _ :: _, [], h => h.elim

theorem ranged_loop : ∀ (l : List Shr) (x : List Int) (p : List Shr) (px : List Int), px.length = p.length → (p ++ l).length ≤ 8 → InR l x →
    lp E (denC E) 70 0 [] 0 { vals := [AV.sl 1 (intsK .i64 (px ++ x)), AV.sl 3 (shK (p ++ l)), AV.int .i64 ((p ++ l).length : Int), AV.int .i64 (p.length : Int)], blks := [] } =
      some (Ex.exit 0, { vals := [], blks := [] })
  | [], [], p, px, hx, hl, h => by
    rw [r70_0, ctl_dec, if_neg (by simp)]
  | s :: l, x :: xs, p, px, hx, hl, h => by
    obtain ⟨⟨a1, a2⟩, hn⟩ := h
    simp only [List.length_append, List.length_cons] at hl
    rw [r70_0, ctl_dec, if_pos (by simp; omega)]
    simp only [getE_mid, getE_imid px x xs hx]
    have ih := ranged_loop l xs (p ++ [s]) (px ++ [x]) (by simp [hx]) (by simp; omega) hn
    simp only [List.append_assoc, List.cons_append, List.nil_append, List.length_append, List.length_cons, List.length_nil] at ih
    simp only [List.length_append, List.length_cons, shC, bnd_some, ctl_true, ctl_false, ctl_and, ctl_or', ctl_or2, x_toPV, x_toCs, x_toCs2, x_toEs, x_bEs, x_bCs, x_aPV, x_aCs, x_int, x_bool, x_str, x_es, x_esn, nth_0, nth_1, nth_2, nth_3, nth_4, nth_5, nth_6, nth_7, nth_8, nth_9, y_nil, y_int, y_bool, y_str, y_sl, y_nils, y_agg, y_ownp, y_own, z_nil, z_int, z_bool, z_str, z_sl, z_nils, b_nil, b_arr, b_box1, b_box2, b_box3, b_box4, List.map_cons, List.map_nil, Bool.and_self, Bool.and_true, Bool.true_and, Bool.not_true, Bool.not_false, Bool.or_false, Bool.false_or, cond_true, cond_false, okPack, okPut, okPutBlks, okPutCells, q_isP, q_isAg, q_isBox, q_isArr, q_int, q_bool, q_str, q_sl, q_nils, e_exit, e_ret, e_nrm, e_ret_exit, e_exit_ret, e_nrm_exit, e_nrm_ret, e_exit_nrm, e_ret_nrm, Nat.zero_add, Nat.reduceAdd, noslR, noslP, noslB, noslA, List.all_cons, List.all_nil]
    have k1 : ltB x s.lo = false := by simp; omega
    have k2 : ltB s.hi x = false := by simp; omega
    rw [w64 (n := (p.length : Int) + 1) (by omega)]
    have e1 : ((p.length : Int) + 1) = ((p.length + (0 + 1) : Nat) : Int) := by omega
    simp only [k1, k2, bnd_some, ctl_true, ctl_false, ctl_and, ctl_or', ctl_or2, x_toPV, x_toCs, x_toCs2, x_toEs, x_bEs, x_bCs, x_aPV, x_aCs, x_int, x_bool, x_str, x_es, x_esn, nth_0, nth_1, nth_2, nth_3, nth_4, nth_5, nth_6, nth_7, nth_8, nth_9, y_nil, y_int, y_bool, y_str, y_sl, y_nils, y_agg, y_ownp, y_own, z_nil, z_int, z_bool, z_str, z_sl, z_nils, b_nil, b_arr, b_box1, b_box2, b_box3, b_box4, List.map_cons, List.map_nil, Bool.and_self, Bool.and_true, Bool.true_and, Bool.not_true, Bool.not_false, Bool.or_false, Bool.false_or, cond_true, cond_false, okPack, okPut, okPutBlks, okPutCells, q_isP, q_isAg, q_isBox, q_isArr, q_int, q_bool, q_str, q_sl, q_nils, e_exit, e_ret, e_nrm, e_ret_exit, e_exit_ret, e_nrm_exit, e_nrm_ret, e_exit_nrm, e_ret_nrm, Nat.zero_add, Nat.reduceAdd, noslR, noslP, noslB, noslA, List.all_cons, List.all_nil]
    rw [e1, ih]
  | [], _ :: _, _, _, _, _, h => h.elim
  | _ :: _, [], _, _, _, _, h => h.elim

theorem c_ranged {l : List Shr} {x : List Int} (h : OkL l) (hx : InR l x) : denC E 70 [AV.sl 3 (shK l), AV.sl 1 (intsK .i64 x)] [] = some ([RV.p (PV.bool true)], []) := by
  rw [denC_eq, r70, c_Valid, validN_ok.2 h, shK_length, intsK_length, hx.length]
  have hl := ranged_loop l x [] [] rfl (by simpa using h.1) hx
  simp only [List.nil_append, List.length_nil] at hl
  have e0 : (((0 : Nat)) : Int) = 0 := rfl
  rw [e0] at hl
  have z : ((0 : Int) != 0) = false := rfl
  simp only [bnd_some, ctl_true, ctl_false, ctl_and, ctl_or', ctl_or2, x_toPV, x_toCs, x_toCs2, x_toEs, x_bEs, x_bCs, x_aPV, x_aCs, x_int, x_bool, x_str, x_es, x_esn, nth_0, nth_1, nth_2, nth_3, nth_4, nth_5, nth_6, nth_7, nth_8, nth_9, y_nil, y_int, y_bool, y_str, y_sl, y_nils, y_agg, y_ownp, y_own, z_nil, z_int, z_bool, z_str, z_sl, z_nils, b_nil, b_arr, b_box1, b_box2, b_box3, b_box4, List.map_cons, List.map_nil, Bool.and_self, Bool.and_true, Bool.true_and, Bool.not_true, Bool.not_false, Bool.or_false, Bool.false_or, cond_true, cond_false, okPack, okPut, okPutBlks, okPutCells, q_isP, q_isAg, q_isBox, q_isArr, q_int, q_bool, q_str, q_sl, q_nils, e_exit, e_ret, e_nrm, e_ret_exit, e_exit_ret, e_nrm_exit, e_nrm_ret, e_exit_nrm, e_ret_nrm, Nat.zero_add, Nat.reduceAdd, noslR, noslP, noslB, noslA, List.all_cons, List.all_nil, z, bne_self_eq_false]
  rw [hl]
  simp only [bnd_some, ctl_true, ctl_false, ctl_and, ctl_or', ctl_or2, x_toPV, x_toCs, x_toCs2, x_toEs, x_bEs, x_bCs, x_aPV, x_aCs, x_int, x_bool, x_str, x_es, x_esn, nth_0, nth_1, nth_2, nth_3, nth_4, nth_5, nth_6, nth_7, nth_8, nth_9, y_nil, y_int, y_bool, y_str, y_sl, y_nils, y_agg, y_ownp, y_own, z_nil, z_int, z_bool, z_str, z_sl, z_nils, b_nil, b_arr, b_box1, b_box2, b_box3, b_box4, List.map_cons, List.map_nil, Bool.and_self, Bool.and_true, Bool.true_and, Bool.not_true, Bool.not_false, Bool.or_false, Bool.false_or, cond_true, cond_false, okPack, okPut, okPutBlks, okPutCells, q_isP, q_isAg, q_isBox, q_isArr, q_int, q_bool, q_str, q_sl, q_nils, e_exit, e_ret, e_nrm, e_ret_exit, e_exit_ret, e_nrm_exit, e_nrm_ret, e_exit_nrm, e_ret_nrm, Nat.zero_add, Nat.reduceAdd, noslR, noslP, noslB, noslA, List.all_cons, List.all_nil]

def lst (s : Shr) (x : Int) : Int := s.c * (2 * x - 1)
theorem c_last {s : Shr} {x : Int} (h : OkS s) (hx : -5001 ≤ x ∧ x ≤ 5001) : denC E 91 [AV.agg [PV.int .i64 s.lo, PV.int .i64 s.hi, PV.int .i64 s.c], AV.int .i64 x] [] = some ([RV.p (PV.int .i64 (lst s x))], []) := by
  obtain ⟨_, _, _, h4, h5⟩ := h
  rw [denC_eq, r91, w64 (n := 2 * x) (by omega), w64 (n := 2 * x - 1) (by omega)]
  have h1 := mul_le (a := s.c) (b := 2 * x - 1) (m := 100) (n := 20000) (by omega) (by omega)
  rw [w64 (by omega)]
  rfl

/-- What the loop of Price finds. -/
def prS (low high : Int) (less more : Bool) : List Shr → List Int → Int × Int × Bool × Bool
  | s :: l, x :: xs => prS (bif (ltB s.lo x && (!less || ltB low (lst s x))) then lst s x else low) (bif (ltB x s.hi && (!more || ltB (nxt s x) high)) then nxt s x else high)
      ((ltB s.lo x && (!less || ltB low (lst s x))) || less) ((ltB x s.hi && (!more || ltB (nxt s x) high)) || more) l xs
  | _, _ => (low, high, less, more)

theorem price_loop : ∀ (l : List Shr) (x : List Int) (p : List Shr) (px : List Int) (low high : Int) (less more : Bool), px.length = p.length → (p ++ l).length ≤ 8 → (∀ s ∈ l, OkS s) → InR l x →
    lp E (denC E) 71 0 [] 0 { vals := [AV.sl 1 (intsK .i64 (px ++ x)), AV.int .i64 low, AV.int .i64 high, AV.bool less, AV.bool more, AV.sl 3 (shK (p ++ l)), AV.int .i64 ((p ++ l).length : Int), AV.int .i64 (p.length : Int)], blks := [] } =
      some (Ex.exit 0, { vals := [AV.int .i64 (prS low high less more l x).1, AV.int .i64 (prS low high less more l x).2.1, AV.bool (prS low high less more l x).2.2.1, AV.bool (prS low high less more l x).2.2.2], blks := [] })
  | [], [], p, px, low, high, less, more, hx, hl, _, h => by
    rw [r71_0, ctl_dec, if_neg (by simp)]
    rfl
  | s :: l, x :: xs, p, px, low, high, less, more, hx, hl, hs, h => by
    obtain ⟨⟨a1, a2⟩, hn⟩ := h
    have hk := hs s (List.mem_cons_self ..)
    have hk' := hk
    obtain ⟨b1, b2, b3, _⟩ := hk'
    simp only [List.length_append, List.length_cons] at hl
    have ih := fun a b c d => price_loop l xs (p ++ [s]) (px ++ [x]) a b c d (by simp [hx]) (by simp; omega) (fun y hy => hs y (List.mem_cons_of_mem _ hy)) hn
    rw [r71_0, ctl_dec, if_pos (by simp; omega)]
    simp only [getE_mid, getE_imid px x xs hx]
    simp only [List.append_assoc, List.cons_append, List.nil_append, List.length_append, List.length_cons, List.length_nil] at ih
    simp only [List.length_append, List.length_cons, shC, bnd_some, ctl_true, ctl_false, ctl_and, ctl_or', ctl_or2, x_toPV, x_toCs, x_toCs2, x_toEs, x_bEs, x_bCs, x_aPV, x_aCs, x_int, x_bool, x_str, x_es, x_esn, nth_0, nth_1, nth_2, nth_3, nth_4, nth_5, nth_6, nth_7, nth_8, nth_9, y_nil, y_int, y_bool, y_str, y_sl, y_nils, y_agg, y_ownp, y_own, z_nil, z_int, z_bool, z_str, z_sl, z_nils, b_nil, b_arr, b_box1, b_box2, b_box3, b_box4, List.map_cons, List.map_nil, Bool.and_self, Bool.and_true, Bool.true_and, Bool.not_true, Bool.not_false, Bool.or_false, Bool.false_or, cond_true, cond_false, okPack, okPut, okPutBlks, okPutCells, q_isP, q_isAg, q_isBox, q_isArr, q_int, q_bool, q_str, q_sl, q_nils, e_exit, e_ret, e_nrm, e_ret_exit, e_exit_ret, e_nrm_exit, e_nrm_ret, e_exit_nrm, e_ret_nrm, Nat.zero_add, Nat.reduceAdd, noslR, noslP, noslB, noslA, List.all_cons, List.all_nil, c_last hk (show -5001 ≤ x ∧ x ≤ 5001 by omega), c_next hk (show -5001 ≤ x ∧ x ≤ 5001 by omega)]
    rw [w64 (n := (p.length : Int) + 1) (by omega)]
    have e1 : ((p.length : Int) + 1) = ((p.length + (0 + 1) : Nat) : Int) := by omega
    rw [e1]
    simp only [ih, prS]
    cases (ltB s.lo x && (!less || ltB low (lst s x))) <;> cases (ltB x s.hi && (!more || ltB (nxt s x) high)) <;> rfl
  | [], _ :: _, _, _, _, _, _, _, _, _, _, h => h.elim
  | _ :: _, [], _, _, _, _, _, _, _, _, _, h => h.elim

/-- What Price answers. -/
def prc (l : List Shr) (x : List Int) : Int × Int × Bool × Bool := prS 0 0 false false l x
theorem c_Price {l : List Shr} {x : List Int} (h : OkL l) (hx : InR l x) :
    denC E 71 [AV.sl 3 (shK l), AV.sl 1 (intsK .i64 x)] [] =
      some ([RV.p (PV.int .i64 (bif (prc l x).2.2.1 && (prc l x).2.2.2 then (prc l x).1 else 0)), RV.p (PV.int .i64 (bif (prc l x).2.2.1 && (prc l x).2.2.2 then (prc l x).2.1 else 0)), RV.p (PV.bool ((prc l x).2.2.1 && (prc l x).2.2.2))], []) := by
  rw [denC_eq, r71, c_ranged h hx, shK_length]
  have hl := price_loop l x [] [] 0 0 false false rfl (by simpa using h.1) h.2 hx
  simp only [List.nil_append, List.length_nil] at hl
  have e0 : (((0 : Nat)) : Int) = 0 := rfl
  rw [e0] at hl
  simp only [bnd_some, ctl_true, ctl_false, ctl_and, ctl_or', ctl_or2, x_toPV, x_toCs, x_toCs2, x_toEs, x_bEs, x_bCs, x_aPV, x_aCs, x_int, x_bool, x_str, x_es, x_esn, nth_0, nth_1, nth_2, nth_3, nth_4, nth_5, nth_6, nth_7, nth_8, nth_9, y_nil, y_int, y_bool, y_str, y_sl, y_nils, y_agg, y_ownp, y_own, z_nil, z_int, z_bool, z_str, z_sl, z_nils, b_nil, b_arr, b_box1, b_box2, b_box3, b_box4, List.map_cons, List.map_nil, Bool.and_self, Bool.and_true, Bool.true_and, Bool.not_true, Bool.not_false, Bool.or_false, Bool.false_or, cond_true, cond_false, okPack, okPut, okPutBlks, okPutCells, q_isP, q_isAg, q_isBox, q_isArr, q_int, q_bool, q_str, q_sl, q_nils, e_exit, e_ret, e_nrm, e_ret_exit, e_exit_ret, e_nrm_exit, e_nrm_ret, e_exit_nrm, e_ret_nrm, Nat.zero_add, Nat.reduceAdd, noslR, noslP, noslB, noslA, List.all_cons, List.all_nil]
  rw [hl]
  simp only [bnd_some, ctl_true, ctl_false, ctl_and, ctl_or', ctl_or2, x_toPV, x_toCs, x_toCs2, x_toEs, x_bEs, x_bCs, x_aPV, x_aCs, x_int, x_bool, x_str, x_es, x_esn, nth_0, nth_1, nth_2, nth_3, nth_4, nth_5, nth_6, nth_7, nth_8, nth_9, y_nil, y_int, y_bool, y_str, y_sl, y_nils, y_agg, y_ownp, y_own, z_nil, z_int, z_bool, z_str, z_sl, z_nils, b_nil, b_arr, b_box1, b_box2, b_box3, b_box4, List.map_cons, List.map_nil, Bool.and_self, Bool.and_true, Bool.true_and, Bool.not_true, Bool.not_false, Bool.or_false, Bool.false_or, cond_true, cond_false, okPack, okPut, okPutBlks, okPutCells, q_isP, q_isAg, q_isBox, q_isArr, q_int, q_bool, q_str, q_sl, q_nils, e_exit, e_ret, e_nrm, e_ret_exit, e_exit_ret, e_nrm_exit, e_nrm_ret, e_exit_nrm, e_ret_nrm, Nat.zero_add, Nat.reduceAdd, noslR, noslP, noslB, noslA, List.all_cons, List.all_nil]
  unfold prc
  cases (prS 0 0 false false l x).2.2.1 <;> cases (prS 0 0 false false l x).2.2.2 <;> rfl

/-- No loss is greater than the price, no growth less. -/
theorem prS_le {r : Int} : ∀ {l : List Shr} {x : List Int} {low high : Int} {less more : Bool}, (less = true → low ≤ r) → (more = true → r ≤ high) →
    (∀ (i : Nat) (s : Shr) (y : Int), l[i]? = some s → x[i]? = some y → (s.lo < y → lst s y ≤ r) ∧ (y < s.hi → r ≤ nxt s y)) →
    ((prS low high less more l x).2.2.1 = true → (prS low high less more l x).1 ≤ r) ∧ ((prS low high less more l x).2.2.2 = true → r ≤ (prS low high less more l x).2.1)
  | s :: l, x :: xs, low, high, less, more, h1, h2, h3 => by
    have h0 := h3 0 s x rfl rfl
    simp only [prS]
    refine prS_le (l := l) (x := xs) ?_ ?_ (fun i s' y hs hy => h3 (i + 1) s' y hs hy)
    · intro h
      cases hb : (ltB s.lo x && (!less || ltB low (lst s x))) with
      | true =>
        rw [Bool.and_eq_true, decide_eq_true_eq] at hb
        exact h0.1 hb.1
      | false =>
        rw [hb, Bool.false_or] at h
        exact h1 h
    · intro h
      cases hb : (ltB x s.hi && (!more || ltB (nxt s x) high)) with
      | true =>
        rw [Bool.and_eq_true, decide_eq_true_eq] at hb
        exact h0.2 hb.1
      | false =>
        rw [hb, Bool.false_or] at h
        exact h2 h
  | [], [], _, _, _, _, h1, h2, _ => ⟨h1, h2⟩
  | [], _ :: _, _, _, _, _, h1, h2, _ => ⟨h1, h2⟩
  | _ :: _, [], _, _, _, _, h1, h2, _ => ⟨h1, h2⟩

theorem step_low {p p' less less' : Bool} {a b low low' : Int} (hpp : p = true → p' = true) (hab : a ≤ b) (h1 : less = true → less' = true ∧ low ≤ low') :
    ((p && (!less || ltB low a)) || less) = true → ((p' && (!less' || ltB low' b)) || less') = true ∧ (bif (p && (!less || ltB low a)) then a else low) ≤ (bif (p' && (!less' || ltB low' b)) then b else low') := by
  have hq : ltB low a = true ↔ low < a := by simp
  have hq' : ltB low' b = true ↔ low' < b := by simp
  generalize ltB low a = q at *
  generalize ltB low' b = q' at *
  cases p <;> cases p' <;> cases less <;> cases less' <;> cases q <;> cases q' <;> (try simp at hpp h1 hq hq' ⊢) <;> (try omega)

theorem step_high {p p' more more' : Bool} {c d high high' : Int} (hpp : p' = true → p = true) (hcd : c ≤ d) (h2 : more' = true → more = true ∧ high ≤ high') :
    ((p' && (!more' || ltB d high')) || more') = true → ((p && (!more || ltB c high)) || more) = true ∧ (bif (p && (!more || ltB c high)) then c else high) ≤ (bif (p' && (!more' || ltB d high')) then d else high') := by
  have hq : ltB c high = true ↔ c < high := by simp
  have hq' : ltB d high' = true ↔ d < high' := by simp
  generalize ltB c high = q at *
  generalize ltB d high' = q' at *
  cases p <;> cases p' <;> cases more <;> cases more' <;> cases q <;> cases q' <;> (try simp at hpp h2 hq hq' ⊢) <;> (try omega)

/-- Greater numbers, greater prices. -/
theorem prS_up : ∀ {l : List Shr} {x y : List Int} {low high low' high' : Int} {less more less' more' : Bool}, (∀ s ∈ l, OkS s) → Up l x y →
    (less = true → less' = true ∧ low ≤ low') → (more' = true → more = true ∧ high ≤ high') →
    ((prS low high less more l x).2.2.1 = true → (prS low' high' less' more' l y).2.2.1 = true ∧ (prS low high less more l x).1 ≤ (prS low' high' less' more' l y).1) ∧
    ((prS low' high' less' more' l y).2.2.2 = true → (prS low high less more l x).2.2.2 = true ∧ (prS low high less more l x).2.1 ≤ (prS low' high' less' more' l y).2.1)
  | [], [], [], _, _, _, _, _, _, _, _, _, _, h1, h2 => ⟨h1, h2⟩
  | s :: l, x :: xs, y :: ys, low, high, low', high', less, more, less', more', hs, hu, h1, h2 => by
    obtain ⟨⟨u1, u2, u3, u4⟩, hu⟩ := hu
    have hk := (hs s (List.mem_cons_self ..)).2.2.2.1
    have m1 : lst s x ≤ lst s y := Int.mul_le_mul_of_nonneg_left (by omega) (by omega)
    have m2 : nxt s x ≤ nxt s y := Int.mul_le_mul_of_nonneg_left (by omega) (by omega)
    simp only [prS]
    generalize lst s x = a at *
    generalize lst s y = b at *
    generalize nxt s x = c at *
    generalize nxt s y = d at *
    refine prS_up (fun z hz => hs z (List.mem_cons_of_mem _ hz)) hu ?_ ?_
    · exact step_low (by simp; omega) m1 h1
    · exact step_high (by simp; omega) m2 h2
  | [], _ :: _, _, _, _, _, _, _, _, _, _, _, h, _, _ => h.elim
  | [], [], _ :: _, _, _, _, _, _, _, _, _, _, h, _, _ => h.elim
  | _ :: _, [], _, _, _, _, _, _, _, _, _, _, h, _, _ => h.elim
  | _ :: _, _ :: _, [], _, _, _, _, _, _, _, _, _, h, _, _ => h.elim

theorem nP_price {r x : Int} {s : Shr} (hs : OkS s) (h1 : nP (r - 1) s ≤ x) (h2 : x ≤ nP r s) : (s.lo < x → lst s x ≤ r) ∧ (x < s.hi → r ≤ nxt s x) := by
  obtain ⟨k1, k2, k3, k4, k5⟩ := hs
  unfold nP at h1 h2
  rw [clamp_eq] at h1 h2
  have b1 := div_bounds (r - 1 + s.c) (d := 2 * s.c) (by omega)
  have b2 := div_bounds (r + s.c) (d := 2 * s.c) (by omega)
  generalize (r - 1 + s.c) / (2 * s.c) = q at *
  generalize (r + s.c) / (2 * s.c) = q' at *
  rw [Int.mul_assoc] at b1 b2
  unfold lst nxt
  constructor
  · intro h
    have hq : x ≤ q' := by split at h2 <;> split at h2 <;> omega
    have e1 : s.c * x ≤ s.c * q' := Int.mul_le_mul_of_nonneg_left hq (by omega)
    rw [Int.mul_sub, Int.mul_one, Int.mul_left_comm]
    omega
  · intro h
    have hq : q ≤ x := by split at h1 <;> split at h1 <;> omega
    have e1 : s.c * q ≤ s.c * x := Int.mul_le_mul_of_nonneg_left hq (by omega)
    rw [Int.mul_add, Int.mul_one, Int.mul_left_comm]
    omega

theorem fillK_price (r : Int) : ∀ {l : List Shr} {k : Int}, (∀ s ∈ l, OkS s) → ∀ (i : Nat) (s : Shr) (y : Int), l[i]? = some s → (fillK r l k)[i]? = some y → (s.lo < y → lst s y ≤ r) ∧ (y < s.hi → r ≤ nxt s y)
  | s0 :: l, k, hs, i, s, y, h1, h2 => by
    have hk := hs s0 (List.mem_cons_self ..)
    obtain ⟨x, m, e1, a1, a2, _⟩ := fillK_at r hk k
    rw [e1] at h2
    cases i with
    | zero =>
      simp only [List.getElem?_cons_zero, Option.some.injEq] at h1 h2
      subst h1; subst h2
      exact nP_price hk a1 a2
    | succ i => exact fillK_price r (fun z hz => hs z (List.mem_cons_of_mem _ hz)) i s y h1 h2
  | [], _, _, _, _, _, h1, _ => by simp at h1

theorem divL_price {l : List Shr} (hl : OkL l) (T r : Int) : ((prc l (divL l T r)).2.2.1 = true → (prc l (divL l T r)).1 ≤ r) ∧ ((prc l (divL l T r)).2.2.2 = true → r ≤ (prc l (divL l T r)).2.1) := by
  rw [divL_eq hl]
  exact prS_le (fun h => by cases h) (fun h => by cases h) (fillK_price r hl.2)

end Go.Proofs.Ytcnjaffogkkpnaa.Vm.Div

/- Sum, Check and the theorem of the certificate. -/
namespace Go.Proofs.Ytcnjaffogkkpnaa.Vm.Div
set_option linter.unusedVariables false
set_option linter.unusedSimpArgs false

def costS : List Shr → List Int → Int
  | s :: l, x :: xs => s.c * x * x + costS l xs
  | _, _ => 0

theorem sq_le {s : Shr} {x : Int} (h : OkS s) (h1 : s.lo ≤ x) (h2 : x ≤ s.hi) : -500000 ≤ s.c * x ∧ s.c * x ≤ 500000 ∧ 0 ≤ s.c * x * x ∧ s.c * x * x ≤ 2500000000 := by
  obtain ⟨a, b, c, d, e⟩ := h
  have m1 := mul_le (a := s.c) (b := x) (m := 100) (n := 5000) (by omega) (by omega)
  have m2 := mul_le (a := s.c * x) (b := x) (m := 500000) (n := 5000) (by omega) (by omega)
  have m3 : 0 ≤ s.c * x * x := by
    rw [Int.mul_assoc]
    refine Int.mul_nonneg (by omega) ?_
    rcases Int.le_total 0 x with h | h
    · exact Int.mul_nonneg h h
    · exact Int.mul_nonneg_of_nonpos_of_nonpos h h
  omega

theorem InR.bound : ∀ {l : List Shr} {x : List Int}, (∀ s ∈ l, OkS s) → InR l x → ∀ y ∈ x, -5000 ≤ y ∧ y ≤ 5000
  | [], [], _, _, _, h => by cases h
  | s :: l, x :: xs, hs, h, y, hy => by
    rcases List.mem_cons.1 hy with rfl | hy
    · have := hs s (List.mem_cons_self ..)
      have h1 := h.1
      unfold OkS at this
      omega
    · exact InR.bound (fun z hz => hs z (List.mem_cons_of_mem _ hz)) h.2 y hy
  | [], _ :: _, _, h, _, _ => h.elim
  | _ :: _, [], _, h, _, _ => h.elim

theorem check_loop {l0 : List (List PV)} {total a b : Int} {z : List Int} (hz : z.length ≤ 8) : ∀ (l d : List Int) (n : Int), d ++ l = z → (∀ y ∈ l, -5000 ≤ y ∧ y ≤ 5000) → -5000 * (d.length : Int) ≤ n ∧ n ≤ 5000 * (d.length : Int) →
    lp E (denC E) 42 0 [] 0 { vals := [AV.sl 3 l0, AV.int .i64 total, AV.sl 1 (intsK .i64 z), AV.int .i64 a, AV.int .i64 b, AV.int .i64 n, AV.sl 1 (intsK .i64 z), AV.int .i64 (z.length : Int), AV.int .i64 (d.length : Int)], blks := [] } =
      some (Ex.exit 0, { vals := [AV.sl 3 l0, AV.int .i64 total, AV.sl 1 (intsK .i64 z), AV.int .i64 a, AV.int .i64 b, AV.int .i64 (n + sumI l)], blks := [] })
  | [], d, n, hd, _, _ => by
    rw [r42_0, ctl_dec, if_neg (by rw [← hd]; simp)]
    simp [sumI]
  | u :: l, d, n, hd, hu, hn => by
    have hk := hu u (List.mem_cons_self ..)
    have hlt : d.length < z.length := by rw [← hd]; simp
    rw [r42_0, ctl_dec, if_pos (by omega), getE_ints (by omega)]
    have e1 : z.getD ((d.length : Int)).toNat 0 = u := by rw [← hd]; simp [List.getD]
    rw [e1]
    simp only [bnd_some, ctl_true, ctl_false, ctl_and, ctl_or', ctl_or2, x_toPV, x_toCs, x_toCs2, x_toEs, x_bEs, x_bCs, x_aPV, x_aCs, x_int, x_bool, x_str, x_es, x_esn, nth_0, nth_1, nth_2, nth_3, nth_4, nth_5, nth_6, nth_7, nth_8, nth_9, y_nil, y_int, y_bool, y_str, y_sl, y_nils, y_agg, y_ownp, y_own, z_nil, z_int, z_bool, z_str, z_sl, z_nils, b_nil, b_arr, b_box1, b_box2, b_box3, b_box4, List.map_cons, List.map_nil, Bool.and_self, Bool.and_true, Bool.true_and, Bool.not_true, Bool.not_false, Bool.or_false, Bool.false_or, cond_true, cond_false, okPack, okPut, okPutBlks, okPutCells, q_isP, q_isAg, q_isBox, q_isArr, q_int, q_bool, q_str, q_sl, q_nils, e_exit, e_ret, e_nrm, e_ret_exit, e_exit_ret, e_nrm_exit, e_nrm_ret, e_exit_nrm, e_ret_nrm, Nat.zero_add, Nat.reduceAdd, noslR, noslP, noslB, noslA, List.all_cons, List.all_nil]
    have ih := check_loop (l0 := l0) (total := total) (a := a) (b := b) hz l (d ++ [u]) (n + u) (by rw [← hd]; simp) (fun v hv => hu v (List.mem_cons_of_mem _ hv)) (by simp; omega)
    rw [w64 (n := n + u) (by omega), w64 (n := (d.length : Int) + 1) (by omega)]
    simp only [List.length_append, List.length_cons, List.length_nil] at ih
    have e3 : ((d.length : Int) + 1) = ((d.length + (0 + 1) : Nat) : Int) := by omega
    rw [e3, ih]
    simp only [sumI, Int.add_assoc]

/-- What Check answers. -/
def chk (l : List Shr) (total : Int) (x : List Int) : Bool :=
  (sumI x == clamp total (lows l) (highs l)) && (!((prc l x).2.2.1 && (prc l x).2.2.2) || leB (prc l x).1 (prc l x).2.1)

theorem c_Check {l : List Shr} {x : List Int} (h : OkL l) (hx : InR l x) (total : Int) : denC E 42 [AV.sl 3 (shK l), AV.int .i64 total, AV.sl 1 (intsK .i64 x)] [] = some ([RV.p (PV.bool (chk l total x))], []) := by
  rw [denC_eq, r42, c_ranged h hx, c_Reach h, intsK_length]
  have hl8 : x.length ≤ 8 := by rw [hx.length]; exact h.1
  have hl := check_loop (l0 := shK l) (total := total) (a := lows l) (b := highs l) hl8 x [] 0 rfl (hx.bound h.2) (by simp)
  simp only [List.length_nil, Int.zero_add] at hl
  have e0 : (((0 : Nat)) : Int) = 0 := rfl
  rw [e0] at hl
  simp only [bnd_some, ctl_true, ctl_false, ctl_and, ctl_or', ctl_or2, x_toPV, x_toCs, x_toCs2, x_toEs, x_bEs, x_bCs, x_aPV, x_aCs, x_int, x_bool, x_str, x_es, x_esn, nth_0, nth_1, nth_2, nth_3, nth_4, nth_5, nth_6, nth_7, nth_8, nth_9, y_nil, y_int, y_bool, y_str, y_sl, y_nils, y_agg, y_ownp, y_own, z_nil, z_int, z_bool, z_str, z_sl, z_nils, b_nil, b_arr, b_box1, b_box2, b_box3, b_box4, List.map_cons, List.map_nil, Bool.and_self, Bool.and_true, Bool.true_and, Bool.not_true, Bool.not_false, Bool.or_false, Bool.false_or, cond_true, cond_false, okPack, okPut, okPutBlks, okPutCells, q_isP, q_isAg, q_isBox, q_isArr, q_int, q_bool, q_str, q_sl, q_nils, e_exit, e_ret, e_nrm, e_ret_exit, e_exit_ret, e_nrm_exit, e_nrm_ret, e_exit_nrm, e_ret_nrm, Nat.zero_add, Nat.reduceAdd, noslR, noslP, noslB, noslA, List.all_cons, List.all_nil]
  rw [hl]
  simp only [bnd_some, ctl_true, ctl_false, ctl_and, ctl_or', ctl_or2, x_toPV, x_toCs, x_toCs2, x_toEs, x_bEs, x_bCs, x_aPV, x_aCs, x_int, x_bool, x_str, x_es, x_esn, nth_0, nth_1, nth_2, nth_3, nth_4, nth_5, nth_6, nth_7, nth_8, nth_9, y_nil, y_int, y_bool, y_str, y_sl, y_nils, y_agg, y_ownp, y_own, z_nil, z_int, z_bool, z_str, z_sl, z_nils, b_nil, b_arr, b_box1, b_box2, b_box3, b_box4, List.map_cons, List.map_nil, Bool.and_self, Bool.and_true, Bool.true_and, Bool.not_true, Bool.not_false, Bool.or_false, Bool.false_or, cond_true, cond_false, okPack, okPut, okPutBlks, okPutCells, q_isP, q_isAg, q_isBox, q_isArr, q_int, q_bool, q_str, q_sl, q_nils, e_exit, e_ret, e_nrm, e_ret_exit, e_exit_ret, e_nrm_exit, e_nrm_ret, e_exit_nrm, e_ret_nrm, Nat.zero_add, Nat.reduceAdd, noslR, noslP, noslB, noslA, List.all_cons, List.all_nil]
  rw [c_Price h hx, c_Clamp]
  simp only [bnd_some, ctl_true, ctl_false, ctl_and, ctl_or', ctl_or2, x_toPV, x_toCs, x_toCs2, x_toEs, x_bEs, x_bCs, x_aPV, x_aCs, x_int, x_bool, x_str, x_es, x_esn, nth_0, nth_1, nth_2, nth_3, nth_4, nth_5, nth_6, nth_7, nth_8, nth_9, y_nil, y_int, y_bool, y_str, y_sl, y_nils, y_agg, y_ownp, y_own, z_nil, z_int, z_bool, z_str, z_sl, z_nils, b_nil, b_arr, b_box1, b_box2, b_box3, b_box4, List.map_cons, List.map_nil, Bool.and_self, Bool.and_true, Bool.true_and, Bool.not_true, Bool.not_false, Bool.or_false, Bool.false_or, cond_true, cond_false, okPack, okPut, okPutBlks, okPutCells, q_isP, q_isAg, q_isBox, q_isArr, q_int, q_bool, q_str, q_sl, q_nils, e_exit, e_ret, e_nrm, e_ret_exit, e_exit_ret, e_nrm_exit, e_nrm_ret, e_exit_nrm, e_ret_nrm, Nat.zero_add, Nat.reduceAdd, noslR, noslP, noslB, noslA, List.all_cons, List.all_nil]
  unfold chk
  cases (prc l x).2.2.1 <;> cases (prc l x).2.2.2 <;> rfl

/-- p is a price of the numbers: no loss is greater, no growth less. -/
def Pr (p : Int) : List Shr → List Int → Prop
  | [], [] => True
  | s :: l, x :: xs => ((s.lo < x → lst s x ≤ p) ∧ (x < s.hi → p ≤ nxt s x)) ∧ Pr p l xs
  | _, _ => False

theorem one_le {s : Shr} {p x y : Int} (hs : OkS s) (hx : s.lo ≤ x ∧ x ≤ s.hi) (hy : s.lo ≤ y ∧ y ≤ s.hi) (h : (s.lo < x → lst s x ≤ p) ∧ (x < s.hi → p ≤ nxt s x)) : p * (y - x) ≤ s.c * y * y - s.c * x * x := by
  have hc := hs.2.2.2.1
  have e : s.c * y * y - s.c * x * x = (s.c * (y + x)) * (y - x) := by
    rw [Int.mul_sub, Int.mul_assoc, Int.mul_assoc, Int.mul_assoc, Int.mul_assoc, Int.add_mul, Int.add_mul, Int.mul_add, Int.mul_add, Int.mul_comm y x]
    omega
  rw [e]
  unfold lst nxt at h
  rcases Int.lt_trichotomy x y with c | c | c
  · have h1 := h.2 (by omega)
    have h2 : s.c * (2 * x + 1) ≤ s.c * (y + x) := Int.mul_le_mul_of_nonneg_left (by omega) (by omega)
    exact Int.mul_le_mul_of_nonneg_right (by omega) (by omega)
  · subst c; simp
  · have h1 := h.1 (by omega)
    have h2 : s.c * (y + x) ≤ s.c * (2 * x - 1) := Int.mul_le_mul_of_nonneg_left (by omega) (by omega)
    have h3 : s.c * (y + x) ≤ p := by omega
    have h4 := Int.mul_le_mul_of_nonneg_right h3 (show 0 ≤ x - y by omega)
    have e1 : p * (y - x) = -(p * (x - y)) := by rw [← Int.mul_neg]; congr 1; omega
    have e2 : s.c * (y + x) * (y - x) = -(s.c * (y + x) * (x - y)) := by rw [← Int.mul_neg]; congr 1; omega
    rw [e1, e2]; omega

theorem cost_le (p : Int) : ∀ {l : List Shr} {x y : List Int}, (∀ s ∈ l, OkS s) → InR l x → InR l y → Pr p l x → p * (sumI y - sumI x) ≤ costS l y - costS l x
  | [], [], [], _, _, _, _ => by simp [sumI, costS]
  | s :: l, x :: xs, y :: ys, hs, hx, hy, hp => by
    have ih := cost_le p (fun z hz => hs z (List.mem_cons_of_mem _ hz)) hx.2 hy.2 hp.2
    have h1 := one_le (hs s (List.mem_cons_self ..)) hx.1 hy.1 hp.1
    simp only [sumI, costS]
    have e : p * (y + sumI ys - (x + sumI xs)) = p * (y - x) + p * (sumI ys - sumI xs) := by rw [← Int.mul_add]; congr 1; omega
    rw [e]; omega
  | [], _ :: _, _, _, h, _, _ => h.elim
  | [], [], _ :: _, _, _, h, _ => h.elim
  | _ :: _, [], _, _, h, _, _ => h.elim
  | _ :: _, _ :: _, [], _, _, h, _ => h.elim

/-- The certificate: numbers with a price cost least. -/
theorem cert_least {p : Int} {l : List Shr} {x y : List Int} (hl : OkL l) (hx : InR l x) (hy : InR l y) (hp : Pr p l x) (h : sumI y = sumI x) : costS l x ≤ costS l y := by
  have := cost_le p hl.2 hx hy hp
  rw [h, Int.sub_self, Int.mul_zero] at this
  omega

theorem fillK_pr (r : Int) : ∀ {l : List Shr} {k : Int}, (∀ s ∈ l, OkS s) → Pr r l (fillK r l k)
  | [], _, _ => trivial
  | s :: l, k, hs => by
    have hk := hs s (List.mem_cons_self ..)
    obtain ⟨x, m, e1, a1, a2, _⟩ := fillK_at r hk k
    rw [e1]
    exact ⟨nP_price hk a1 a2, fillK_pr r fun z hz => hs z (List.mem_cons_of_mem _ hz)⟩

/-- The loop of Price only raises the one and lowers the other. -/
theorem prS_keep : ∀ {l : List Shr} {x : List Int} {low high : Int} {less more : Bool},
    (less = true → (prS low high less more l x).2.2.1 = true ∧ low ≤ (prS low high less more l x).1) ∧ (more = true → (prS low high less more l x).2.2.2 = true ∧ (prS low high less more l x).2.1 ≤ high)
  | s :: l, x :: xs, low, high, less, more => by
    simp only [prS]
    have ih := prS_keep (l := l) (x := xs) (low := bif (ltB s.lo x && (!less || ltB low (lst s x))) then lst s x else low) (high := bif (ltB x s.hi && (!more || ltB (nxt s x) high)) then nxt s x else high)
      (less := (ltB s.lo x && (!less || ltB low (lst s x))) || less) (more := (ltB x s.hi && (!more || ltB (nxt s x) high)) || more)
    constructor
    · intro h
      subst h
      obtain ⟨h1, h2⟩ := ih.1 (by simp)
      refine ⟨h1, Int.le_trans ?_ h2⟩
      cases hb : (ltB s.lo x && (!true || ltB low (lst s x))) with
      | false => exact Int.le_refl _
      | true => simp at hb ⊢; omega
    · intro h
      subst h
      obtain ⟨h1, h2⟩ := ih.2 (by simp)
      refine ⟨h1, Int.le_trans h2 ?_⟩
      cases hb : (ltB x s.hi && (!true || ltB (nxt s x) high)) with
      | false => exact Int.le_refl _
      | true => simp at hb ⊢; omega
  | [], [], _, _, _, _ => ⟨fun h => ⟨h, Int.le_refl _⟩, fun h => ⟨h, Int.le_refl _⟩⟩
  | [], _ :: _, _, _, _, _ => ⟨fun h => ⟨h, Int.le_refl _⟩, fun h => ⟨h, Int.le_refl _⟩⟩
  | _ :: _, [], _, _, _, _ => ⟨fun h => ⟨h, Int.le_refl _⟩, fun h => ⟨h, Int.le_refl _⟩⟩

/-- What Price found bounds every loss and every growth. -/
theorem prS_pr {p : Int} : ∀ {l : List Shr} {x : List Int} {low high : Int} {less more : Bool}, InR l x →
    ((prS low high less more l x).2.2.1 = true → (prS low high less more l x).1 ≤ p) → ((prS low high less more l x).2.2.2 = true → p ≤ (prS low high less more l x).2.1) → Pr p l x
  | [], [], _, _, _, _, _, _, _ => trivial
  | s :: l, x :: xs, low, high, less, more, h, h1, h2 => by
    simp only [prS] at h1 h2
    refine ⟨⟨fun hx => ?_, fun hx => ?_⟩, prS_pr h.2 h1 h2⟩
    · have k := (prS_keep (l := l) (x := xs) (low := bif (ltB s.lo x && (!less || ltB low (lst s x))) then lst s x else low) (high := bif (ltB x s.hi && (!more || ltB (nxt s x) high)) then nxt s x else high)
        (less := (ltB s.lo x && (!less || ltB low (lst s x))) || less) (more := (ltB x s.hi && (!more || ltB (nxt s x) high)) || more)).1 (by cases less <;> simp [hx])
      have g := h1 k.1
      have e : lst s x ≤ bif (ltB s.lo x && (!less || ltB low (lst s x))) then lst s x else low := by
        cases hb : (ltB s.lo x && (!less || ltB low (lst s x))) with
        | true => exact Int.le_refl _
        | false =>
          cases less with
          | false => simp [hx] at hb
          | true => simp [hx] at hb ⊢; omega
      omega
    · have k := (prS_keep (l := l) (x := xs) (low := bif (ltB s.lo x && (!less || ltB low (lst s x))) then lst s x else low) (high := bif (ltB x s.hi && (!more || ltB (nxt s x) high)) then nxt s x else high)
        (less := (ltB s.lo x && (!less || ltB low (lst s x))) || less) (more := (ltB x s.hi && (!more || ltB (nxt s x) high)) || more)).2 (by cases more <;> simp [hx])
      have g := h2 k.1
      have e : (bif (ltB x s.hi && (!more || ltB (nxt s x) high)) then nxt s x else high) ≤ nxt s x := by
        cases hb : (ltB x s.hi && (!more || ltB (nxt s x) high)) with
        | true => exact Int.le_refl _
        | false =>
          cases more with
          | false => simp [hx] at hb
          | true => simp [hx] at hb ⊢; omega
      omega
  | [], _ :: _, _, _, _, _, h, _, _ => h.elim
  | _ :: _, [], _, _, _, _, h, _, _ => h.elim

/-- What Check accepts has a price. -/
theorem chk_pr {l : List Shr} {x : List Int} {total : Int} (hx : InR l x) (h : chk l total x = true) : sumI x = clamp total (lows l) (highs l) ∧ ∃ p, Pr p l x := by
  unfold chk at h
  rw [Bool.and_eq_true, beq_iff_eq] at h
  refine ⟨h.1, ?_⟩
  have h2 := h.2
  have key : ∀ p, ((prc l x).2.2.1 = true → (prc l x).1 ≤ p) → ((prc l x).2.2.2 = true → p ≤ (prc l x).2.1) → Pr p l x := fun p a b => prS_pr hx a b
  generalize prc l x = A at *
  obtain ⟨a, b, le, mo⟩ := A
  simp only at h2 key
  cases le
  · cases mo
    · exact ⟨0, key 0 (fun h => by cases h) (fun h => by cases h)⟩
    · exact ⟨b, key b (fun h => by cases h) (fun _ => Int.le_refl _)⟩
  · cases mo
    · exact ⟨a, key a (fun _ => Int.le_refl _) (fun h => by cases h)⟩
    · simp at h2
      exact ⟨a, key a (fun _ => Int.le_refl _) (fun _ => h2)⟩

theorem pr_chk {l : List Shr} {x : List Int} {total r : Int} (h : ((prc l x).2.2.1 = true → (prc l x).1 ≤ r) ∧ ((prc l x).2.2.2 = true → r ≤ (prc l x).2.1)) (hs : sumI x = clamp total (lows l) (highs l)) : chk l total x = true := by
  unfold chk
  rw [hs]
  generalize prc l x = A at *
  obtain ⟨a, b, le, mo⟩ := A
  simp only at h
  cases le <;> cases mo <;> simp at h ⊢
  omega

end Go.Proofs.Ytcnjaffogkkpnaa.Vm.Div
