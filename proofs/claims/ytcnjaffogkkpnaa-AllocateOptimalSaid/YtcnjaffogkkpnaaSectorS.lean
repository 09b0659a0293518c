/- The thrusters of the source, Rated, the example of the chapter. -/
import Derived.Test.YtcnjaffogkkpnaaSectorC
namespace Go.Proofs.Ytcnjaffogkkpnaa.Vm
set_option linter.unusedVariables false
set_option linter.unusedSimpArgs false

/-- The arcs that the source makes. -/
def SrcA (a : Int × Int) : Prop := ∃ f ∈ [0, 450, 800, 1350, 1800, 2600, 3500], ∃ w ∈ [0, 100, 300, 900, 1799], a = (f, (f + w) % 3600)

theorem SrcA_valid {a : Int × Int} (h : SrcA a) : Valid a.1 a.2 = true := by
  obtain ⟨f, hf, w, hw, rfl⟩ := h
  have hf' : 0 ≤ f ∧ f ≤ 3500 := by simp only [List.mem_cons, List.not_mem_nil, or_false] at hf; omega
  have hw' : 0 ≤ w ∧ w ≤ 1799 := by simp only [List.mem_cons, List.not_mem_nil, or_false] at hw; omega
  refine Valid_iff.2 ⟨by simp only; omega, by simp only; omega, by simp only; omega, by simp only; omega, ?_⟩
  unfold Width Norm
  simp only
  omega

theorem SrcA_arc (L : List Int) (k : Nat) : SrcA (arcFrom L k, arcTo L k) := ⟨_, arcFrom_in L k, _, arcWidth_in L (at' L k), rfl⟩

theorem okA_of {l : List (Int × Int)} (h : ∀ a ∈ l, SrcA a) : okA' l = true := by
  unfold okA'
  rw [List.all_eq_true]
  exact fun a ha => SrcA_valid (h a ha)

/-- The thrusters that the source makes. -/
def SrcT (t : Thr) : Prop := 1 ≤ t.kd ∧ t.kd ≤ 3 ∧ 0 ≤ t.st ∧ t.st ≤ 1 ∧ 0 ≤ t.mx ∧ t.mx ≤ 40 ∧ 0 ≤ t.rt ∧ t.rt ≤ 50 ∧ 1 ≤ t.ct ∧ t.ct ≤ 100 ∧ t.fb.length ≤ 2 ∧ ∀ a ∈ t.fb, SrcA a
theorem SrcT_ok {t : Thr} (h : SrcT t) : okT t = true := by
  obtain ⟨h1, h2, h3, h4, h5, h6, h7, h8, h9, h10, h11, h12⟩ := h
  exact okT_iff.2 ⟨okT0_iff.2 (by omega), okA_of h12⟩

def arcsL (L : List Int) : Nat → Nat → List (Int × Int)
  | _, 0 => []
  | k, n + 1 => (arcFrom L k, arcTo L k) :: arcsL L (at' L (at' L k)) n
def arcsK (L : List Int) : Nat → Nat → Nat
  | k, 0 => k
  | k, n + 1 => arcsK L (at' L (at' L k)) n
theorem arcsL_length (L : List Int) : ∀ k n, (arcsL L k n).length = n
  | k, 0 => rfl
  | k, n + 1 => by simp [arcsL, arcsL_length L _ n]
theorem arcsL_src (L : List Int) : ∀ k n, ∀ a ∈ arcsL L k n, SrcA a
  | k, 0, a, h => by cases h
  | k, n + 1, a, h => by
    unfold arcsL at h
    rcases List.mem_cons.1 h with h | h
    · rw [h]; exact SrcA_arc L k
    · exact arcsL_src L _ n a h
theorem arcsK_le {L : List Int} (hL : L.length ≤ 600) : ∀ (n k : Nat), k ≤ 600 → arcsK L k n ≤ 600
  | 0, k, h => h
  | n + 1, k, h => arcsK_le hL n _ (at'_le hL (at'_le hL h))

theorem b_box2h (ss : List Sh) (a b : PV) (l : List (List Sh ⊕ Nat)) (r : List Blk) : okB (.inl ss :: l) (.box [.t (.p a), .t (.p b)] :: r) = (okCs ss [a, b] && okB l r) := rfl

theorem thr_loop {L : List Int} (hL : L.length ≤ 600) (b1 : Blk) (h1 : b1 = Blk.box [AV.int .i64 0, AV.int .i64 0, AV.int .i64 0, AV.int .i64 0, AV.int .i64 0, AV.sl 2 []]) (c0 c1 c2 c3 c4 : Int) : ∀ (n k : Nat) (acc : List (Int × Int)), k ≤ 600 → acc.length + n ≤ 1000 →
    lp E (denC E) 50 1 [] 0 { vals := [AV.int .i64 n], blks := [src L k, b1, Blk.box [AV.int .i64 c0, AV.int .i64 c1, AV.int .i64 c2, AV.int .i64 c3, AV.int .i64 c4, AV.t (TV.hsl 3)], Blk.arr 2 (arcK acc)] } =
      some (Ex.exit 0, { vals := [], blks := [src L (arcsK L k n), b1, Blk.box [AV.int .i64 c0, AV.int .i64 c1, AV.int .i64 c2, AV.int .i64 c3, AV.int .i64 c4, AV.t (TV.hsl 3)], Blk.arr 2 (arcK (acc ++ arcsL L k n))] })
  | 0, k, acc, hk, ha => by
    subst h1
    rw [r50_0, ctl_dec, if_neg (by omega)]
    simp [arcsL, arcsK]
  | n + 1, k, acc, hk, ha => by
    have ih := thr_loop hL b1 h1 c0 c1 c2 c3 c4 n (at' L (at' L k)) (acc ++ [(arcFrom L k, arcTo L k)]) (at'_le hL (at'_le hL hk)) (by simp; omega)
    subst h1
    have hA := c_Arc hL hk
    rw [r50_0, ctl_dec, if_pos (by omega), hA]
    simp only [bnd_some, ctl_true, ctl_false, ctl_and, ctl_or', ctl_or2, x_toPV, x_toCs, x_toCs2, x_toEs, x_bEs, x_bCs, x_aPV, x_aCs, x_int, x_bool, x_str, x_es, x_esn, nth_0, nth_1, nth_2, nth_3, nth_4, nth_5, nth_6, nth_7, nth_8, nth_9, y_nil, y_int, y_bool, y_str, y_sl, y_nils, y_agg, y_ownp, y_own, z_nil, z_int, z_bool, z_str, z_sl, z_nils, b_nil, b_arr, b_box1, b_box2, b_box3, b_box4, List.map_cons, List.map_nil, Bool.and_self, Bool.and_true, Bool.true_and, Bool.not_true, Bool.not_false, Bool.or_false, Bool.false_or, cond_true, cond_false, okPack, okPut, okPutBlks, okPutCells, q_isP, q_isAg, q_isBox, q_isArr, q_int, q_bool, q_str, q_sl, q_nils, e_exit, e_ret, e_nrm, e_ret_exit, e_exit_ret, e_nrm_exit, e_nrm_ret, e_exit_nrm, e_ret_nrm, Nat.zero_add, Nat.reduceAdd, noslR, noslP, noslB, noslA, List.all_cons, List.all_nil]
    have e2 : leN (((arcK acc).length + 1) * 16) 140737488355328 = true := by rw [arcK_length]; simp only [decide_eq_true_eq]; omega
    rw [e2, w64 (by omega)]
    have e3 : ((n + 1 : Nat) : Int) - 1 = (n : Nat) := by omega
    rw [e3]
    rw [arcK_append] at ih
    simp only [ctl_true]
    refine Eq.trans ih ?_
    simp only [arcsL, arcsK, List.append_assoc, List.cons_append, List.nil_append]

theorem c_Thruster {L : List Int} {k : Nat} (hL : L.length ≤ 600) (hk : k ≤ 600) :
    ∃ (t : Thr) (k' : Nat), denC E 50 [AV.t (.ptr 0 0)] [src L k] = some ([RV.agg (thC t)], [src L k']) ∧ SrcT t ∧ k' ≤ 600 := by
  have hk1 := at'_le hL hk
  have hk2 := at'_le hL hk1
  have hk3 := at'_le hL hk2
  have hk4 := at'_le hL hk3
  have hk5 := at'_le hL hk4
  have hk6 := at'_le hL hk5
  have hR := c_Range hL hk (lo := 1) (hi := 3) (by decide)
  have bR := vRange_bounds (L := L) (k := k) (lo := 1) (hi := 3) (by decide)
  have hN1 := c_N hL hk1 2 (by decide)
  have bN1 := vN_bounds (L := L) (k := at' L k) (n := 2) (by decide)
  have e1 : denC E 49 [AV.t (.ptr 0 0), AV.sl 1 [[PV.int .i64 0], [PV.int .i64 1], [PV.int .i64 7], [PV.int .i64 20], [PV.int .i64 40]]] _ = _ := c_Pick hL hk2 (l := [0, 1, 7, 20, 40]) (by decide)
  have e2 : denC E 49 [AV.t (.ptr 0 0), AV.sl 1 [[PV.int .i64 0], [PV.int .i64 1], [PV.int .i64 5], [PV.int .i64 50]]] _ = _ := c_Pick hL hk3 (l := [0, 1, 5, 50]) (by decide)
  have e3 : denC E 49 [AV.t (.ptr 0 0), AV.sl 1 [[PV.int .i64 1], [PV.int .i64 2], [PV.int .i64 3], [PV.int .i64 100]]] _ = _ := c_Pick hL hk4 (l := [1, 2, 3, 100]) (by decide)
  have b1 := vPick_mem L (at' L (at' L k)) (l := [0, 1, 7, 20, 40]) (by decide)
  have b2 := vPick_mem L (at' L (at' L (at' L k))) (l := [0, 1, 5, 50]) (by decide)
  have b3 := vPick_mem L (at' L (at' L (at' L (at' L k)))) (l := [1, 2, 3, 100]) (by decide)
  have hN2 := c_N hL hk5 3 (by decide)
  have bN2 := vN_bounds (L := L) (k := at' L (at' L (at' L (at' L (at' L k))))) (n := 3) (by decide)
  obtain ⟨m, hm⟩ : ∃ m : Nat, vN L (at' L (at' L (at' L (at' L (at' L k))))) 3 = (m : Int) := ⟨_, (Int.toNat_of_nonneg bN2.1).symm⟩
  rw [hm] at hN2 bN2
  refine ⟨⟨vRange L k 1 3, vN L (at' L k) 2, vPick L (at' L (at' L k)) [0, 1, 7, 20, 40], vPick L (at' L (at' L (at' L k))) [0, 1, 5, 50], vPick L (at' L (at' L (at' L (at' L k)))) [1, 2, 3, 100], arcsL L (at' L (at' L (at' L (at' L (at' L (at' L k)))))) m⟩, arcsK L (at' L (at' L (at' L (at' L (at' L (at' L k)))))) m, ?_, ?_, arcsK_le hL _ _ hk6⟩
  · rw [denC_eq, r50, hR]
    simp only [bnd_some, ctl_true, ctl_false, ctl_and, ctl_or', ctl_or2, x_toPV, x_toCs, x_toCs2, x_toEs, x_bEs, x_bCs, x_aPV, x_aCs, x_int, x_bool, x_str, x_es, x_esn, nth_0, nth_1, nth_2, nth_3, nth_4, nth_5, nth_6, nth_7, nth_8, nth_9, y_nil, y_int, y_bool, y_str, y_sl, y_nils, y_agg, y_ownp, y_own, z_nil, z_int, z_bool, z_str, z_sl, z_nils, b_nil, b_arr, b_box1, b_box2, b_box3, b_box4, List.map_cons, List.map_nil, Bool.and_self, Bool.and_true, Bool.true_and, Bool.not_true, Bool.not_false, Bool.or_false, Bool.false_or, cond_true, cond_false, okPack, okPut, okPutBlks, okPutCells, q_isP, q_isAg, q_isBox, q_isArr, q_int, q_bool, q_str, q_sl, q_nils, e_exit, e_ret, e_nrm, e_ret_exit, e_exit_ret, e_nrm_exit, e_nrm_ret, e_exit_nrm, e_ret_nrm, Nat.zero_add, Nat.reduceAdd, noslR, noslP, noslB, noslA, List.all_cons, List.all_nil]
    rw [hN1]
    simp only [bnd_some, ctl_true, ctl_false, ctl_and, ctl_or', ctl_or2, x_toPV, x_toCs, x_toCs2, x_toEs, x_bEs, x_bCs, x_aPV, x_aCs, x_int, x_bool, x_str, x_es, x_esn, nth_0, nth_1, nth_2, nth_3, nth_4, nth_5, nth_6, nth_7, nth_8, nth_9, y_nil, y_int, y_bool, y_str, y_sl, y_nils, y_agg, y_ownp, y_own, z_nil, z_int, z_bool, z_str, z_sl, z_nils, b_nil, b_arr, b_box1, b_box2, b_box3, b_box4, List.map_cons, List.map_nil, Bool.and_self, Bool.and_true, Bool.true_and, Bool.not_true, Bool.not_false, Bool.or_false, Bool.false_or, cond_true, cond_false, okPack, okPut, okPutBlks, okPutCells, q_isP, q_isAg, q_isBox, q_isArr, q_int, q_bool, q_str, q_sl, q_nils, e_exit, e_ret, e_nrm, e_ret_exit, e_exit_ret, e_nrm_exit, e_nrm_ret, e_exit_nrm, e_ret_nrm, Nat.zero_add, Nat.reduceAdd, noslR, noslP, noslB, noslA, List.all_cons, List.all_nil]
    rw [e1]
    simp only [bnd_some, ctl_true, ctl_false, ctl_and, ctl_or', ctl_or2, x_toPV, x_toCs, x_toCs2, x_toEs, x_bEs, x_bCs, x_aPV, x_aCs, x_int, x_bool, x_str, x_es, x_esn, nth_0, nth_1, nth_2, nth_3, nth_4, nth_5, nth_6, nth_7, nth_8, nth_9, y_nil, y_int, y_bool, y_str, y_sl, y_nils, y_agg, y_ownp, y_own, z_nil, z_int, z_bool, z_str, z_sl, z_nils, b_nil, b_arr, b_box1, b_box2, b_box3, b_box4, List.map_cons, List.map_nil, Bool.and_self, Bool.and_true, Bool.true_and, Bool.not_true, Bool.not_false, Bool.or_false, Bool.false_or, cond_true, cond_false, okPack, okPut, okPutBlks, okPutCells, q_isP, q_isAg, q_isBox, q_isArr, q_int, q_bool, q_str, q_sl, q_nils, e_exit, e_ret, e_nrm, e_ret_exit, e_exit_ret, e_nrm_exit, e_nrm_ret, e_exit_nrm, e_ret_nrm, Nat.zero_add, Nat.reduceAdd, noslR, noslP, noslB, noslA, List.all_cons, List.all_nil]
    rw [e2]
    simp only [bnd_some, ctl_true, ctl_false, ctl_and, ctl_or', ctl_or2, x_toPV, x_toCs, x_toCs2, x_toEs, x_bEs, x_bCs, x_aPV, x_aCs, x_int, x_bool, x_str, x_es, x_esn, nth_0, nth_1, nth_2, nth_3, nth_4, nth_5, nth_6, nth_7, nth_8, nth_9, y_nil, y_int, y_bool, y_str, y_sl, y_nils, y_agg, y_ownp, y_own, z_nil, z_int, z_bool, z_str, z_sl, z_nils, b_nil, b_arr, b_box1, b_box2, b_box3, b_box4, List.map_cons, List.map_nil, Bool.and_self, Bool.and_true, Bool.true_and, Bool.not_true, Bool.not_false, Bool.or_false, Bool.false_or, cond_true, cond_false, okPack, okPut, okPutBlks, okPutCells, q_isP, q_isAg, q_isBox, q_isArr, q_int, q_bool, q_str, q_sl, q_nils, e_exit, e_ret, e_nrm, e_ret_exit, e_exit_ret, e_nrm_exit, e_nrm_ret, e_exit_nrm, e_ret_nrm, Nat.zero_add, Nat.reduceAdd, noslR, noslP, noslB, noslA, List.all_cons, List.all_nil]
    rw [e3]
    simp only [bnd_some, ctl_true, ctl_false, ctl_and, ctl_or', ctl_or2, x_toPV, x_toCs, x_toCs2, x_toEs, x_bEs, x_bCs, x_aPV, x_aCs, x_int, x_bool, x_str, x_es, x_esn, nth_0, nth_1, nth_2, nth_3, nth_4, nth_5, nth_6, nth_7, nth_8, nth_9, y_nil, y_int, y_bool, y_str, y_sl, y_nils, y_agg, y_ownp, y_own, z_nil, z_int, z_bool, z_str, z_sl, z_nils, b_nil, b_arr, b_box1, b_box2, b_box3, b_box4, List.map_cons, List.map_nil, Bool.and_self, Bool.and_true, Bool.true_and, Bool.not_true, Bool.not_false, Bool.or_false, Bool.false_or, cond_true, cond_false, okPack, okPut, okPutBlks, okPutCells, q_isP, q_isAg, q_isBox, q_isArr, q_int, q_bool, q_str, q_sl, q_nils, e_exit, e_ret, e_nrm, e_ret_exit, e_exit_ret, e_nrm_exit, e_nrm_ret, e_exit_nrm, e_ret_nrm, Nat.zero_add, Nat.reduceAdd, noslR, noslP, noslB, noslA, List.all_cons, List.all_nil]
    rw [hN2]
    simp only [bnd_some, ctl_true, ctl_false, ctl_and, ctl_or', ctl_or2, x_toPV, x_toCs, x_toCs2, x_toEs, x_bEs, x_bCs, x_aPV, x_aCs, x_int, x_bool, x_str, x_es, x_esn, nth_0, nth_1, nth_2, nth_3, nth_4, nth_5, nth_6, nth_7, nth_8, nth_9, y_nil, y_int, y_bool, y_str, y_sl, y_nils, y_agg, y_ownp, y_own, z_nil, z_int, z_bool, z_str, z_sl, z_nils, b_nil, b_arr, b_box1, b_box2, b_box3, b_box4, List.map_cons, List.map_nil, Bool.and_self, Bool.and_true, Bool.true_and, Bool.not_true, Bool.not_false, Bool.or_false, Bool.false_or, cond_true, cond_false, okPack, okPut, okPutBlks, okPutCells, q_isP, q_isAg, q_isBox, q_isArr, q_int, q_bool, q_str, q_sl, q_nils, e_exit, e_ret, e_nrm, e_ret_exit, e_exit_ret, e_nrm_exit, e_nrm_ret, e_exit_nrm, e_ret_nrm, Nat.zero_add, Nat.reduceAdd, noslR, noslP, noslB, noslA, List.all_cons, List.all_nil]
    have hl := fun c0 c1 c2 c3 c4 => thr_loop hL _ rfl c0 c1 c2 c3 c4 m (at' L (at' L (at' L (at' L (at' L (at' L k)))))) [] hk6 (by simp; omega)
    have ea : arcK [] = [] := rfl
    rw [ea] at hl
    rw [hl]
    simp only [bnd_some, ctl_true, ctl_false, ctl_and, ctl_or', ctl_or2, x_toPV, x_toCs, x_toCs2, x_toEs, x_bEs, x_bCs, x_aPV, x_aCs, x_int, x_bool, x_str, x_es, x_esn, nth_0, nth_1, nth_2, nth_3, nth_4, nth_5, nth_6, nth_7, nth_8, nth_9, y_nil, y_int, y_bool, y_str, y_sl, y_nils, y_agg, y_ownp, y_own, z_nil, z_int, z_bool, z_str, z_sl, z_nils, b_nil, b_arr, b_box1, b_box2, b_box3, b_box4, List.map_cons, List.map_nil, Bool.and_self, Bool.and_true, Bool.true_and, Bool.not_true, Bool.not_false, Bool.or_false, Bool.false_or, cond_true, cond_false, okPack, okPut, okPutBlks, okPutCells, q_isP, q_isAg, q_isBox, q_isArr, q_int, q_bool, q_str, q_sl, q_nils, e_exit, e_ret, e_nrm, e_ret_exit, e_exit_ret, e_nrm_exit, e_nrm_ret, e_exit_nrm, e_ret_nrm, Nat.zero_add, Nat.reduceAdd, noslR, noslP, noslB, noslA, List.all_cons, List.all_nil, List.nil_append]
    unfold thC
    rfl
  · simp only [List.mem_cons, List.not_mem_nil, or_false] at b1 b2 b3
    refine ⟨bR.1, bR.2, bN1.1, by simp only; omega, by simp only; omega, by simp only; omega, by simp only; omega, by simp only; omega, by simp only; omega, by simp only; omega, ?_, arcsL_src L _ _⟩
    simp only [arcsL_length]
    omega

/-! ### Rated -/
def badR (lo hi last rate : Int) : Bool := ltB 1000000000 (maxI rate (maxI last (maxI hi lo))) || ltB (minI last (minI hi lo)) (-1000000000) || ltB hi lo || ltB rate 0
def ratedF (lo hi last rate : Int) : Int × Int :=
  if badR lo hi last rate = true then (lo, hi)
  else if maxI (last - rate) lo ≤ minI (last + rate) hi then (maxI (last - rate) lo, minI (last + rate) hi)
  else if last < lo then (lo, lo) else (hi, hi)

theorem badR_iff {lo hi last rate : Int} : badR lo hi last rate = false ↔ lo ≤ 1000000000 ∧ hi ≤ 1000000000 ∧ last ≤ 1000000000 ∧ rate ≤ 1000000000 ∧ -1000000000 ≤ lo ∧ -1000000000 ≤ hi ∧ -1000000000 ≤ last ∧ lo ≤ hi ∧ 0 ≤ rate := by
  unfold badR
  simp only [Bool.or_eq_false_iff, decide_eq_false_iff_not]
  have m1 : ∀ a b : Int, (1000000000 < maxI b a) ↔ (1000000000 < a ∨ 1000000000 < b) := fun a b => by unfold maxI; split <;> omega
  have m2 : ∀ a b : Int, (minI b a < -1000000000) ↔ (a < -1000000000 ∨ b < -1000000000) := fun a b => by unfold minI; split <;> omega
  have m3 : ∀ a b c : Int, (1000000000 < maxI c (maxI b a)) ↔ (1000000000 < a ∨ 1000000000 < b ∨ 1000000000 < c) := fun a b c => by unfold maxI; split <;> split <;> omega
  have m4 : ∀ a b c d : Int, (1000000000 < maxI d (maxI c (maxI b a))) ↔ (1000000000 < a ∨ 1000000000 < b ∨ 1000000000 < c ∨ 1000000000 < d) := fun a b c d => by
    have := m3 a b c
    generalize maxI c (maxI b a) = z at *
    unfold maxI; split <;> omega
  have m5 : ∀ a b c : Int, (minI c (minI b a) < -1000000000) ↔ (a < -1000000000 ∨ b < -1000000000 ∨ c < -1000000000) := fun a b c => by unfold minI; split <;> split <;> omega
  rw [m4, m5]
  omega

theorem c_Rated (lo hi last rate : Int) : denC E 83 [AV.int .i64 lo, AV.int .i64 hi, AV.int .i64 last, AV.int .i64 rate] [] =
    some ([RV.p (PV.int .i64 (ratedF lo hi last rate).1), RV.p (PV.int .i64 (ratedF lo hi last rate).2)], []) := by
  rw [denC_eq, r83]
  simp only [bnd_some, ctl_true, ctl_false, ctl_and, ctl_or', ctl_or2, x_toPV, x_toCs, x_toCs2, x_toEs, x_bEs, x_bCs, x_aPV, x_aCs, x_int, x_bool, x_str, x_es, x_esn, nth_0, nth_1, nth_2, nth_3, nth_4, nth_5, nth_6, nth_7, nth_8, nth_9, y_nil, y_int, y_bool, y_str, y_sl, y_nils, y_agg, y_ownp, y_own, z_nil, z_int, z_bool, z_str, z_sl, z_nils, b_nil, b_arr, b_box1, b_box2, b_box3, b_box4, List.map_cons, List.map_nil, Bool.and_self, Bool.and_true, Bool.true_and, Bool.not_true, Bool.not_false, Bool.or_false, Bool.false_or, cond_true, cond_false, okPack, okPut, okPutBlks, okPutCells, q_isP, q_isAg, q_isBox, q_isArr, q_int, q_bool, q_str, q_sl, q_nils, e_exit, e_ret, e_nrm, e_ret_exit, e_exit_ret, e_nrm_exit, e_nrm_ret, e_exit_nrm, e_ret_nrm, Nat.zero_add, Nat.reduceAdd, noslR, noslP, noslB, noslA, List.all_cons, List.all_nil]
  unfold ratedF
  have eb : (ltB 1000000000 (maxI rate (maxI last (maxI hi lo))) || ltB (minI last (minI hi lo)) (-1000000000) || ltB hi lo || ltB rate 0) = badR lo hi last rate := rfl
  rw [eb]
  cases hb : badR lo hi last rate with
  | true => simp only [ctl_true, if_true]
  | false =>
    have h := badR_iff.1 hb
    simp only [ctl_false, Bool.false_eq_true, if_false]
    rw [w64 (n := last - rate) (by omega), w64 (n := last + rate) (by omega), ctl_dec]
    split
    · rfl
    · rw [ctl_dec]
      split <;> rfl

end Go.Proofs.Ytcnjaffogkkpnaa.Vm
