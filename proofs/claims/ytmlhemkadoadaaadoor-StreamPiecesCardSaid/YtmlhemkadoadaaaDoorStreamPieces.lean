/- The law StreamPieces. -/
import Derived.Test.YtmlhemkadoadaaaDoorStrmD
import Derived.Test.YtmlhemkadoadaaaDoorRawPieces
namespace Go.Proofs.YtmlhemkadoadaaaDoor.Vm
set_option linter.unusedVariables false
set_option linter.unusedSimpArgs false

theorem minA_le (n m : Int) : minI n m ≤ n ∧ minI n m ≤ m ∧ (minI n m = n ∨ minI n m = m) := by
  unfold minI
  split <;> omega

theorem fldK_app (a b : List (List (List UInt8))) : fldK a ++ fldK b = fldK (a ++ b) := by simp [fldK]

/-- Piece by piece: what was read, and what is still to come. -/
theorem l_pieces (z : List (List PV)) (W : List (List PV)) (X : List UInt8) (hX : X.length ≤ 1000) (l : List Int) : ∀ (pre : List Int) (a b : List UInt8), (∀ n ∈ pre ++ l, 0 ≤ n ∧ n ≤ 255) → (pre ++ l).length ≤ 20 → a ++ b = X →
    ∃ a' b', a' ++ b' = X ∧ lp E (denC E) 4 0 [] 0 { vals := [AV.sl 1 (byteEs b), AV.sl 1 W, AV.sl 1 (intsK .u8 (pre ++ l)), AV.int .i64 (pre ++ l).length, AV.int .i64 pre.length], blks := [Blk.box [AV.sl 1 z], Blk.box [AV.sl 1 (byteEs (run ⟨[], 0, [], 0⟩ a).rest)], Blk.arr 1 (fldK (run ⟨[], 0, [], 0⟩ a).ss)] } =
      some (Ex.exit 0, { vals := [AV.sl 1 (byteEs b'), AV.sl 1 W], blks := [Blk.box [AV.sl 1 z], Blk.box [AV.sl 1 (byteEs (run ⟨[], 0, [], 0⟩ a').rest)], Blk.arr 1 (fldK (run ⟨[], 0, [], 0⟩ a').ss)] }) := by
  induction l with
  | nil =>
    intro pre a b hw hl hab
    refine ⟨a, b, hab, ?_⟩
    rw [r4_0, ctl_dec, if_neg (by simp)]
  | cons n l ih =>
    intro pre a b hw hl hab
    have hn := hw n (by simp)
    have hbl : b.length ≤ 1000 := by rw [← hab] at hX; simp at hX; omega
    have hal : a.length ≤ 1000 := by rw [← hab] at hX; simp at hX; omega
    have h1 := Int.emod_nonneg n (b := 30) (by omega)
    have h2 := Int.emod_lt_of_pos n (b := 30) (by omega)
    have hk := minA_le (b.length : Int) (n % 30)
    obtain ⟨k, hkk⟩ : ∃ k : Nat, minI (b.length : Int) (n % 30) = k := ⟨(minI (b.length : Int) (n % 30)).toNat, by omega⟩
    rw [hkk] at hk
    have hI : Iv (run ⟨[], 0, [], 0⟩ a) a.length := by
      have := (ini_iv []).run (bs := a)
      rwa [Nat.zero_add] at this
    have hg : Gd (run ⟨[], 0, [], 0⟩ a).rest := Gd.run (.inl rfl)
    obtain ⟨p1, p2⟩ := pieces _ hg (b.take k)
    have ih' := ih (pre ++ [n]) (a ++ b.take k) (b.drop k) (by simpa using hw) (by simpa using hl) (by rw [List.append_assoc, List.take_append_drop]; exact hab)
    obtain ⟨a', b', e1, e2⟩ := ih'
    refine ⟨a', b', e1, ?_⟩
    rw [r4_0, ctl_dec, if_pos (by simp <;> omega), getE_ints (by simp <;> omega), Int.toNat_natCast, getD_mid]
    simp only [bnd_some, ctl_true, ctl_false, ctl_and, ctl_or', ctl_or2, x_toPV, x_toCs, x_toCs2, x_toEs, x_bEs, x_bCs, x_aPV, x_aCs, x_int, x_bool, x_str, x_es, x_esn, nth_0, nth_1, nth_2, nth_3, nth_4, nth_5, nth_6, nth_7, nth_8, nth_9, y_nil, y_int, y_bool, y_str, y_sl, y_nils, y_agg, y_ownp, y_own, z_nil, z_int, z_bool, z_str, z_sl, z_nils, b_nil, b_arr, b_box1, b_box2, b_box3, b_box4, List.map_cons, List.map_nil, Bool.and_self, Bool.and_true, Bool.true_and, Bool.not_true, Bool.not_false, Bool.or_false, Bool.false_or, cond_true, cond_false, okPack, okPut, okPutBlks, okPutCells, q_isP, q_isAg, q_isBox, q_isArr, q_int, q_bool, q_str, q_sl, q_nils, e_exit, e_ret, e_nrm, e_ret_exit, e_exit_ret, e_nrm_exit, e_nrm_ret, e_exit_nrm, e_ret_nrm, Nat.zero_add, Nat.reduceAdd, noslR, noslP, noslB, noslA, List.all_cons, List.all_nil]
    rw [w64 (n := n) (by omega), Int.tmod_eq_emod_of_nonneg hn.1, byteEs_length, hkk]
    have b1 : leB 0 (k : Int) = true := decide_eq_true (by omega)
    have b2 : leB (k : Int) (b.length : Int) = true := decide_eq_true (by omega)
    have b3 : leB (b.length : Int) (b.length : Int) = true := decide_eq_true (by omega)
    have c1 : cutI b 0 (k : Int) = b.take k := by unfold cutI; simp
    have c2 : cutI b (k : Int) (b.length : Int) = b.drop k := by unfold cutI; simp
    rw [b1, b2, b3, cutI_byteEs, cutI_byteEs, c1, c2]
    simp only [bnd_some, ctl_true, ctl_false, ctl_and, ctl_or', ctl_or2, x_toPV, x_toCs, x_toCs2, x_toEs, x_bEs, x_bCs, x_aPV, x_aCs, x_int, x_bool, x_str, x_es, x_esn, nth_0, nth_1, nth_2, nth_3, nth_4, nth_5, nth_6, nth_7, nth_8, nth_9, y_nil, y_int, y_bool, y_str, y_sl, y_nils, y_agg, y_ownp, y_own, z_nil, z_int, z_bool, z_str, z_sl, z_nils, b_nil, b_arr, b_box1, b_box2, b_box3, b_box4, List.map_cons, List.map_nil, Bool.and_self, Bool.and_true, Bool.true_and, Bool.not_true, Bool.not_false, Bool.or_false, Bool.false_or, cond_true, cond_false, okPack, okPut, okPutBlks, okPutCells, q_isP, q_isAg, q_isBox, q_isArr, q_int, q_bool, q_str, q_sl, q_nils, e_exit, e_ret, e_nrm, e_ret_exit, e_exit_ret, e_nrm_exit, e_nrm_ret, e_exit_nrm, e_ret_nrm, Nat.zero_add, Nat.reduceAdd, noslR, noslP, noslB, noslA, List.all_cons, List.all_nil]
    rw [c_SFeed _ _ (by have := hI.len; omega) (by rw [List.length_take]; omega)]
    simp only [bnd_some, ctl_true, ctl_false, ctl_and, ctl_or', ctl_or2, x_toPV, x_toCs, x_toCs2, x_toEs, x_bEs, x_bCs, x_aPV, x_aCs, x_int, x_bool, x_str, x_es, x_esn, nth_0, nth_1, nth_2, nth_3, nth_4, nth_5, nth_6, nth_7, nth_8, nth_9, y_nil, y_int, y_bool, y_str, y_sl, y_nils, y_agg, y_ownp, y_own, z_nil, z_int, z_bool, z_str, z_sl, z_nils, b_nil, b_arr, b_box1, b_box2, b_box3, b_box4, List.map_cons, List.map_nil, Bool.and_self, Bool.and_true, Bool.true_and, Bool.not_true, Bool.not_false, Bool.or_false, Bool.false_or, cond_true, cond_false, okPack, okPut, okPutBlks, okPutCells, q_isP, q_isAg, q_isBox, q_isArr, q_int, q_bool, q_str, q_sl, q_nils, e_exit, e_ret, e_nrm, e_ret_exit, e_exit_ret, e_nrm_exit, e_nrm_ret, e_exit_nrm, e_ret_nrm, Nat.zero_add, Nat.reduceAdd, noslR, noslP, noslB, noslA, List.all_cons, List.all_nil]
    have hI2 := (ini_iv (run ⟨[], 0, [], 0⟩ a).rest).run (bs := b.take k)
    have s1 := hI2.ss
    have s2 := hI.ss
    rw [List.length_take] at s1
    rw [fldK_length, fldK_length, show leN (((run ⟨[], 0, [], 0⟩ a).ss.length + (run (ini (run ⟨[], 0, [], 0⟩ a).rest) (List.take k b)).ss.length) * 24) 140737488355328 = true from decide_eq_true (by omega)]
    simp only [bnd_some, ctl_true, ctl_false, ctl_and, ctl_or', ctl_or2, x_toPV, x_toCs, x_toCs2, x_toEs, x_bEs, x_bCs, x_aPV, x_aCs, x_int, x_bool, x_str, x_es, x_esn, nth_0, nth_1, nth_2, nth_3, nth_4, nth_5, nth_6, nth_7, nth_8, nth_9, y_nil, y_int, y_bool, y_str, y_sl, y_nils, y_agg, y_ownp, y_own, z_nil, z_int, z_bool, z_str, z_sl, z_nils, b_nil, b_arr, b_box1, b_box2, b_box3, b_box4, List.map_cons, List.map_nil, Bool.and_self, Bool.and_true, Bool.true_and, Bool.not_true, Bool.not_false, Bool.or_false, Bool.false_or, cond_true, cond_false, okPack, okPut, okPutBlks, okPutCells, q_isP, q_isAg, q_isBox, q_isArr, q_int, q_bool, q_str, q_sl, q_nils, e_exit, e_ret, e_nrm, e_ret_exit, e_exit_ret, e_nrm_exit, e_nrm_ret, e_exit_nrm, e_ret_nrm, Nat.zero_add, Nat.reduceAdd, noslR, noslP, noslB, noslA, List.all_cons, List.all_nil]
    rw [w64 (n := (pre.length : Int) + 1) (by simp at hl; omega), len_snoc pre n, app_cons, fldK_app, ← p2, p1, ← run_app]
    exact e2

theorem u8s5 (l : List Int) (h : ∀ n ∈ l, 0 ≤ n ∧ n ≤ 255) : ∃ s : List UInt8, intsK .u8 l = byteEs s ∧ s.length = l.length := by
  induction l with
  | nil => exact ⟨[], rfl, rfl⟩
  | cons n l ih =>
    obtain ⟨s, h1, h2⟩ := ih fun m hm => h m (by simp [hm])
    have hn := h n (by simp)
    refine ⟨n.toNat.toUInt8 :: s, ?_, by simp [h2]⟩
    have e : ((n.toNat.toUInt8.toNat : Nat) : Int) = n := by
      have : n.toNat.toUInt8.toNat = n.toNat := by simp; omega
      omega
    show [PV.int .u8 n] :: intsK .u8 l = [PV.int .u8 ((n.toNat.toUInt8.toNat : Nat) : Int)] :: byteEs s
    rw [e, h1]

theorem d_StreamPieces (t : List Int) (_ : t.length ≤ maxLen) (_ : ∀ n ∈ t, -9223372036854775808 ≤ n ∧ n ≤ 9223372036854775807) (cuts : List Int) (_ : cuts.length ≤ maxLen) (hc : ∀ n ∈ cuts, 0 ≤ n ∧ n ≤ 255) :
    denC E 4 [AV.sl 1 (intsK .i64 t), AV.sl 1 (intsK .u8 cuts)] [] = some ([RV.p (PV.bool true)], []) := by
  rw [denC_eq, r4, intsK_length, ctl_dec]
  by_cases hl : (20 : Int) < (cuts.length : Int)
  · rw [if_pos hl, c_sane05]
    simp only [bnd_some, ctl_true, ctl_false, ctl_and, ctl_or', ctl_or2, x_toPV, x_toCs, x_toCs2, x_toEs, x_bEs, x_bCs, x_aPV, x_aCs, x_int, x_bool, x_str, x_es, x_esn, nth_0, nth_1, nth_2, nth_3, nth_4, nth_5, nth_6, nth_7, nth_8, nth_9, y_nil, y_int, y_bool, y_str, y_sl, y_nils, y_agg, y_ownp, y_own, z_nil, z_int, z_bool, z_str, z_sl, z_nils, b_nil, b_arr, b_box1, b_box2, b_box3, b_box4, List.map_cons, List.map_nil, Bool.and_self, Bool.and_true, Bool.true_and, Bool.not_true, Bool.not_false, Bool.or_false, Bool.false_or, cond_true, cond_false, okPack, okPut, okPutBlks, okPutCells, q_isP, q_isAg, q_isBox, q_isArr, q_int, q_bool, q_str, q_sl, q_nils, e_exit, e_ret, e_nrm, e_ret_exit, e_exit_ret, e_nrm_exit, e_nrm_ret, e_exit_nrm, e_ret_nrm, Nat.zero_add, Nat.reduceAdd, noslR, noslP, noslB, noslA, List.all_cons, List.all_nil]
  · rw [if_neg hl, c_New]
    simp only [bnd_some, ctl_true, ctl_false, ctl_and, ctl_or', ctl_or2, x_toPV, x_toCs, x_toCs2, x_toEs, x_bEs, x_bCs, x_aPV, x_aCs, x_int, x_bool, x_str, x_es, x_esn, nth_0, nth_1, nth_2, nth_3, nth_4, nth_5, nth_6, nth_7, nth_8, nth_9, y_nil, y_int, y_bool, y_str, y_sl, y_nils, y_agg, y_ownp, y_own, z_nil, z_int, z_bool, z_str, z_sl, z_nils, b_nil, b_arr, b_box1, b_box2, b_box3, b_box4, List.map_cons, List.map_nil, Bool.and_self, Bool.and_true, Bool.true_and, Bool.not_true, Bool.not_false, Bool.or_false, Bool.false_or, cond_true, cond_false, okPack, okPut, okPutBlks, okPutCells, q_isP, q_isAg, q_isBox, q_isArr, q_int, q_bool, q_str, q_sl, q_nils, e_exit, e_ret, e_nrm, e_ret_exit, e_exit_ret, e_nrm_exit, e_nrm_ret, e_exit_nrm, e_ret_nrm, Nat.zero_add, Nat.reduceAdd, noslR, noslP, noslB, noslA, List.all_cons, List.all_nil]
    obtain ⟨X, k', hX, hk', hb⟩ := c_bytes (k := 0) (Lle5 (t := t)) (by omega)
    rw [src_zero, hb]
    simp only [bnd_some, ctl_true, ctl_false, ctl_and, ctl_or', ctl_or2, x_toPV, x_toCs, x_toCs2, x_toEs, x_bEs, x_bCs, x_aPV, x_aCs, x_int, x_bool, x_str, x_es, x_esn, nth_0, nth_1, nth_2, nth_3, nth_4, nth_5, nth_6, nth_7, nth_8, nth_9, y_nil, y_int, y_bool, y_str, y_sl, y_nils, y_agg, y_ownp, y_own, z_nil, z_int, z_bool, z_str, z_sl, z_nils, b_nil, b_arr, b_box1, b_box2, b_box3, b_box4, List.map_cons, List.map_nil, Bool.and_self, Bool.and_true, Bool.true_and, Bool.not_true, Bool.not_false, Bool.or_false, Bool.false_or, cond_true, cond_false, okPack, okPut, okPutBlks, okPutCells, q_isP, q_isAg, q_isBox, q_isArr, q_int, q_bool, q_str, q_sl, q_nils, e_exit, e_ret, e_nrm, e_ret_exit, e_exit_ret, e_nrm_exit, e_nrm_ret, e_exit_nrm, e_ret_nrm, Nat.zero_add, Nat.reduceAdd, noslR, noslP, noslB, noslA, List.all_cons, List.all_nil]
    have hf := c_SFeed [] X (by simp) (by omega)
    rw [show ini [] = ⟨[], 0, [], 0⟩ from rfl] at hf
    rw [show (AV.agg [PV.sl 1 []]) = AV.agg [PV.sl 1 (byteEs [])] from rfl, hf]
    simp only [bnd_some, ctl_true, ctl_false, ctl_and, ctl_or', ctl_or2, x_toPV, x_toCs, x_toCs2, x_toEs, x_bEs, x_bCs, x_aPV, x_aCs, x_int, x_bool, x_str, x_es, x_esn, nth_0, nth_1, nth_2, nth_3, nth_4, nth_5, nth_6, nth_7, nth_8, nth_9, y_nil, y_int, y_bool, y_str, y_sl, y_nils, y_agg, y_ownp, y_own, z_nil, z_int, z_bool, z_str, z_sl, z_nils, b_nil, b_arr, b_box1, b_box2, b_box3, b_box4, List.map_cons, List.map_nil, Bool.and_self, Bool.and_true, Bool.true_and, Bool.not_true, Bool.not_false, Bool.or_false, Bool.false_or, cond_true, cond_false, okPack, okPut, okPutBlks, okPutCells, q_isP, q_isAg, q_isBox, q_isArr, q_int, q_bool, q_str, q_sl, q_nils, e_exit, e_ret, e_nrm, e_ret_exit, e_exit_ret, e_nrm_exit, e_nrm_ret, e_exit_nrm, e_ret_nrm, Nat.zero_add, Nat.reduceAdd, noslR, noslP, noslB, noslA, List.all_cons, List.all_nil]
    obtain ⟨a', b', e1, e2⟩ := l_pieces (byteEs (run ⟨[], 0, [], 0⟩ X).rest) (fldK (run ⟨[], 0, [], 0⟩ X).ss) X hX cuts [] [] X (by simpa using hc) (by simp; omega) rfl
    simp only [List.nil_append, List.length_nil, run_nil] at e2
    rw [show fldK [] = [] from rfl, show byteEs [] = [] from rfl] at e2
    rw [show (AV.int IntKind.i64 0) = AV.int .i64 ((0 : Nat) : Int) from rfl, e2]
    simp only [bnd_some, ctl_true, ctl_false, ctl_and, ctl_or', ctl_or2, x_toPV, x_toCs, x_toCs2, x_toEs, x_bEs, x_bCs, x_aPV, x_aCs, x_int, x_bool, x_str, x_es, x_esn, nth_0, nth_1, nth_2, nth_3, nth_4, nth_5, nth_6, nth_7, nth_8, nth_9, y_nil, y_int, y_bool, y_str, y_sl, y_nils, y_agg, y_ownp, y_own, z_nil, z_int, z_bool, z_str, z_sl, z_nils, b_nil, b_arr, b_box1, b_box2, b_box3, b_box4, List.map_cons, List.map_nil, Bool.and_self, Bool.and_true, Bool.true_and, Bool.not_true, Bool.not_false, Bool.or_false, Bool.false_or, cond_true, cond_false, okPack, okPut, okPutBlks, okPutCells, q_isP, q_isAg, q_isBox, q_isArr, q_int, q_bool, q_str, q_sl, q_nils, e_exit, e_ret, e_nrm, e_ret_exit, e_exit_ret, e_nrm_exit, e_nrm_ret, e_exit_nrm, e_ret_nrm, Nat.zero_add, Nat.reduceAdd, noslR, noslP, noslB, noslA, List.all_cons, List.all_nil]
    have hal : a'.length ≤ 1000 := by rw [← e1] at hX; simp at hX; omega
    have hbl : b'.length ≤ 1000 := by rw [← e1] at hX; simp at hX; omega
    have hI : Iv (run ⟨[], 0, [], 0⟩ a') a'.length := by
      have := (ini_iv []).run (bs := a')
      rwa [Nat.zero_add] at this
    have hI2 := (ini_iv (run ⟨[], 0, [], 0⟩ a').rest).run (bs := b')
    have hg : Gd (run ⟨[], 0, [], 0⟩ a').rest := Gd.run (.inl rfl)
    obtain ⟨p1, p2⟩ := pieces _ hg b'
    have s1 := hI2.ss
    have s2 := hI.ss
    rw [c_SFeed _ _ (by have := hI.len; omega) (by omega)]
    simp only [bnd_some, ctl_true, ctl_false, ctl_and, ctl_or', ctl_or2, x_toPV, x_toCs, x_toCs2, x_toEs, x_bEs, x_bCs, x_aPV, x_aCs, x_int, x_bool, x_str, x_es, x_esn, nth_0, nth_1, nth_2, nth_3, nth_4, nth_5, nth_6, nth_7, nth_8, nth_9, y_nil, y_int, y_bool, y_str, y_sl, y_nils, y_agg, y_ownp, y_own, z_nil, z_int, z_bool, z_str, z_sl, z_nils, b_nil, b_arr, b_box1, b_box2, b_box3, b_box4, List.map_cons, List.map_nil, Bool.and_self, Bool.and_true, Bool.true_and, Bool.not_true, Bool.not_false, Bool.or_false, Bool.false_or, cond_true, cond_false, okPack, okPut, okPutBlks, okPutCells, q_isP, q_isAg, q_isBox, q_isArr, q_int, q_bool, q_str, q_sl, q_nils, e_exit, e_ret, e_nrm, e_ret_exit, e_exit_ret, e_nrm_exit, e_nrm_ret, e_exit_nrm, e_ret_nrm, Nat.zero_add, Nat.reduceAdd, noslR, noslP, noslB, noslA, List.all_cons, List.all_nil]
    rw [fldK_length, fldK_length, show leN (((run ⟨[], 0, [], 0⟩ a').ss.length + (run (ini (run ⟨[], 0, [], 0⟩ a').rest) b').ss.length) * 24) 140737488355328 = true from decide_eq_true (by omega)]
    simp only [bnd_some, ctl_true, ctl_false, ctl_and, ctl_or', ctl_or2, x_toPV, x_toCs, x_toCs2, x_toEs, x_bEs, x_bCs, x_aPV, x_aCs, x_int, x_bool, x_str, x_es, x_esn, nth_0, nth_1, nth_2, nth_3, nth_4, nth_5, nth_6, nth_7, nth_8, nth_9, y_nil, y_int, y_bool, y_str, y_sl, y_nils, y_agg, y_ownp, y_own, z_nil, z_int, z_bool, z_str, z_sl, z_nils, b_nil, b_arr, b_box1, b_box2, b_box3, b_box4, List.map_cons, List.map_nil, Bool.and_self, Bool.and_true, Bool.true_and, Bool.not_true, Bool.not_false, Bool.or_false, Bool.false_or, cond_true, cond_false, okPack, okPut, okPutBlks, okPutCells, q_isP, q_isAg, q_isBox, q_isArr, q_int, q_bool, q_str, q_sl, q_nils, e_exit, e_ret, e_nrm, e_ret_exit, e_exit_ret, e_nrm_exit, e_nrm_ret, e_exit_nrm, e_ret_nrm, Nat.zero_add, Nat.reduceAdd, noslR, noslP, noslB, noslA, List.all_cons, List.all_nil]
    rw [fldK_app, ← p2, p1, ← run_app, e1]
    have hIX : Iv (run ⟨[], 0, [], 0⟩ X) X.length := by
      have := (ini_iv []).run (bs := X)
      rwa [Nat.zero_add] at this
    rw [c_SSame _ _ (by have := hIX.ss; omega) (run_flds X ⟨[], 0, [], 0⟩ fun x hx => by cases hx)]
    simp only [beq_self_eq_true, bnd_some, ctl_true, ctl_false, ctl_and, ctl_or', ctl_or2, x_toPV, x_toCs, x_toCs2, x_toEs, x_bEs, x_bCs, x_aPV, x_aCs, x_int, x_bool, x_str, x_es, x_esn, nth_0, nth_1, nth_2, nth_3, nth_4, nth_5, nth_6, nth_7, nth_8, nth_9, y_nil, y_int, y_bool, y_str, y_sl, y_nils, y_agg, y_ownp, y_own, z_nil, z_int, z_bool, z_str, z_sl, z_nils, b_nil, b_arr, b_box1, b_box2, b_box3, b_box4, List.map_cons, List.map_nil, Bool.and_self, Bool.and_true, Bool.true_and, Bool.not_true, Bool.not_false, Bool.or_false, Bool.false_or, cond_true, cond_false, okPack, okPut, okPutBlks, okPutCells, q_isP, q_isAg, q_isBox, q_isArr, q_int, q_bool, q_str, q_sl, q_nils, e_exit, e_ret, e_nrm, e_ret_exit, e_exit_ret, e_nrm_exit, e_nrm_ret, e_exit_nrm, e_ret_nrm, Nat.zero_add, Nat.reduceAdd, noslR, noslP, noslB, noslA, List.all_cons, List.all_nil]
    rw [c_SBytes]
    simp only [beq_self_eq_true, bnd_some, ctl_true, ctl_false, ctl_and, ctl_or', ctl_or2, x_toPV, x_toCs, x_toCs2, x_toEs, x_bEs, x_bCs, x_aPV, x_aCs, x_int, x_bool, x_str, x_es, x_esn, nth_0, nth_1, nth_2, nth_3, nth_4, nth_5, nth_6, nth_7, nth_8, nth_9, y_nil, y_int, y_bool, y_str, y_sl, y_nils, y_agg, y_ownp, y_own, z_nil, z_int, z_bool, z_str, z_sl, z_nils, b_nil, b_arr, b_box1, b_box2, b_box3, b_box4, List.map_cons, List.map_nil, Bool.and_self, Bool.and_true, Bool.true_and, Bool.not_true, Bool.not_false, Bool.or_false, Bool.false_or, cond_true, cond_false, okPack, okPut, okPutBlks, okPutCells, q_isP, q_isAg, q_isBox, q_isArr, q_int, q_bool, q_str, q_sl, q_nils, e_exit, e_ret, e_nrm, e_ret_exit, e_exit_ret, e_nrm_exit, e_nrm_ret, e_exit_nrm, e_ret_nrm, Nat.zero_add, Nat.reduceAdd, noslR, noslP, noslB, noslA, List.all_cons, List.all_nil]
    rw [byteEs_length, show ltB ((run ⟨[], 0, [], 0⟩ X).rest.length : Int) 200 = true from decide_eq_true (by have := hIX.len; omega)]
    simp only [bnd_some, ctl_true, ctl_false, ctl_and, ctl_or', ctl_or2, x_toPV, x_toCs, x_toCs2, x_toEs, x_bEs, x_bCs, x_aPV, x_aCs, x_int, x_bool, x_str, x_es, x_esn, nth_0, nth_1, nth_2, nth_3, nth_4, nth_5, nth_6, nth_7, nth_8, nth_9, y_nil, y_int, y_bool, y_str, y_sl, y_nils, y_agg, y_ownp, y_own, z_nil, z_int, z_bool, z_str, z_sl, z_nils, b_nil, b_arr, b_box1, b_box2, b_box3, b_box4, List.map_cons, List.map_nil, Bool.and_self, Bool.and_true, Bool.true_and, Bool.not_true, Bool.not_false, Bool.or_false, Bool.false_or, cond_true, cond_false, okPack, okPut, okPutBlks, okPutCells, q_isP, q_isAg, q_isBox, q_isArr, q_int, q_bool, q_str, q_sl, q_nils, e_exit, e_ret, e_nrm, e_ret_exit, e_exit_ret, e_nrm_exit, e_nrm_ret, e_exit_nrm, e_ret_nrm, Nat.zero_add, Nat.reduceAdd, noslR, noslP, noslB, noslA, List.all_cons, List.all_nil]
    rw [c_sane05]
    simp only [bnd_some, ctl_true, ctl_false, ctl_and, ctl_or', ctl_or2, x_toPV, x_toCs, x_toCs2, x_toEs, x_bEs, x_bCs, x_aPV, x_aCs, x_int, x_bool, x_str, x_es, x_esn, nth_0, nth_1, nth_2, nth_3, nth_4, nth_5, nth_6, nth_7, nth_8, nth_9, y_nil, y_int, y_bool, y_str, y_sl, y_nils, y_agg, y_ownp, y_own, z_nil, z_int, z_bool, z_str, z_sl, z_nils, b_nil, b_arr, b_box1, b_box2, b_box3, b_box4, List.map_cons, List.map_nil, Bool.and_self, Bool.and_true, Bool.true_and, Bool.not_true, Bool.not_false, Bool.or_false, Bool.false_or, cond_true, cond_false, okPack, okPut, okPutBlks, okPutCells, q_isP, q_isAg, q_isBox, q_isArr, q_int, q_bool, q_str, q_sl, q_nils, e_exit, e_ret, e_nrm, e_ret_exit, e_exit_ret, e_nrm_exit, e_nrm_ret, e_exit_nrm, e_ret_nrm, Nat.zero_add, Nat.reduceAdd, noslR, noslP, noslB, noslA, List.all_cons, List.all_nil]

end Go.Proofs.YtmlhemkadoadaaaDoor.Vm
