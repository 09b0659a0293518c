import Derived.Test.YtiijghkfinkphaaGreatDoorRaw
import Derived.Test.YtiijghkfinkphaaGreatDoorVm33
import Derived.Test.YtiijghkfinkphaaGreatDoorPrims
/- Contracts of the source of numbers. -/
namespace Go.Proofs.YtiijghkfinkphaaGreatDoor.Vm
set_option linter.unusedVariables false
set_option linter.unusedSimpArgs false

abbrev src (L : List Int) (k : Nat) : Blk := Blk.box [AV.sl 1 (intsK .i64 L), AV.int .i64 k]

theorem src_zero (L : List Int) : Blk.box [AV.sl 1 (intsK .i64 L), AV.int .i64 0] = Blk.box [AV.sl 1 (intsK .i64 L), AV.int .i64 ((0 : Nat) : Int)] := rfl

theorem intsK_length (k : IntKind) (L : List Int) : (intsK k L).length = L.length := by simp [intsK]

theorem getE_ints {α : Type} {k : IntKind} {L : List Int} {i : Int} (hi : 0 ≤ i ∧ i < L.length) (K : List PV → Option α) : getE (intsK k L) i K = K [PV.int k (L.getD i.toNat 0)] := by
  unfold getE
  rw [intsK_length]
  have h1 : leB 0 i = true := by simpa using hi.1
  have h2 : ltB i L.length = true := by simpa using hi.2
  rw [h1, h2]
  have hlt : i.toNat < L.length := by omega
  simp only [Bool.and_self, ctl_true]
  rw [nth_eq]
  simp [intsK, List.getD, hlt]

def md (x n : Int) : Int := if n < 1 then 0 else x % n
theorem c_Mod (x n : Int) (hn : n ≤ 4611686018427387904) : denC E 9 [AV.int .i64 x, AV.int .i64 n] [] = some ([RV.p (PV.int .i64 (md x n))], []) := by
  rw [denC_eq, r9, ctl_dec]
  unfold md
  by_cases h : n < 1
  · rw [if_pos h, if_pos h]
  · rw [if_neg h, if_neg h]
    have hne : neB n 0 = true := by simp; omega
    have hb := tmod_bounds (a := x) (d := n) (by omega)
    have hf := tmod_fix (a := x) (d := n) (by omega)
    rw [hne, w64 (by omega)]
    simp only [bnd_some, ctl_true, ctl_false, ctl_and, ctl_or', ctl_or2, x_toPV, x_toCs, x_toCs2, x_toEs, x_bEs, x_bCs, x_aPV, x_aCs, x_int, x_bool, x_str, x_es, x_esn, nth_0, nth_1, nth_2, nth_3, nth_4, nth_5, nth_6, nth_7, nth_8, nth_9, y_nil, y_int, y_bool, y_str, y_sl, y_nils, y_agg, y_ownp, y_own, z_nil, z_int, z_bool, z_str, z_sl, z_nils, b_nil, b_arr, b_box1, b_box2, b_box3, b_box4, List.map_cons, List.map_nil, Bool.and_self, Bool.and_true, Bool.true_and, Bool.not_true, Bool.not_false, Bool.or_false, Bool.false_or, cond_true, cond_false, okPack, okPut, okPutBlks, okPutCells, q_isP, q_isAg, q_isBox, q_isArr, q_int, q_bool, q_str, q_sl, q_nils, e_exit, e_ret, e_nrm, e_ret_exit, e_exit_ret, e_nrm_exit, e_nrm_ret, e_exit_nrm, e_ret_nrm, Nat.zero_add, Nat.reduceAdd, noslR, noslP, noslB, noslA, List.all_cons, List.all_nil]
    have : (x.tmod n + n).tmod n = x % n := by
      rw [Int.tmod_eq_emod_of_nonneg (by omega), Int.add_emod_right]
      split at hf
      · rw [← Int.add_emod_right, hf, Int.emod_emod]
      · rw [hf, Int.emod_emod]
    rw [this]

theorem md_bounds {x n : Int} (hn : 1 ≤ n) : 0 ≤ md x n ∧ md x n < n := by
  unfold md
  rw [if_neg (by omega)]
  exact ⟨Int.emod_nonneg _ (by omega), Int.emod_lt_of_pos _ (by omega)⟩

def vN (L : List Int) (k : Nat) (n : Int) : Int := if k < L.length then md (L.getD k 0) n else 0
def at' (L : List Int) (k : Nat) : Nat := if k < L.length then k + 1 else k

theorem vN_bounds {L : List Int} {k : Nat} {n : Int} (hn : 1 ≤ n) : 0 ≤ vN L k n ∧ vN L k n < n := by
  unfold vN
  split
  · exact md_bounds hn
  · omega

theorem c_N {L : List Int} {k : Nat} (hL : L.length ≤ 600) (hk : k ≤ 600) (n : Int) (hn : n ≤ 4611686018427387904) :
    denC E 25 [AV.t (.ptr 0 0), AV.int .i64 n] [src L k] = some ([RV.p (PV.int .i64 (vN L k n))], [src L (at' L k)]) := by
  rw [denC_eq]
  rw [r25, ctl_dec, intsK_length]
  unfold vN at'
  by_cases h : k < L.length
  · rw [if_neg (by omega), if_pos h, if_pos h, w64 (n := (k : Int) + 1) (by omega), w64 (n := (k : Int) + 1 - 1) (by omega), getE_ints (by omega)]
    simp only [bnd_some, ctl_true, ctl_false, ctl_and, ctl_or', ctl_or2, x_toPV, x_toCs, x_toCs2, x_toEs, x_bEs, x_bCs, x_aPV, x_aCs, x_int, x_bool, x_str, x_es, x_esn, nth_0, nth_1, nth_2, nth_3, nth_4, nth_5, nth_6, nth_7, nth_8, nth_9, y_nil, y_int, y_bool, y_str, y_sl, y_nils, y_agg, y_ownp, y_own, z_nil, z_int, z_bool, z_str, z_sl, z_nils, b_nil, b_arr, b_box1, b_box2, b_box3, b_box4, List.map_cons, List.map_nil, Bool.and_self, Bool.and_true, Bool.true_and, Bool.not_true, Bool.not_false, Bool.or_false, Bool.false_or, cond_true, cond_false, okPack, okPut, okPutBlks, okPutCells, q_isP, q_isAg, q_isBox, q_isArr, q_int, q_bool, q_str, q_sl, q_nils, e_exit, e_ret, e_nrm, e_ret_exit, e_exit_ret, e_nrm_exit, e_nrm_ret, e_exit_nrm, e_ret_nrm, Nat.zero_add, Nat.reduceAdd, noslR, noslP, noslB, noslA, List.all_cons, List.all_nil]
    rw [c_Mod _ _ hn]
    simp only [bnd_some, ctl_true, ctl_false, ctl_and, ctl_or', ctl_or2, x_toPV, x_toCs, x_toCs2, x_toEs, x_bEs, x_bCs, x_aPV, x_aCs, x_int, x_bool, x_str, x_es, x_esn, nth_0, nth_1, nth_2, nth_3, nth_4, nth_5, nth_6, nth_7, nth_8, nth_9, y_nil, y_int, y_bool, y_str, y_sl, y_nils, y_agg, y_ownp, y_own, z_nil, z_int, z_bool, z_str, z_sl, z_nils, b_nil, b_arr, b_box1, b_box2, b_box3, b_box4, List.map_cons, List.map_nil, Bool.and_self, Bool.and_true, Bool.true_and, Bool.not_true, Bool.not_false, Bool.or_false, Bool.false_or, cond_true, cond_false, okPack, okPut, okPutBlks, okPutCells, q_isP, q_isAg, q_isBox, q_isArr, q_int, q_bool, q_str, q_sl, q_nils, e_exit, e_ret, e_nrm, e_ret_exit, e_exit_ret, e_nrm_exit, e_nrm_ret, e_exit_nrm, e_ret_nrm, Nat.zero_add, Nat.reduceAdd, noslR, noslP, noslB, noslA, List.all_cons, List.all_nil]
    have e : ((k : Int) + 1 - 1).toNat = k := by omega
    rw [e]
    rfl
  · rw [if_pos (by omega), if_neg h, if_neg h]

theorem at'_le {L : List Int} {k : Nat} (hL : L.length ≤ 600) (hk : k ≤ 600) : at' L k ≤ 600 := by unfold at'; split <;> omega

def vPick (L : List Int) (k : Nat) (l : List Int) : Int := l.getD (vN L k l.length).toNat 0
theorem c_Pick {L : List Int} {k : Nat} (hL : L.length ≤ 600) (hk : k ≤ 600) {l : List Int} (hl : 1 ≤ l.length ∧ l.length ≤ 1000) :
    denC E 50 [AV.t (.ptr 0 0), AV.sl 1 (intsK .i64 l)] [src L k] = some ([RV.p (PV.int .i64 (vPick L k l))], [src L (at' L k)]) := by
  rw [denC_eq]
  have hN := c_N hL hk l.length (by omega)
  have hb := vN_bounds (L := L) (k := k) (n := l.length) (by omega)
  rw [r50, intsK_length, hN]
  simp only [bnd_some, ctl_true, ctl_false, ctl_and, ctl_or', ctl_or2, x_toPV, x_toCs, x_toCs2, x_toEs, x_bEs, x_bCs, x_aPV, x_aCs, x_int, x_bool, x_str, x_es, x_esn, nth_0, nth_1, nth_2, nth_3, nth_4, nth_5, nth_6, nth_7, nth_8, nth_9, y_nil, y_int, y_bool, y_str, y_sl, y_nils, y_agg, y_ownp, y_own, z_nil, z_int, z_bool, z_str, z_sl, z_nils, b_nil, b_arr, b_box1, b_box2, b_box3, b_box4, List.map_cons, List.map_nil, Bool.and_self, Bool.and_true, Bool.true_and, Bool.not_true, Bool.not_false, Bool.or_false, Bool.false_or, cond_true, cond_false, okPack, okPut, okPutBlks, okPutCells, q_isP, q_isAg, q_isBox, q_isArr, q_int, q_bool, q_str, q_sl, q_nils, e_exit, e_ret, e_nrm, e_ret_exit, e_exit_ret, e_nrm_exit, e_nrm_ret, e_exit_nrm, e_ret_nrm, Nat.zero_add, Nat.reduceAdd, noslR, noslP, noslB, noslA, List.all_cons, List.all_nil]
  rw [getE_ints hb]
  simp only [bnd_some, ctl_true, ctl_false, ctl_and, ctl_or', ctl_or2, x_toPV, x_toCs, x_toCs2, x_toEs, x_bEs, x_bCs, x_aPV, x_aCs, x_int, x_bool, x_str, x_es, x_esn, nth_0, nth_1, nth_2, nth_3, nth_4, nth_5, nth_6, nth_7, nth_8, nth_9, y_nil, y_int, y_bool, y_str, y_sl, y_nils, y_agg, y_ownp, y_own, z_nil, z_int, z_bool, z_str, z_sl, z_nils, b_nil, b_arr, b_box1, b_box2, b_box3, b_box4, List.map_cons, List.map_nil, Bool.and_self, Bool.and_true, Bool.true_and, Bool.not_true, Bool.not_false, Bool.or_false, Bool.false_or, cond_true, cond_false, okPack, okPut, okPutBlks, okPutCells, q_isP, q_isAg, q_isBox, q_isArr, q_int, q_bool, q_str, q_sl, q_nils, e_exit, e_ret, e_nrm, e_ret_exit, e_exit_ret, e_nrm_exit, e_nrm_ret, e_exit_nrm, e_ret_nrm, Nat.zero_add, Nat.reduceAdd, noslR, noslP, noslB, noslA, List.all_cons, List.all_nil]
  rfl

theorem vPick_mem (L : List Int) (k : Nat) {l : List Int} (hl : 1 ≤ l.length) : vPick L k l ∈ l := by
  have hb := vN_bounds (L := L) (k := k) (n := l.length) (by omega)
  have hlt : (vN L k l.length).toNat < l.length := by omega
  unfold vPick
  simp [List.getD, hlt]

theorem c_New (l : List Int) : denC E 6 [AV.sl 1 (intsK .i64 l)] [] = some ([RV.ownp [PV.sl 1 (intsK .i64 (l.take 600)), PV.int .i64 0]], []) := by
  rw [denC_eq, r6, intsK_length]
  have e : (minI 600 l.length).toNat = min 600 l.length := by unfold minI; split <;> omega
  have h1 : leB 0 (minI 600 l.length) = true := by simp only [decide_eq_true_eq]; unfold minI; split <;> omega
  have h2 : leB (minI 600 l.length) l.length = true := by simp only [decide_eq_true_eq]; unfold minI; split <;> omega
  rw [h1, h2]
  simp only [bnd_some, ctl_true, ctl_false, ctl_and, ctl_or', ctl_or2, x_toPV, x_toCs, x_toCs2, x_toEs, x_bEs, x_bCs, x_aPV, x_aCs, x_int, x_bool, x_str, x_es, x_esn, nth_0, nth_1, nth_2, nth_3, nth_4, nth_5, nth_6, nth_7, nth_8, nth_9, y_nil, y_int, y_bool, y_str, y_sl, y_nils, y_agg, y_ownp, y_own, z_nil, z_int, z_bool, z_str, z_sl, z_nils, b_nil, b_arr, b_box1, b_box2, b_box3, b_box4, List.map_cons, List.map_nil, Bool.and_self, Bool.and_true, Bool.true_and, Bool.not_true, Bool.not_false, Bool.or_false, Bool.false_or, cond_true, cond_false, okPack, okPut, okPutBlks, okPutCells, q_isP, q_isAg, q_isBox, q_isArr, q_int, q_bool, q_str, q_sl, q_nils, e_exit, e_ret, e_nrm, e_ret_exit, e_exit_ret, e_nrm_exit, e_nrm_ret, e_exit_nrm, e_ret_nrm, Nat.zero_add, Nat.reduceAdd, noslR, noslP, noslB, noslA, List.all_cons, List.all_nil]
  unfold cutI
  rw [e]
  have : ((intsK .i64 l).take (min 600 l.length)).drop (Int.toNat 0) = intsK .i64 (l.take 600) := by
    simp only [Int.toNat_zero, List.drop_zero]
    unfold intsK
    rw [← List.map_take]
    congr 1
    rw [← List.take_take, List.take_length]
  rw [this]

end Go.Proofs.YtiijghkfinkphaaGreatDoor.Vm

/- Contracts of chapter 04: texts, bytes, sentences. -/
namespace Go.Proofs.YtiijghkfinkphaaGreatDoor.Vm
set_option linter.unusedVariables false
set_option linter.unusedSimpArgs false

theorem byteEs_length (s : List UInt8) : (byteEs s).length = s.length := by simp [byteEs]
theorem strsK_length (s : List (List UInt8)) : (strsK s).length = s.length := by simp [strsK]
theorem u8_back2 (b : UInt8) : UInt8.ofNat ((b.toNat : Int)).toNat = b := by simp

theorem toBytes_byteEs (s : List UInt8) : toBytes (byteEs s) = s := by
  unfold toBytes byteEs
  rw [List.map_map]
  exact (List.map_congr_left fun b _ => u8_back2 b).trans (List.map_id _)
theorem byteOk_b (b : UInt8) : byteOk [PV.int .u8 (b.toNat : Int)] = true := by
  have h := b.toNat_lt
  have h1 : leB 0 (b.toNat : Int) = true := decide_eq_true (by omega)
  have h2 : ltB (b.toNat : Int) 256 = true := decide_eq_true (by omega)
  show (leB 0 (b.toNat : Int) && ltB (b.toNat : Int) 256) = true
  rw [h1, h2]; rfl
theorem bytesOk_byteEs (s : List UInt8) : bytesOk (byteEs s) = true := by
  unfold bytesOk byteEs
  refine List.all_eq_true.2 fun e he => ?_
  obtain ⟨b, _, rfl⟩ := List.mem_map.1 he
  exact byteOk_b b

theorem getE_bytes {α : Type} {s : List UInt8} {i : Int} (hi : 0 ≤ i ∧ i < s.length) (K : List PV → Option α) : getE (byteEs s) i K = K [PV.int .u8 ((s.getD i.toNat 0).toNat : Int)] := by
  unfold getE
  rw [byteEs_length]
  have h1 : leB 0 i = true := by simpa using hi.1
  have h2 : ltB i s.length = true := by simpa using hi.2
  rw [h1, h2]
  have hlt : i.toNat < s.length := by omega
  simp only [Bool.and_self, ctl_true]
  rw [nth_eq]
  simp [byteEs, List.getD, hlt]

theorem getE_strs {α : Type} {s : List (List UInt8)} {i : Int} (hi : 0 ≤ i ∧ i < s.length) (K : List PV → Option α) : getE (strsK s) i K = K [PV.str (s.getD i.toNat [])] := by
  unfold getE
  rw [strsK_length]
  have h1 : leB 0 i = true := by simpa using hi.1
  have h2 : ltB i s.length = true := by simpa using hi.2
  rw [h1, h2]
  have hlt : i.toNat < s.length := by omega
  simp only [Bool.and_self, ctl_true]
  rw [nth_eq]
  simp [strsK, List.getD, hlt]

theorem getD_mid {α : Type} (pre : List α) (b : α) (l : List α) (d : α) : (pre ++ b :: l).getD pre.length d = b := by simp [List.getD]
theorem app_cons {α : Type} (pre : List α) (b : α) (l : List α) : pre ++ b :: l = (pre ++ [b]) ++ l := by simp
theorem len_snoc {α : Type} (pre : List α) (b : α) : ((pre.length : Int) + 1) = ((pre ++ [b]).length : Int) := by simp

theorem byteAt_mid (pre : List UInt8) (b : UInt8) (l : List UInt8) : byteAt (pre ++ b :: l) (pre.length : Int) = (b.toNat : Int) := by
  unfold byteAt
  rw [Int.toNat_natCast, nth_eq, getD_mid]
theorem b_eq (b c : UInt8) : ((b.toNat : Int) == (c.toNat : Int)) = (b == c) := by
  rw [Bool.eq_iff_iff]
  simp only [beq_iff_eq]
  exact ⟨fun h => UInt8.toNat_inj.1 (by omega), fun h => by rw [h]⟩
theorem in_mid {α : Type} (pre : List α) (b : α) (l : List α) : (leB 0 (pre.length : Int) && ltB (pre.length : Int) ((pre ++ b :: l).length : Int)) = true := by
  have h1 : leB 0 (pre.length : Int) = true := decide_eq_true (by omega)
  have h2 : ltB (pre.length : Int) ((pre ++ b :: l).length : Int) = true := decide_eq_true (by simp; omega)
  rw [h1, h2]; rfl

end Go.Proofs.YtiijghkfinkphaaGreatDoor.Vm
