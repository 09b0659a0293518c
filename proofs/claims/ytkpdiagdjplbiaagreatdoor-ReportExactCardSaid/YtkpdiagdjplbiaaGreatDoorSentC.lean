import Derived.Test.YtkpdiagdjplbiaaGreatDoorRaw
import Derived.Test.YtkpdiagdjplbiaaGreatDoorVm33
import Derived.Test.YtkpdiagdjplbiaaGreatDoorPrims
/- Contracts of the functions that compute with angles. -/
namespace Go.Proofs.YtkpdiagdjplbiaaGreatDoor.Vm
set_option linter.unusedVariables false
set_option linter.unusedSimpArgs false

theorem c_floor {n d : Int} (hd : 0 < d) (hn : -9000000000000000000 ≤ n ∧ n ≤ 9000000000000000000) : denC E 72 [AV.int .i64 n, AV.int .i64 d] [] = some ([RV.p (PV.int .i64 (n / d))], []) := by
  rw [denC_eq, r72]
  have hb : -9000000000000000001 ≤ n / d ∧ n / d ≤ 9000000000000000000 := by
    have h1 := Int.mul_ediv_add_emod n d
    have h3 := Int.emod_nonneg n (Int.ne_of_gt hd)
    have h4 := Int.emod_lt_of_pos n hd
    constructor
    · rcases Int.lt_or_le (n / d) (-9000000000000000000) with h | h
      · have h5 : d * (n / d) ≤ d * (-9000000000000000001) := Int.mul_le_mul_of_nonneg_left (by omega) (by omega)
        omega
      · omega
    · rcases Int.lt_or_le 9000000000000000000 (n / d) with h | h
      · have h5 : d * 9000000000000000001 ≤ d * (n / d) := Int.mul_le_mul_of_nonneg_left (by omega) (by omega)
        omega
      · exact h
  have hf := floor_div (n := n) hd
  have hq : n.tdiv d = n / d ∨ n.tdiv d = n / d + 1 := by
    split at hf <;> omega
  have hne : neB d 0 = true := by simp; omega
  simp only [hne, Bool.and_self, ctl_true]
  rw [ctl_dec, w64 (n := n.tdiv d) (by omega), w64 (by omega), ← hf]
  split <;> rfl

theorem c_Half1 {n d : Int} (hd : 1 ≤ d ∧ d ≤ 1000000000) (hn : -1000000000000000000 ≤ n ∧ n ≤ 1000000000000000000) :
    denC E 71 [AV.int .i64 n, AV.int .i64 d] [] = some ([RV.p (PV.int .i64 ((2 * n + d) / (2 * d)))], []) := by
  rw [denC_eq, r71]
  rw [w64 (n := 2 * n) (by omega), w64 (n := 2 * n + d) (by omega), w64 (n := 2 * d) (by omega), c_floor (by omega) (by omega)]
  simp only [SB, Nat.reduceAdd]

def Half (n d : Int) : Int := (2 * n + d) / (2 * d)
theorem c_Half {n d : Int} (hd : 1 ≤ d ∧ d ≤ 1000000000) (hn : -1000000000000000000 ≤ n ∧ n ≤ 1000000000000000000) :
    denC E 53 [AV.int .i64 n, AV.int .i64 d] [] = some ([RV.p (PV.int .i64 (Half n d)), RV.p (PV.int .i64 0)], []) := by
  have hdiv : denC E 70 [AV.int .i64 n, AV.int .i64 d, AV.fn 71 []] [] = some ([RV.p (PV.int .i64 (Half n d)), RV.p (PV.int .i64 0)], []) := by
    rw [denC_eq, r70a, c_Half1 hd hn]
    have h1 : ltB n (-1000000000000000000) = false := by simp; omega
    have h2 : ltB 1000000000000000000 n = false := by simp; omega
    have h3 : ltB d 1 = false := by simp; omega
    have h4 : ltB 1000000000 d = false := by simp; omega
    simp only [h1, h2, h3, h4, SB, Nat.reduceAdd, Half]
  rw [denC_eq, r53, hdiv]
  simp only [SB, Nat.reduceAdd]

end Go.Proofs.YtkpdiagdjplbiaaGreatDoor.Vm

/- Contracts of the source of numbers. -/
namespace Go.Proofs.YtkpdiagdjplbiaaGreatDoor.Vm
set_option linter.unusedVariables false
set_option linter.unusedSimpArgs false

abbrev src (L : List Int) (k : Nat) : Blk := Blk.box [AV.sl 1 (intsK .i64 L), AV.int .i64 k]

theorem src_zero (L : List Int) : Blk.box [AV.sl 1 (intsK .i64 L), AV.int .i64 0] = Blk.box [AV.sl 1 (intsK .i64 L), AV.int .i64 ((0 : Nat) : Int)] := rfl

theorem intsK_length (k : IntKind) (L : List Int) : (intsK k L).length = L.length := by simp [intsK]

theorem getE_ints {α : Type} {k : IntKind} {L : List Int} {i : Int} (hi : 0 ≤ i ∧ i < L.length) (K : List PV → Option α) : getE (intsK k L) i K = K [PV.int k (L.getD i.toNat 0)] := by
  unfold getE
  rw [intsK_length]
  have h1 : leB 0 i = true := by simpa using hi.1
  have h2 : ltB i L.length = true := by simpa using hi.2
  rw [h1, h2]
  have hlt : i.toNat < L.length := by omega
  simp only [Bool.and_self, ctl_true]
  rw [nth_eq]
  simp [intsK, List.getD, hlt]

def md (x n : Int) : Int := if n < 1 then 0 else x % n
theorem c_Mod (x n : Int) (hn : n ≤ 4611686018427387904) : denC E 23 [AV.int .i64 x, AV.int .i64 n] [] = some ([RV.p (PV.int .i64 (md x n))], []) := by
  rw [denC_eq, r23, ctl_dec]
  unfold md
  by_cases h : n < 1
  · rw [if_pos h, if_pos h]
  · rw [if_neg h, if_neg h]
    have hne : neB n 0 = true := by simp; omega
    have hb := tmod_bounds (a := x) (d := n) (by omega)
    have hf := tmod_fix (a := x) (d := n) (by omega)
    rw [hne, w64 (by omega)]
    simp only [SB, Nat.reduceAdd]
    have : (x.tmod n + n).tmod n = x % n := by
      rw [Int.tmod_eq_emod_of_nonneg (by omega), Int.add_emod_right]
      split at hf
      · rw [← Int.add_emod_right, hf, Int.emod_emod]
      · rw [hf, Int.emod_emod]
    rw [this]

theorem md_bounds {x n : Int} (hn : 1 ≤ n) : 0 ≤ md x n ∧ md x n < n := by
  unfold md
  rw [if_neg (by omega)]
  exact ⟨Int.emod_nonneg _ (by omega), Int.emod_lt_of_pos _ (by omega)⟩

def vN (L : List Int) (k : Nat) (n : Int) : Int := if k < L.length then md (L.getD k 0) n else 0
def at' (L : List Int) (k : Nat) : Nat := if k < L.length then k + 1 else k

theorem vN_bounds {L : List Int} {k : Nat} {n : Int} (hn : 1 ≤ n) : 0 ≤ vN L k n ∧ vN L k n < n := by
  unfold vN
  split
  · exact md_bounds hn
  · omega

theorem c_N {L : List Int} {k : Nat} (hL : L.length ≤ 600) (hk : k ≤ 600) (n : Int) (hn : n ≤ 4611686018427387904) :
    denC E 8 [AV.t (.ptr 0 0), AV.int .i64 n] [src L k] = some ([RV.p (PV.int .i64 (vN L k n))], [src L (at' L k)]) := by
  rw [denC_eq]
  rw [r8, ctl_dec, intsK_length]
  unfold vN at'
  by_cases h : k < L.length
  · rw [if_neg (by omega), if_pos h, if_pos h, w64 (n := (k : Int) + 1) (by omega), w64 (n := (k : Int) + 1 - 1) (by omega), getE_ints (by omega)]
    simp only [SB, Nat.reduceAdd]
    rw [c_Mod _ _ hn]
    simp only [SB, Nat.reduceAdd]
    have e : ((k : Int) + 1 - 1).toNat = k := by omega
    rw [e]
    rfl
  · rw [if_pos (by omega), if_neg h, if_neg h]

theorem at'_le {L : List Int} {k : Nat} (hL : L.length ≤ 600) (hk : k ≤ 600) : at' L k ≤ 600 := by unfold at'; split <;> omega

def vPick (L : List Int) (k : Nat) (l : List Int) : Int := l.getD (vN L k l.length).toNat 0
theorem c_Pick {L : List Int} {k : Nat} (hL : L.length ≤ 600) (hk : k ≤ 600) {l : List Int} (hl : 1 ≤ l.length ∧ l.length ≤ 1000) :
    denC E 28 [AV.t (.ptr 0 0), AV.sl 1 (intsK .i64 l)] [src L k] = some ([RV.p (PV.int .i64 (vPick L k l))], [src L (at' L k)]) := by
  rw [denC_eq]
  have hN := c_N hL hk l.length (by omega)
  have hb := vN_bounds (L := L) (k := k) (n := l.length) (by omega)
  rw [r28, intsK_length, hN]
  simp only [SB, Nat.reduceAdd]
  rw [getE_ints hb]
  simp only [SB, Nat.reduceAdd]
  rfl

theorem vPick_mem (L : List Int) (k : Nat) {l : List Int} (hl : 1 ≤ l.length) : vPick L k l ∈ l := by
  have hb := vN_bounds (L := L) (k := k) (n := l.length) (by omega)
  have hlt : (vN L k l.length).toNat < l.length := by omega
  unfold vPick
  simp [List.getD, hlt]

theorem c_New (l : List Int) : denC E 5 [AV.sl 1 (intsK .i64 l)] [] = some ([RV.ownp [PV.sl 1 (intsK .i64 (l.take 600)), PV.int .i64 0]], []) := by
  rw [denC_eq, r5, intsK_length]
  have e : (minI 600 l.length).toNat = min 600 l.length := by unfold minI; split <;> omega
  have h1 : leB 0 (minI 600 l.length) = true := by simp only [decide_eq_true_eq]; unfold minI; split <;> omega
  have h2 : leB (minI 600 l.length) l.length = true := by simp only [decide_eq_true_eq]; unfold minI; split <;> omega
  rw [h1, h2]
  simp only [SB, Nat.reduceAdd]
  unfold cutI
  rw [e]
  have : ((intsK .i64 l).take (min 600 l.length)).drop (Int.toNat 0) = intsK .i64 (l.take 600) := by
    simp only [Int.toNat_zero, List.drop_zero]
    unfold intsK
    rw [← List.map_take]
    congr 1
    rw [← List.take_take, List.take_length]
  rw [this]

end Go.Proofs.YtkpdiagdjplbiaaGreatDoor.Vm

/- Contracts of chapter 04: texts, bytes, sentences. -/
namespace Go.Proofs.YtkpdiagdjplbiaaGreatDoor.Vm
set_option linter.unusedVariables false
set_option linter.unusedSimpArgs false

theorem byteEs_length (s : List UInt8) : (byteEs s).length = s.length := by simp [byteEs]
theorem strsK_length (s : List (List UInt8)) : (strsK s).length = s.length := by simp [strsK]
theorem getE_bytes {α : Type} {s : List UInt8} {i : Int} (hi : 0 ≤ i ∧ i < s.length) (K : List PV → Option α) : getE (byteEs s) i K = K [PV.int .u8 ((s.getD i.toNat 0).toNat : Int)] := by
  unfold getE
  rw [byteEs_length]
  have h1 : leB 0 i = true := by simpa using hi.1
  have h2 : ltB i s.length = true := by simpa using hi.2
  rw [h1, h2]
  have hlt : i.toNat < s.length := by omega
  simp only [Bool.and_self, ctl_true]
  rw [nth_eq]
  simp [byteEs, List.getD, hlt]

theorem getE_strs {α : Type} {s : List (List UInt8)} {i : Int} (hi : 0 ≤ i ∧ i < s.length) (K : List PV → Option α) : getE (strsK s) i K = K [PV.str (s.getD i.toNat [])] := by
  unfold getE
  rw [strsK_length]
  have h1 : leB 0 i = true := by simpa using hi.1
  have h2 : ltB i s.length = true := by simpa using hi.2
  rw [h1, h2]
  have hlt : i.toNat < s.length := by omega
  simp only [Bool.and_self, ctl_true]
  rw [nth_eq]
  simp [strsK, List.getD, hlt]

theorem getD_mid {α : Type} (pre : List α) (b : α) (l : List α) (d : α) : (pre ++ b :: l).getD pre.length d = b := by simp [List.getD]
theorem app_cons {α : Type} (pre : List α) (b : α) (l : List α) : pre ++ b :: l = (pre ++ [b]) ++ l := by simp
theorem len_snoc {α : Type} (pre : List α) (b : α) : ((pre.length : Int) + 1) = ((pre ++ [b]).length : Int) := by simp

theorem byteAt_mid (pre : List UInt8) (b : UInt8) (l : List UInt8) : byteAt (pre ++ b :: l) (pre.length : Int) = (b.toNat : Int) := by
  unfold byteAt
  rw [Int.toNat_natCast, nth_eq, getD_mid]
theorem b_eq (b c : UInt8) : ((b.toNat : Int) == (c.toNat : Int)) = (b == c) := by
  rw [Bool.eq_iff_iff]
  simp only [beq_iff_eq]
  exact ⟨fun h => UInt8.toNat_inj.1 (by omega), fun h => by rw [h]⟩
theorem in_mid {α : Type} (pre : List α) (b : α) (l : List α) : (leB 0 (pre.length : Int) && ltB (pre.length : Int) ((pre ++ b :: l).length : Int)) = true := by
  have h1 : leB 0 (pre.length : Int) = true := decide_eq_true (by omega)
  have h2 : ltB (pre.length : Int) ((pre ++ b :: l).length : Int) = true := decide_eq_true (by simp; omega)
  rw [h1, h2]; rfl

end Go.Proofs.YtkpdiagdjplbiaaGreatDoor.Vm
