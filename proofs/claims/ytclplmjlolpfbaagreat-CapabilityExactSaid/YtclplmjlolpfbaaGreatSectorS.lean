import Derived.Test.YtclplmjlolpfbaaGreatRaw
import Derived.Test.YtclplmjlolpfbaaGreatVm33
/- Contracts of the functions that compute with angles. -/
namespace Go.Proofs.YtclplmjlolpfbaaGreat.Vm
set_option linter.unusedVariables false
set_option linter.unusedSimpArgs false

def Norm (a : Int) : Int := a % 3600
theorem Norm_lt (a : Int) : 0 ≤ Norm a ∧ Norm a < 3600 := by unfold Norm; omega
theorem c_Norm (a : Int) : denC E 70 [AV.int .i64 a] [] = some ([RV.p (PV.int .i64 (Norm a))], []) := by
  rw [denC_eq, r70]
  have hb := tmod_bounds (a := a) (d := 3600) (by omega)
  have hf := tmod_fix (a := a) (d := 3600) (by omega)
  rw [ctl_dec, w64 (by omega)]
  unfold Norm
  rw [← hf]
  split <;> rfl

theorem c_floor {n d : Int} (hd : 0 < d) (hn : -9000000000000000000 ≤ n ∧ n ≤ 9000000000000000000) : denC E 79 [AV.int .i64 n, AV.int .i64 d] [] = some ([RV.p (PV.int .i64 (n / d))], []) := by
  rw [denC_eq, r79]
  have hb : -9000000000000000001 ≤ n / d ∧ n / d ≤ 9000000000000000000 := by
    have h1 := Int.mul_ediv_add_emod n d
    have h3 := Int.emod_nonneg n (Int.ne_of_gt hd)
    have h4 := Int.emod_lt_of_pos n hd
    constructor
    · rcases Int.lt_or_le (n / d) (-9000000000000000000) with h | h
      · have h5 : d * (n / d) ≤ d * (-9000000000000000001) := Int.mul_le_mul_of_nonneg_left (by omega) (by omega)
        omega
      · omega
    · rcases Int.lt_or_le 9000000000000000000 (n / d) with h | h
      · have h5 : d * 9000000000000000001 ≤ d * (n / d) := Int.mul_le_mul_of_nonneg_left (by omega) (by omega)
        omega
      · exact h
  have hf := floor_div (n := n) hd
  have hq : n.tdiv d = n / d ∨ n.tdiv d = n / d + 1 := by
    split at hf <;> omega
  have hne : neB d 0 = true := by simp; omega
  simp only [hne, Bool.and_self, ctl_true]
  rw [ctl_dec, w64 (n := n.tdiv d) (by omega), w64 (by omega), ← hf]
  split <;> rfl

theorem c_Half1 {n d : Int} (hd : 1 ≤ d ∧ d ≤ 1000000000) (hn : -1000000000000000000 ≤ n ∧ n ≤ 1000000000000000000) :
    denC E 78 [AV.int .i64 n, AV.int .i64 d] [] = some ([RV.p (PV.int .i64 ((2 * n + d) / (2 * d)))], []) := by
  rw [denC_eq, r78]
  rw [w64 (n := 2 * n) (by omega), w64 (n := 2 * n + d) (by omega), w64 (n := 2 * d) (by omega), c_floor (by omega) (by omega)]
  simp only [SB, Nat.reduceAdd]

def Half (n d : Int) : Int := (2 * n + d) / (2 * d)
theorem c_Half {n d : Int} (hd : 1 ≤ d ∧ d ≤ 1000000000) (hn : -1000000000000000000 ≤ n ∧ n ≤ 1000000000000000000) :
    denC E 54 [AV.int .i64 n, AV.int .i64 d] [] = some ([RV.p (PV.int .i64 (Half n d)), RV.p (PV.int .i64 0)], []) := by
  have hdiv : denC E 77 [AV.int .i64 n, AV.int .i64 d, AV.fn 78 []] [] = some ([RV.p (PV.int .i64 (Half n d)), RV.p (PV.int .i64 0)], []) := by
    rw [denC_eq, r77a, c_Half1 hd hn]
    have h1 : ltB n (-1000000000000000000) = false := by simp; omega
    have h2 : ltB 1000000000000000000 n = false := by simp; omega
    have h3 : ltB d 1 = false := by simp; omega
    have h4 : ltB 1000000000 d = false := by simp; omega
    simp only [h1, h2, h3, h4, SB, Nat.reduceAdd, Half]
  rw [denC_eq, r54, hdiv]
  simp only [SB, Nat.reduceAdd]

def Sin0 (p : Int) : Int := Half (40000 * (p * (1800 - p))) (4050000 - p * (1800 - p))
def Sin (a : Int) : Int := if Norm a > 1800 then -Sin0 (Norm a - 1800) else Sin0 (Norm a)

theorem Sin0_prod {p : Int} (hp : 0 ≤ p ∧ p ≤ 1800) : 0 ≤ p * (1800 - p) ∧ p * (1800 - p) ≤ 3240000 := by
  refine ⟨Int.mul_nonneg hp.1 (by omega), ?_⟩
  have h : p * (1800 - p) ≤ 1800 * (1800 - p) := Int.mul_le_mul_of_nonneg_right hp.2 (by omega)
  omega

theorem Sin0_bound {p : Int} (hp : 0 ≤ p ∧ p ≤ 1800) : 0 ≤ Sin0 p ∧ Sin0 p ≤ 300000000000 := by
  obtain ⟨h1, h2⟩ := Sin0_prod hp
  generalize hq : p * (1800 - p) = q at h1 h2
  have hd : 0 < 2 * (4050000 - q) := by omega
  unfold Sin0 Half
  rw [hq]
  refine ⟨Int.ediv_nonneg (by omega) (by omega), ?_⟩
  refine Int.le_trans (Int.ediv_le_self _ (by omega)) (by omega)

theorem c_Sin (a : Int) : denC E 46 [AV.int .i64 a] [] = some ([RV.p (PV.int .i64 (Sin a))], []) := by
  rw [denC_eq, r46, c_Norm]
  have hN := Norm_lt a
  simp only [SB, Nat.reduceAdd]
  rw [ctl_dec]
  unfold Sin
  by_cases h : Norm a > 1800
  · rw [if_pos h, if_pos h]
    have hp := Sin0_prod (p := Norm a - 1800) (by omega)
    have hb := Sin0_bound (p := Norm a - 1800) (by omega)
    rw [w64 (n := Norm a - 1800) (by omega), w64 (n := 1800 - (Norm a - 1800)) (by omega), w64 (n := (Norm a - 1800) * (1800 - (Norm a - 1800))) (by omega), w64 (n := 40000 * _) (by omega), w64 (n := 4050000 - _) (by omega),
      c_Half (by omega) (by omega)]
    simp only [SB, Nat.reduceAdd]
    have e : Half (40000 * ((Norm a - 1800) * (1800 - (Norm a - 1800)))) (4050000 - (Norm a - 1800) * (1800 - (Norm a - 1800))) = Sin0 (Norm a - 1800) := rfl
    rw [e, w64 (by omega)]
    congr 5
    omega
  · rw [if_neg h, if_neg h]
    have hp := Sin0_prod (p := Norm a) (by omega)
    have hb := Sin0_bound (p := Norm a) (by omega)
    rw [w64 (n := 1800 - Norm a) (by omega), w64 (n := Norm a * (1800 - Norm a)) (by omega), w64 (n := 40000 * _) (by omega), w64 (n := 4050000 - _) (by omega),
      c_Half (by omega) (by omega)]
    simp only [SB, Nat.reduceAdd]
    have e : Half (40000 * (Norm a * (1800 - Norm a))) (4050000 - Norm a * (1800 - Norm a)) = Sin0 (Norm a) := rfl
    rw [e, w64 (by omega)]
    congr 5
    omega

def Cos (a : Int) : Int := Sin (Norm a + 900)
theorem c_Cos (a : Int) : denC E 45 [AV.int .i64 a] [] = some ([RV.p (PV.int .i64 (Cos a))], []) := by
  rw [denC_eq, r45, c_Norm]
  have hN := Norm_lt a
  simp only [SB, Nat.reduceAdd]
  rw [w64 (by omega), c_Sin]
  simp only [SB, Nat.reduceAdd, Cos]

def Width (x y : Int) : Int := Norm (y - x)
theorem c_Width {x y : Int} (hx : 0 ≤ x ∧ x < 3600) (hy : 0 ≤ y ∧ y < 3600) : denC E 123 [AV.agg [PV.int .i64 x, PV.int .i64 y]] [] = some ([RV.p (PV.int .i64 (Width x y))], []) := by
  rw [denC_eq, r123, w64 (by omega), c_Norm]
  simp only [SB, Nat.reduceAdd, Width]

theorem c_Valid1 (a : Int) : denC E 122 [AV.int .i64 a] [] = some ([RV.p (PV.bool (leB 0 a && ltB a 3600))], []) := by
  rw [denC_eq, r122]
  simp only [SB, Nat.reduceAdd]

def Valid (x y : Int) : Bool := decide (0 ≤ x ∧ x < 3600 ∧ 0 ≤ y ∧ y < 3600 ∧ Width x y < 1800)
theorem c_Valid (x y : Int) : denC E 108 [AV.agg [PV.int .i64 x, PV.int .i64 y]] [] = some ([RV.p (PV.bool (Valid x y))], []) := by
  rw [denC_eq, r108, c_Valid1, c_Valid1]
  simp only [SB, Nat.reduceAdd]
  by_cases hx : 0 ≤ x ∧ x < 3600
  · by_cases hy : 0 ≤ y ∧ y < 3600
    · rw [c_Width hx hy]
      have e1 : (leB 0 x && ltB x 3600) = true := by simp; omega
      have e2 : (leB 0 y && ltB y 3600) = true := by simp; omega
      rw [e1, e2]
      simp only [SB, Nat.reduceAdd]
      have : ltB (Width x y) 1800 = Valid x y := by
        unfold Valid
        rw [Bool.eq_iff_iff]
        simp only [decide_eq_true_eq]
        omega
      rw [this]
    · have e1 : (leB 0 x && ltB x 3600) = true := by simp; omega
      have e2 : (leB 0 y && ltB y 3600) = false := by simp; omega
      rw [e1, e2]
      simp only [SB, Nat.reduceAdd]
      have : Valid x y = false := by unfold Valid; simp; omega
      rw [this]
  · have e1 : (leB 0 x && ltB x 3600) = false := by simp; omega
    rw [e1]
    simp only [SB, Nat.reduceAdd]
    have : Valid x y = false := by unfold Valid; simp; omega
    rw [this]

theorem Valid_iff {x y : Int} : Valid x y = true ↔ 0 ≤ x ∧ x < 3600 ∧ 0 ≤ y ∧ y < 3600 ∧ Width x y < 1800 := by unfold Valid; simp

end Go.Proofs.YtclplmjlolpfbaaGreat.Vm

/- Contracts of the source of numbers. -/
namespace Go.Proofs.YtclplmjlolpfbaaGreat.Vm
set_option linter.unusedVariables false
set_option linter.unusedSimpArgs false

abbrev src (L : List Int) (k : Nat) : Blk := Blk.box [AV.sl 1 (intsK .i64 L), AV.int .i64 k]

theorem src_zero (L : List Int) : Blk.box [AV.sl 1 (intsK .i64 L), AV.int .i64 0] = Blk.box [AV.sl 1 (intsK .i64 L), AV.int .i64 ((0 : Nat) : Int)] := rfl

theorem intsK_length (k : IntKind) (L : List Int) : (intsK k L).length = L.length := by simp [intsK]

theorem getE_ints {α : Type} {k : IntKind} {L : List Int} {i : Int} (hi : 0 ≤ i ∧ i < L.length) (K : List PV → Option α) : getE (intsK k L) i K = K [PV.int k (L.getD i.toNat 0)] := by
  unfold getE
  rw [intsK_length]
  have h1 : leB 0 i = true := by simpa using hi.1
  have h2 : ltB i L.length = true := by simpa using hi.2
  rw [h1, h2]
  have hlt : i.toNat < L.length := by omega
  simp only [Bool.and_self, ctl_true]
  rw [nth_eq]
  simp [intsK, List.getD, hlt]

def md (x n : Int) : Int := if n < 1 then 0 else x % n
theorem c_Mod (x n : Int) (hn : n ≤ 4611686018427387904) : denC E 40 [AV.int .i64 x, AV.int .i64 n] [] = some ([RV.p (PV.int .i64 (md x n))], []) := by
  rw [denC_eq, r40, ctl_dec]
  unfold md
  by_cases h : n < 1
  · rw [if_pos h, if_pos h]
  · rw [if_neg h, if_neg h]
    have hne : neB n 0 = true := by simp; omega
    have hb := tmod_bounds (a := x) (d := n) (by omega)
    have hf := tmod_fix (a := x) (d := n) (by omega)
    rw [hne, w64 (by omega)]
    simp only [SB, Nat.reduceAdd]
    have : (x.tmod n + n).tmod n = x % n := by
      rw [Int.tmod_eq_emod_of_nonneg (by omega), Int.add_emod_right]
      split at hf
      · rw [← Int.add_emod_right, hf, Int.emod_emod]
      · rw [hf, Int.emod_emod]
    rw [this]

theorem md_bounds {x n : Int} (hn : 1 ≤ n) : 0 ≤ md x n ∧ md x n < n := by
  unfold md
  rw [if_neg (by omega)]
  exact ⟨Int.emod_nonneg _ (by omega), Int.emod_lt_of_pos _ (by omega)⟩

def vN (L : List Int) (k : Nat) (n : Int) : Int := if k < L.length then md (L.getD k 0) n else 0
def at' (L : List Int) (k : Nat) : Nat := if k < L.length then k + 1 else k

theorem vN_bounds {L : List Int} {k : Nat} {n : Int} (hn : 1 ≤ n) : 0 ≤ vN L k n ∧ vN L k n < n := by
  unfold vN
  split
  · exact md_bounds hn
  · omega

theorem c_N {L : List Int} {k : Nat} (hL : L.length ≤ 600) (hk : k ≤ 600) (n : Int) (hn : n ≤ 4611686018427387904) :
    denC E 20 [AV.t (.ptr 0 0), AV.int .i64 n] [src L k] = some ([RV.p (PV.int .i64 (vN L k n))], [src L (at' L k)]) := by
  rw [denC_eq]
  rw [r20, ctl_dec, intsK_length]
  unfold vN at'
  by_cases h : k < L.length
  · rw [if_neg (by omega), if_pos h, if_pos h, w64 (n := (k : Int) + 1) (by omega), w64 (n := (k : Int) + 1 - 1) (by omega), getE_ints (by omega)]
    simp only [SB, Nat.reduceAdd]
    rw [c_Mod _ _ hn]
    simp only [SB, Nat.reduceAdd]
    have e : ((k : Int) + 1 - 1).toNat = k := by omega
    rw [e]
    rfl
  · rw [if_pos (by omega), if_neg h, if_neg h]

theorem at'_le {L : List Int} {k : Nat} (hL : L.length ≤ 600) (hk : k ≤ 600) : at' L k ≤ 600 := by unfold at'; split <;> omega

def vRange (L : List Int) (k : Nat) (lo hi : Int) : Int := lo + vN L k (hi - lo + 1)
theorem vRange_bounds {L : List Int} {k : Nat} {lo hi : Int} (h : lo ≤ hi) : lo ≤ vRange L k lo hi ∧ vRange L k lo hi ≤ hi := by
  have := vN_bounds (L := L) (k := k) (n := hi - lo + 1) (by omega)
  unfold vRange; omega

theorem c_Range {L : List Int} {k : Nat} (hL : L.length ≤ 600) (hk : k ≤ 600) {lo hi : Int} (h : -1000000000000 ≤ lo ∧ lo ≤ hi ∧ hi ≤ 1000000000000) :
    denC E 30 [AV.t (.ptr 0 0), AV.int .i64 lo, AV.int .i64 hi] [src L k] = some ([RV.p (PV.int .i64 (vRange L k lo hi))], [src L (at' L k)]) := by
  rw [denC_eq]
  have hN := c_N hL hk (hi - lo + 1) (by omega)
  have hb := vN_bounds (L := L) (k := k) (n := hi - lo + 1) (by omega)
  rw [r30, w64 (n := hi - lo) (by omega), w64 (n := hi - lo + 1) (by omega), hN]
  simp only [SB, Nat.reduceAdd]
  rw [w64 (by omega)]
  rfl

def vPick (L : List Int) (k : Nat) (l : List Int) : Int := l.getD (vN L k l.length).toNat 0
theorem c_Pick {L : List Int} {k : Nat} (hL : L.length ≤ 600) (hk : k ≤ 600) {l : List Int} (hl : 1 ≤ l.length ∧ l.length ≤ 1000) :
    denC E 28 [AV.t (.ptr 0 0), AV.sl 1 (intsK .i64 l)] [src L k] = some ([RV.p (PV.int .i64 (vPick L k l))], [src L (at' L k)]) := by
  rw [denC_eq]
  have hN := c_N hL hk l.length (by omega)
  have hb := vN_bounds (L := L) (k := k) (n := l.length) (by omega)
  rw [r28, intsK_length, hN]
  simp only [SB, Nat.reduceAdd]
  rw [getE_ints hb]
  simp only [SB, Nat.reduceAdd]
  rfl

theorem vPick_mem (L : List Int) (k : Nat) {l : List Int} (hl : 1 ≤ l.length) : vPick L k l ∈ l := by
  have hb := vN_bounds (L := L) (k := k) (n := l.length) (by omega)
  have hlt : (vN L k l.length).toNat < l.length := by omega
  unfold vPick
  simp [List.getD, hlt]

theorem c_New (l : List Int) : denC E 7 [AV.sl 1 (intsK .i64 l)] [] = some ([RV.ownp [PV.sl 1 (intsK .i64 (l.take 600)), PV.int .i64 0]], []) := by
  rw [denC_eq, r7, intsK_length]
  have e : (minI 600 l.length).toNat = min 600 l.length := by unfold minI; split <;> omega
  have h1 : leB 0 (minI 600 l.length) = true := by simp only [decide_eq_true_eq]; unfold minI; split <;> omega
  have h2 : leB (minI 600 l.length) l.length = true := by simp only [decide_eq_true_eq]; unfold minI; split <;> omega
  rw [h1, h2]
  simp only [SB, Nat.reduceAdd]
  unfold cutI
  rw [e]
  have : ((intsK .i64 l).take (min 600 l.length)).drop (Int.toNat 0) = intsK .i64 (l.take 600) := by
    simp only [Int.toNat_zero, List.drop_zero]
    unfold intsK
    rw [← List.map_take]
    congr 1
    rw [← List.take_take, List.take_length]
  rw [this]

end Go.Proofs.YtclplmjlolpfbaaGreat.Vm

/- Contracts of the functions that compute with vectors. -/
namespace Go.Proofs.YtclplmjlolpfbaaGreat.Vm
set_option linter.unusedVariables false
set_option linter.unusedSimpArgs false

theorem sin0_all : ((List.range 1801).all fun n => leB (Sin0 (n : Int)) 10000) = true := by decide +kernel

theorem Sin0_le {p : Int} (hp : 0 ≤ p ∧ p ≤ 1800) : 0 ≤ Sin0 p ∧ Sin0 p ≤ 10000 := by
  have := List.all_eq_true.1 sin0_all p.toNat (by simp; omega)
  rw [Int.toNat_of_nonneg hp.1] at this
  exact ⟨(Sin0_bound hp).1, of_decide_eq_true this⟩

theorem Sin_le (a : Int) : -10000 ≤ Sin a ∧ Sin a ≤ 10000 := by
  have hN := Norm_lt a
  unfold Sin
  split
  · have := Sin0_le (p := Norm a - 1800) (by omega); omega
  · have := Sin0_le (p := Norm a) (by omega); omega

theorem Cos_le (a : Int) : -10000 ≤ Cos a ∧ Cos a ≤ 10000 := Sin_le _

theorem mul_le {a b m n : Int} (ha : -m ≤ a ∧ a ≤ m) (hb : -n ≤ b ∧ b ≤ n) : -(m * n) ≤ a * b ∧ a * b ≤ m * n := by
  have hm : 0 ≤ m := by omega
  have hn : 0 ≤ n := by omega
  have h1 : (a * b).natAbs ≤ (m * n).natAbs := by
    rw [Int.natAbs_mul, Int.natAbs_mul]
    exact Nat.mul_le_mul (by omega) (by omega)
  have h2 : 0 ≤ m * n := Int.mul_nonneg hm hn
  omega

def Small (x y : Int) : Bool := decide (-1000000000 ≤ x ∧ x ≤ 1000000000 ∧ -1000000000 ≤ y ∧ y ≤ 1000000000)
theorem Small_iff {x y : Int} : Small x y = true ↔ -1000000000 ≤ x ∧ x ≤ 1000000000 ∧ -1000000000 ≤ y ∧ y ≤ 1000000000 := by unfold Small; simp
theorem c_small (x y : Int) : denC E 129 [AV.int .i64 x, AV.int .i64 y] [] = some ([RV.p (PV.bool (Small x y))], []) := by
  rw [denC_eq, r129]
  simp only [SB, Nat.reduceAdd]
  have : (leB (maxI y x) 1000000000 && leB (-1000000000) (minI y x)) = Small x y := by
    rw [Bool.eq_iff_iff]
    unfold Small maxI minI
    simp only [Bool.and_eq_true, decide_eq_true_eq]
    split <;> split <;> omega
  rw [this]

def Cross (a x y : Int) : Int := if Small x y = true then Cos a * y - Sin a * x else 0
theorem c_Cross (a x y : Int) : denC E 130 [AV.int .i64 a, AV.int .i64 x, AV.int .i64 y] [] = some ([RV.p (PV.int .i64 (Cross a x y))], []) := by
  rw [denC_eq, r130, c_small, c_Cos, c_Sin]
  simp only [SB, Nat.reduceAdd]
  unfold Cross
  cases h : Small x y with
  | false => rfl
  | true =>
    have hs := Small_iff.1 h
    have h1 := mul_le (a := Cos a) (b := y) (m := 10000) (n := 1000000000) (Cos_le a) (by omega)
    have h2 := mul_le (a := Sin a) (b := x) (m := 10000) (n := 1000000000) (Sin_le a) (by omega)
    rw [w64 (n := Cos a * y) (by omega), w64 (n := Sin a * x) (by omega), w64 (by omega)]
    rfl

def Within (x y px py : Int) : Bool :=
  Valid x y && !(px == 0 && py == 0) && Small px py && (leB 0 (Cross x px py) && leB (Cross y px py) 0 && (ltB 0 (Cross x px py) || ltB 0 (Cos x * px + Sin x * py)))

theorem c_Within (x y px py : Int) : denC E 127 [AV.agg [PV.int .i64 x, PV.int .i64 y], AV.int .i64 px, AV.int .i64 py] [] = some ([RV.p (PV.bool (Within x y px py))], []) := by
  rw [denC_eq, r127]
  simp only [c_Valid, c_small, c_Cross, c_Cos, c_Sin, SB, Nat.reduceAdd]
  unfold Within
  cases hv : Valid x y with
  | false => rfl
  | true =>
    cases h0 : (px == 0 && py == 0) with
    | true => simp [ctl]
    | false =>
      cases hs : Small px py with
      | false => rfl
      | true =>
        have hs' := Small_iff.1 hs
        have h1 := mul_le (a := Cos x) (b := px) (m := 10000) (n := 1000000000) (Cos_le x) (by omega)
        have h2 := mul_le (a := Sin x) (b := py) (m := 10000) (n := 1000000000) (Sin_le x) (by omega)
        rw [w64 (n := Cos x * px) (by omega), w64 (n := Sin x * py) (by omega), w64 (n := Cos x * px + Sin x * py) (by omega)]
        simp [ctl]

def arcFrom (L : List Int) (k : Nat) : Int := vPick L k [0, 450, 800, 1350, 1800, 2600, 3500]
def arcTo (L : List Int) (k : Nat) : Int := (arcFrom L k + vPick L (at' L k) [0, 100, 300, 900, 1799]) % 3600

theorem arcFrom_in (L : List Int) (k : Nat) : arcFrom L k ∈ [0, 450, 800, 1350, 1800, 2600, 3500] := vPick_mem L k (by decide)
theorem arcWidth_in (L : List Int) (k : Nat) : vPick L k [0, 100, 300, 900, 1799] ∈ [0, 100, 300, 900, 1799] := vPick_mem L k (by decide)

theorem c_Arc {L : List Int} {k : Nat} (hL : L.length ≤ 600) (hk : k ≤ 600) :
    denC E 50 [AV.t (.ptr 0 0)] [src L k] = some ([RV.agg [PV.int .i64 (arcFrom L k), PV.int .i64 (arcTo L k)]], [src L (at' L (at' L k))]) := by
  rw [denC_eq]
  have e1 : denC E 28 [AV.t (.ptr 0 0), AV.sl 1 [[PV.int .i64 0], [PV.int .i64 450], [PV.int .i64 800], [PV.int .i64 1350], [PV.int .i64 1800], [PV.int .i64 2600], [PV.int .i64 3500]]] [src L k] = _ := c_Pick hL hk (l := [0, 450, 800, 1350, 1800, 2600, 3500]) (by decide)
  have e2 : denC E 28 [AV.t (.ptr 0 0), AV.sl 1 [[PV.int .i64 0], [PV.int .i64 100], [PV.int .i64 300], [PV.int .i64 900], [PV.int .i64 1799]]] [src L (at' L k)] = _ := c_Pick hL (at'_le hL hk) (l := [0, 100, 300, 900, 1799]) (by decide)
  have m1 := arcFrom_in L k
  have m2 := arcWidth_in L (at' L k)
  rw [r50]
  rw [e1]
  simp only [SB, Nat.reduceAdd]
  rw [e2]
  simp only [SB, Nat.reduceAdd]
  have hb : 0 ≤ arcFrom L k ∧ arcFrom L k ≤ 3500 := by
    simp only [List.mem_cons, List.not_mem_nil, or_false] at m1; omega
  have hb2 : 0 ≤ vPick L (at' L k) [0, 100, 300, 900, 1799] ∧ vPick L (at' L k) [0, 100, 300, 900, 1799] ≤ 1799 := by
    simp only [List.mem_cons, List.not_mem_nil, or_false] at m2; omega
  have e : vPick L k [0, 450, 800, 1350, 1800, 2600, 3500] = arcFrom L k := rfl
  rw [e, w64 (by omega), Int.tmod_eq_emod_of_nonneg (by omega)]
  rfl

end Go.Proofs.YtclplmjlolpfbaaGreat.Vm

/- Thrusters, the forces that they may give, and the runs around 0: plain laws. -/
namespace Go.Proofs.YtclplmjlolpfbaaGreat.Vm
set_option linter.unusedVariables false
set_option linter.unusedSimpArgs false

structure Thr where
  kd : Int
  st : Int
  mx : Int
  rt : Int
  ct : Int
  fb : List (Int × Int)

theorem b_box6 (ss : List Sh) (a b c d e f : PV) (l : List (List Sh ⊕ Nat)) (r : List Blk) : okB (.inl ss :: l) (.box [.t (.p a), .t (.p b), .t (.p c), .t (.p d), .t (.p e), .t (.p f)] :: r) = (okCs ss [a, b, c, d, e, f] && okB l r) := rfl

def arcC (a : Int × Int) : List PV := [PV.int .i64 a.1, PV.int .i64 a.2]
def arcK (l : List (Int × Int)) : List (List PV) := l.map arcC
theorem arcK_length (l : List (Int × Int)) : (arcK l).length = l.length := by simp [arcK]
theorem arcK_append (a b : List (Int × Int)) : arcK (a ++ b) = arcK a ++ arcK b := by simp [arcK]
def thC (t : Thr) : List PV := [PV.int .i64 t.kd, PV.int .i64 t.st, PV.int .i64 t.mx, PV.int .i64 t.rt, PV.int .i64 t.ct, PV.sl 2 (arcK t.fb)]

def okT0 (t : Thr) : Bool := decide (1 ≤ t.kd ∧ t.kd ≤ 3 ∧ 0 ≤ t.st ∧ t.st ≤ 1 ∧ 0 ≤ t.mx ∧ t.mx ≤ 5000 ∧ 0 ≤ t.rt ∧ t.rt ≤ 5000 ∧ 1 ≤ t.ct ∧ t.ct ≤ 100 ∧ t.fb.length ≤ 4)
def okA' (l : List (Int × Int)) : Bool := l.all fun a => Valid a.1 a.2
def okT (t : Thr) : Bool := okT0 t && okA' t.fb
theorem okT0_iff {t : Thr} : okT0 t = true ↔ 1 ≤ t.kd ∧ t.kd ≤ 3 ∧ 0 ≤ t.st ∧ t.st ≤ 1 ∧ 0 ≤ t.mx ∧ t.mx ≤ 5000 ∧ 0 ≤ t.rt ∧ t.rt ≤ 5000 ∧ 1 ≤ t.ct ∧ t.ct ≤ 100 ∧ t.fb.length ≤ 4 := by unfold okT0; simp
theorem okT_iff {t : Thr} : okT t = true ↔ okT0 t = true ∧ okA' t.fb = true := by unfold okT; simp

def free (l : List (Int × Int)) (x y : Int) : Bool := l.all fun a => !Within a.1 a.2 x y
def alw0 (t : Thr) (x y : Int) : Bool := decide (-t.mx ≤ x ∧ x ≤ t.mx ∧ -t.mx ≤ y ∧ y ≤ t.mx ∧ x * x + y * y ≤ t.mx * t.mx ∧ (t.kd = 1 → x = 0) ∧ (t.kd = 2 → y = 0))
def alw (t : Thr) (x y : Int) : Bool := alw0 t x y && free t.fb x y
theorem alw0_iff {t : Thr} {x y : Int} : alw0 t x y = true ↔ -t.mx ≤ x ∧ x ≤ t.mx ∧ -t.mx ≤ y ∧ y ≤ t.mx ∧ x * x + y * y ≤ t.mx * t.mx ∧ (t.kd = 1 → x = 0) ∧ (t.kd = 2 → y = 0) := by unfold alw0; rw [decide_eq_true_eq]
theorem alw_iff {t : Thr} {x y : Int} : alw t x y = true ↔ alw0 t x y = true ∧ free t.fb x y = true := by unfold alw; simp

theorem Within_zero (a b : Int) : Within a b 0 0 = false := by unfold Within; simp
theorem free_zero (l : List (Int × Int)) : free l 0 0 = true := by
  unfold free
  rw [List.all_eq_true]
  intro a _
  rw [Within_zero]; rfl
theorem alw_zero {t : Thr} (h : 0 ≤ t.mx) : alw t 0 0 = true := by
  have := Int.mul_nonneg h h
  exact alw_iff.2 ⟨alw0_iff.2 ⟨by omega, by omega, by omega, by omega, by omega, fun _ => rfl, fun _ => rfl⟩, free_zero _⟩

def IsRun (p : Int → Bool) (lo hi : Int) : Prop := lo ≤ 0 ∧ 0 ≤ hi ∧ (∀ n, lo ≤ n → n ≤ hi → p n = true) ∧ p (lo - 1) = false ∧ p (hi + 1) = false

theorem IsRun_mono {p q : Int → Bool} {a b c d : Int} (hp : ∀ n, q n = true → p n = true) (h : IsRun p a b) (h' : IsRun q c d) : a ≤ c ∧ d ≤ b := by
  obtain ⟨h1, h2, h3, h4, h5⟩ := h
  obtain ⟨g1, g2, g3, g4, g5⟩ := h'
  constructor
  · rcases Int.lt_or_le c a with hl | hl
    · have := hp _ (g3 (a - 1) (by omega) (by omega))
      rw [h4] at this; cases this
    · exact hl
  · rcases Int.lt_or_le b d with hl | hl
    · have := hp _ (g3 (b + 1) (by omega) (by omega))
      rw [h5] at this; cases this
    · exact hl
theorem IsRun_uniq {p : Int → Bool} {a b c d : Int} (h : IsRun p a b) (h' : IsRun p c d) : a = c ∧ b = d := by
  have h1 := IsRun_mono (fun _ h => h) h h'
  have h2 := IsRun_mono (fun _ h => h) h' h
  omega
theorem run_down (p : Int → Bool) (B : Int) (hb : ∀ n, p n = true → -B ≤ n) : ∀ (k : Nat) (lo : Int), (lo + B).toNat ≤ k → ∃ j : Nat, p (lo - j - 1) = false ∧ ∀ i : Nat, i < j → p (lo - i - 1) = true
  | k, lo, hk => by
    cases hp : p (lo - 1) with
    | false => exact ⟨0, by simpa using hp, fun i hi => absurd hi (by omega)⟩
    | true =>
      have := hb _ hp
      cases k with
      | zero => omega
      | succ k =>
        obtain ⟨j, h1, h2⟩ := run_down p B hb k (lo - 1) (by omega)
        refine ⟨j + 1, ?_, fun i hi => ?_⟩
        · have e : lo - ((j + 1 : Nat) : Int) - 1 = lo - 1 - j - 1 := by omega
          rw [e]; exact h1
        · cases i with
          | zero => simpa using hp
          | succ i =>
            have e : lo - ((i + 1 : Nat) : Int) - 1 = lo - 1 - i - 1 := by omega
            rw [e]; exact h2 i (by omega)

theorem run_up (p : Int → Bool) (B : Int) (hb : ∀ n, p n = true → n ≤ B) : ∀ (k : Nat) (hi : Int), (B - hi).toNat ≤ k → ∃ j : Nat, p (hi + j + 1) = false ∧ ∀ i : Nat, i < j → p (hi + i + 1) = true
  | k, hi, hk => by
    cases hp : p (hi + 1) with
    | false => exact ⟨0, by simpa using hp, fun i hi => absurd hi (by omega)⟩
    | true =>
      have := hb _ hp
      cases k with
      | zero => omega
      | succ k =>
        obtain ⟨j, h1, h2⟩ := run_up p B hb k (hi + 1) (by omega)
        refine ⟨j + 1, ?_, fun i hi' => ?_⟩
        · have e : hi + ((j + 1 : Nat) : Int) + 1 = hi + 1 + j + 1 := by omega
          rw [e]; exact h1
        · cases i with
          | zero => simpa using hp
          | succ i =>
            have e : hi + ((i + 1 : Nat) : Int) + 1 = hi + 1 + i + 1 := by omega
            rw [e]; exact h2 i (by omega)

theorem IsRun_of {p : Int → Bool} {a b : Nat} (h0 : p 0 = true) (h1 : p (0 - a - 1) = false) (h2 : ∀ i : Nat, i < a → p (0 - i - 1) = true) (h3 : p (0 + b + 1) = false) (h4 : ∀ i : Nat, i < b → p (0 + i + 1) = true) : IsRun p (-a) b := by
  refine ⟨by omega, by omega, fun n hn hm => ?_, ?_, ?_⟩
  · rcases Int.lt_trichotomy n 0 with h | h | h
    · have := h2 (-n - 1).toNat (by omega)
      have e : (0 : Int) - (((-n - 1).toNat : Nat) : Int) - 1 = n := by omega
      rw [e] at this; exact this
    · rw [h]; exact h0
    · have := h4 (n - 1).toNat (by omega)
      have e : (0 : Int) + (((n - 1).toNat : Nat) : Int) + 1 = n := by omega
      rw [e] at this; exact this
  · have e : -(a : Int) - 1 = 0 - a - 1 := by omega
    rw [e]; exact h1
  · have e : (b : Int) + 1 = 0 + b + 1 := by omega
    rw [e]; exact h3

theorem alw_bounds {t : Thr} {x y : Int} (h : alw t x y = true) : -t.mx ≤ x ∧ x ≤ t.mx ∧ -t.mx ≤ y ∧ y ≤ t.mx := by
  have := alw0_iff.1 (alw_iff.1 h).1
  omega

end Go.Proofs.YtclplmjlolpfbaaGreat.Vm

/- Contracts of the functions that say which forces a thruster may give. -/
namespace Go.Proofs.YtclplmjlolpfbaaGreat.Vm
set_option linter.unusedVariables false
set_option linter.unusedSimpArgs false

theorem getE_midG {α β : Type} (f : β → List PV) (p : List β) (s : β) (l : List β) (K : List PV → Option α) : getE ((p ++ s :: l).map f) (p.length : Int) K = K (f s) := by
  unfold getE
  rw [List.length_map]
  have h1 : leB 0 (p.length : Int) = true := by simp
  have h2 : ltB (p.length : Int) ((p ++ s :: l).length : Int) = true := by simp; omega
  rw [h1, h2]
  simp only [Bool.and_self, ctl_true, Int.toNat_natCast]
  rw [nth_eq]
  simp [List.getD]
theorem getE_arc {α : Type} (p : List (Int × Int)) (s : Int × Int) (l : List (Int × Int)) (K : List PV → Option α) : getE (arcK (p ++ s :: l)) (p.length : Int) K = K (arcC s) := getE_midG arcC p s l K

theorem c_in (n lo hi : Int) : denC E 105 [AV.int .i64 n, AV.int .i64 lo, AV.int .i64 hi] [] = some ([RV.p (PV.bool (leB lo n && leB n hi))], []) := by
  rw [denC_eq, r105]
  simp only [SB, Nat.reduceAdd]

theorem c_TV1 (a : Int × Int) : denC E 107 [AV.agg [PV.int .i64 a.1, PV.int .i64 a.2]] [] = some ([RV.p (PV.bool (!Valid a.1 a.2))], []) := by
  rw [denC_eq, r107, c_Valid]
  simp only [SB, Nat.reduceAdd]

def ixB (p : Int × Int → Bool) : List (Int × Int) → Nat → Option Nat
  | [], _ => none
  | a :: l, k => if p a = true then some k else ixB p l (k + 1)
theorem ixB_cons (p : Int × Int → Bool) (a : Int × Int) (l : List (Int × Int)) (k : Nat) : ixB p (a :: l) k = if p a = true then some k else ixB p l (k + 1) := rfl
theorem ixB_none {p : Int × Int → Bool} : ∀ {l : List (Int × Int)} {k : Nat}, ixB p l k = none ↔ l.all (fun a => !p a) = true
  | [], k => by simp [ixB]
  | a :: l, k => by
    unfold ixB
    cases h : p a with
    | true => simp [h]
    | false =>
      simp only [Bool.false_eq_true, if_false, List.all_cons, h, Bool.not_false, Bool.true_and]
      exact ixB_none

def ixR (p : Int × Int → Bool) (l : List (Int × Int)) : Int := match ixB p l 0 with | some j => j | none => -1
theorem ixR_le (p : Int × Int → Bool) (l : List (Int × Int)) : leB 0 (ixR p l) = !l.all (fun a => !p a) := by
  unfold ixR
  cases h : ixB p l 0 with
  | none =>
    rw [ixB_none.1 h]
    rfl
  | some j =>
    have : l.all (fun a => !p a) = false := by
      cases h2 : l.all (fun a => !p a) with
      | false => rfl
      | true => rw [ixB_none.2 h2] at h; cases h
    rw [this]
    simp

theorem ix34_loop : ∀ (l p : List (Int × Int)), (p ++ l).length ≤ maxLen →
    lp E (denC E) 121 0 [AV.undef, AV.fn 107 []] 0 { vals := [AV.sl 2 (arcK (p ++ l)), AV.int .i64 ((p ++ l).length : Int), AV.int .i64 (p.length : Int)], blks := [] } =
      (match ixB (fun a => !Valid a.1 a.2) l p.length with
       | some j => some (Ex.ret, { vals := [AV.int .i64 (j : Int)], blks := [] })
       | none => some (Ex.exit 0, { vals := [], blks := [] }))
  | [], p, h => by
    rw [r121_0a, ctl_dec, if_neg (by simp)]
    rfl
  | s :: l, p, h => by
    simp only [List.length_append, List.length_cons] at h
    have hm : maxLen ≤ 9223372036854775807 := by decide
    rw [r121_0a, ctl_dec, if_pos (by simp; omega), getE_arc]
    have ih := ix34_loop l (p ++ [s]) (by simp; omega)
    simp only [List.append_assoc, List.cons_append, List.nil_append, List.length_append, List.length_cons, List.length_nil] at ih
    simp only [List.length_append, List.length_cons, arcC, SB, Nat.reduceAdd, c_TV1]
    rw [w64 (n := (p.length : Int) + 1) (by omega)]
    have e1 : ((p.length : Int) + 1) = ((p.length + (0 + 1) : Nat) : Int) := by omega
    rw [e1, ih]
    rw [ixB_cons]
    cases hv : (!Valid s.1 s.2) with
    | true => simp only [ctl_true, if_true]
    | false => simp only [ctl_false, Bool.false_eq_true, if_false, Nat.zero_add]

theorem c_CF34 {l : List (Int × Int)} (h : l.length ≤ maxLen) : denC E 106 [AV.sl 2 (arcK l), AV.fn 107 []] [] = some ([RV.p (PV.bool (!okA' l))], []) := by
  have hix : denC E 121 [AV.sl 2 (arcK l), AV.fn 107 []] [] = some ([RV.p (PV.int .i64 (ixR (fun a => !Valid a.1 a.2) l))], []) := by
    rw [denC_eq, r121a, arcK_length]
    have hl := ix34_loop l [] (by simpa using h)
    simp only [List.nil_append, List.length_nil] at hl
    have e0 : (((0 : Nat)) : Int) = 0 := rfl
    rw [e0] at hl
    rw [hl]
    unfold ixR
    cases ixB (fun a => !Valid a.1 a.2) l 0 with
    | none => simp only [SB, Nat.reduceAdd]
    | some j => simp only [SB, Nat.reduceAdd]
  rw [denC_eq, r106a, hix]
  simp only [SB, Nat.reduceAdd, ixR_le]
  simp only [Bool.not_not]
  rfl

theorem okT_raw (t : Thr) : okT t = (leB 1 t.kd && leB t.kd 3 && (leB 0 t.st && leB t.st 1) && (leB 0 t.mx && leB t.mx 5000) && (leB 0 t.rt && leB t.rt 5000) && (leB 1 t.ct && leB t.ct 100) && leB (t.fb.length : Int) 4 && okA' t.fb) := by
  unfold okT
  congr 1
  rw [Bool.eq_iff_iff, okT0_iff]
  simp only [Bool.and_eq_true, decide_eq_true_eq]
  omega

theorem c_TValid {t : Thr} (h : t.fb.length ≤ maxLen) : denC E 74 [AV.agg (thC t)] [] = some ([RV.p (PV.bool (okT t))], []) := by
  unfold thC
  rw [denC_eq, r74]
  simp only [c_in, c_CF34 h, arcK_length, SB, Nat.reduceAdd]
  rw [okT_raw]
  simp only [ctl_and, bnd_some, Bool.not_not]
  cases (leB 1 t.kd && leB t.kd 3) <;> simp only [SB, Nat.reduceAdd, Bool.false_and]
  cases (leB 0 t.st && leB t.st 1) <;> simp only [SB, Nat.reduceAdd, Bool.false_and]
  cases (leB 0 t.mx && leB t.mx 5000) <;> simp only [SB, Nat.reduceAdd, Bool.false_and]
  cases (leB 0 t.rt && leB t.rt 5000) <;> simp only [SB, Nat.reduceAdd, Bool.false_and]
  cases (leB 1 t.ct && leB t.ct 100) <;> simp only [SB, Nat.reduceAdd, Bool.false_and]
  cases (leB (t.fb.length : Int) 4) <;> simp only [SB, Nat.reduceAdd, Bool.false_and]

theorem c_al1 (a : Int × Int) (x y : Int) : denC E 126 [AV.agg [PV.int .i64 a.1, PV.int .i64 a.2], AV.t (.ptr 0 0), AV.t (.ptr 1 0)] [Blk.box [AV.int .i64 x], Blk.box [AV.int .i64 y]] =
    some ([RV.p (PV.bool (Within a.1 a.2 x y))], [Blk.box [AV.int .i64 x], Blk.box [AV.int .i64 y]]) := by
  rw [denC_eq, r126, c_Within]
  simp only [SB, Nat.reduceAdd]

theorem ix40_loop (x y : Int) : ∀ (l p : List (Int × Int)), (p ++ l).length ≤ maxLen →
    lp E (denC E) 121 2 [AV.undef, AV.fn 126 [TV.ptr 0 0, TV.ptr 1 0]] 0 { vals := [AV.sl 2 (arcK (p ++ l)), AV.int .i64 ((p ++ l).length : Int), AV.int .i64 (p.length : Int)], blks := [Blk.box [AV.int .i64 x], Blk.box [AV.int .i64 y]] } =
      (match ixB (fun a => Within a.1 a.2 x y) l p.length with
       | some j => some (Ex.ret, { vals := [AV.int .i64 (j : Int)], blks := [Blk.box [AV.int .i64 x], Blk.box [AV.int .i64 y]] })
       | none => some (Ex.exit 0, { vals := [], blks := [Blk.box [AV.int .i64 x], Blk.box [AV.int .i64 y]] }))
  | [], p, h => by
    rw [r121_0b, ctl_dec, if_neg (by simp)]
    rfl
  | s :: l, p, h => by
    simp only [List.length_append, List.length_cons] at h
    have hm : maxLen ≤ 9223372036854775807 := by decide
    rw [r121_0b, ctl_dec, if_pos (by simp; omega), getE_arc]
    have ih := ix40_loop x y l (p ++ [s]) (by simp; omega)
    simp only [List.append_assoc, List.cons_append, List.nil_append, List.length_append, List.length_cons, List.length_nil] at ih
    simp only [List.length_append, List.length_cons, arcC, SB, Nat.reduceAdd, c_al1]
    rw [w64 (n := (p.length : Int) + 1) (by omega)]
    have e1 : ((p.length : Int) + 1) = ((p.length + (0 + 1) : Nat) : Int) := by omega
    rw [e1, ih]
    rw [ixB_cons]
    cases hv : Within s.1 s.2 x y with
    | true => simp only [ctl_true, if_true]
    | false => simp only [ctl_false, Bool.false_eq_true, if_false, Nat.zero_add]

theorem c_CF40 {l : List (Int × Int)} (h : l.length ≤ maxLen) (x y : Int) : denC E 106 [AV.sl 2 (arcK l), AV.fn 126 [TV.ptr 0 0, TV.ptr 1 0]] [Blk.box [AV.int .i64 x], Blk.box [AV.int .i64 y]] =
    some ([RV.p (PV.bool (!free l x y))], [Blk.box [AV.int .i64 x], Blk.box [AV.int .i64 y]]) := by
  have hix : denC E 121 [AV.sl 2 (arcK l), AV.fn 126 [TV.ptr 0 0, TV.ptr 1 0]] [Blk.box [AV.int .i64 x], Blk.box [AV.int .i64 y]] =
      some ([RV.p (PV.int .i64 (ixR (fun a => Within a.1 a.2 x y) l))], [Blk.box [AV.int .i64 x], Blk.box [AV.int .i64 y]]) := by
    rw [denC_eq, r121b, arcK_length]
    have hl := ix40_loop x y l [] (by simpa using h)
    simp only [List.nil_append, List.length_nil] at hl
    have e0 : (((0 : Nat)) : Int) = 0 := rfl
    rw [e0] at hl
    rw [hl]
    unfold ixR
    cases ixB (fun a => Within a.1 a.2 x y) l 0 with
    | none => simp only [SB, Nat.reduceAdd]
    | some j => simp only [SB, Nat.reduceAdd]
  rw [denC_eq, r106b, hix]
  simp only [SB, Nat.reduceAdd, ixR_le]
  rfl

theorem sq_le {a m : Int} (h : -m ≤ a ∧ a ≤ m) : 0 ≤ a * a ∧ a * a ≤ m * m := by
  have h1 := mul_le (a := a) (b := a) (m := m) (n := m) h h
  have h2 := Int.mul_self_nonneg a
  omega
where
  Int.mul_self_nonneg (a : Int) : 0 ≤ a * a := by
    rcases Int.le_total 0 a with h | h
    · exact Int.mul_nonneg h h
    · exact Int.mul_nonneg_of_nonpos_of_nonpos h h

theorem c_allowed {t : Thr} (hv : 0 ≤ t.mx ∧ t.mx ≤ 5000) (h : t.fb.length ≤ maxLen) (x y : Int) : denC E 116 [AV.agg (thC t), AV.int .i64 x, AV.int .i64 y] [] = some ([RV.p (PV.bool (alw t x y))], []) := by
  unfold thC
  rw [denC_eq, r116]
  rw [w64 (n := 0 - t.mx) (by omega)]
  by_cases h0 : -t.mx ≤ x ∧ x ≤ t.mx ∧ -t.mx ≤ y ∧ y ≤ t.mx
  · have s1 := sq_le (a := x) (m := t.mx) (by omega)
    have s2 := sq_le (a := y) (m := t.mx) (by omega)
    have s3 := sq_le (a := t.mx) (m := 5000) (by omega)
    rw [w64 (n := t.mx * t.mx) (by omega), w64 (n := x * x) (by omega), w64 (n := y * y) (by omega), w64 (n := x * x + y * y) (by omega)]
    have e1 : ltB t.mx (maxI y x) = false := by simp only [decide_eq_false_iff_not]; unfold maxI; split <;> omega
    have e2 : ltB (minI y x) (0 - t.mx) = false := by simp only [decide_eq_false_iff_not]; unfold minI; split <;> omega
    rw [e1, e2, c_CF40 h]
    simp only [SB, Nat.reduceAdd, Bool.true_or, Bool.or_true]
    unfold alw
    have e3 : alw0 t x y = (!ltB (t.mx * t.mx) (x * x + y * y) && !((t.kd == 1) && (x != 0)) && !((t.kd == 2) && (y != 0))) := by
      rw [Bool.eq_iff_iff, alw0_iff]
      simp only [Bool.and_eq_true, Bool.not_eq_true', decide_eq_false_iff_not, Bool.and_eq_false_iff, beq_eq_false_iff_ne, bne_eq_false_iff_eq]
      omega
    rw [e3]
    simp only [Bool.not_not]
    cases ltB (t.mx * t.mx) (x * x + y * y) <;> simp only [SB, Nat.reduceAdd, Bool.false_and, Bool.true_or, Bool.or_true]
    cases (t.kd == 1) <;> cases (x != 0) <;> simp only [SB, Nat.reduceAdd, Bool.false_and, Bool.true_or, Bool.or_true] <;> cases (t.kd == 2) <;> cases (y != 0) <;> simp only [SB, Nat.reduceAdd, Bool.false_and, Bool.true_or, Bool.or_true]
  · have e0 : alw t x y = false := by
      cases hh : alw t x y with
      | false => rfl
      | true => exact absurd (by have := alw_bounds hh; omega) h0
    rw [e0]
    by_cases h1 : t.mx < maxI y x
    · have e1 : ltB t.mx (maxI y x) = true := by simpa using h1
      rw [e1]
      simp only [SB, Nat.reduceAdd, Bool.true_or, Bool.or_true]
    · have e1 : ltB t.mx (maxI y x) = false := by simpa using h1
      have e2 : ltB (minI y x) (0 - t.mx) = true := by
        simp only [decide_eq_true_eq]
        unfold maxI at h1
        unfold minI
        split <;> split at h1 <;> omega
      rw [e1, e2]
      simp only [SB, Nat.reduceAdd, Bool.true_or, Bool.or_true]

abbrev thB (t : Thr) : Blk := Blk.box [AV.int .i64 t.kd, AV.int .i64 t.st, AV.int .i64 t.mx, AV.int .i64 t.rt, AV.int .i64 t.ct, AV.sl 2 (arcK t.fb)]

theorem c_L1 {t : Thr} (hv : 0 ≤ t.mx ∧ t.mx ≤ 5000) (h : t.fb.length ≤ maxLen) (y : Int) : denC E 115 [AV.int .i64 y, AV.t (.ptr 0 0)] [thB t] = some ([RV.p (PV.bool (alw t 0 y))], [thB t]) := by
  have hA := c_allowed hv h 0 y
  unfold thC at hA
  rw [denC_eq, r115, hA]
  simp only [SB, Nat.reduceAdd, b_box6]
theorem c_G1 {t : Thr} (hv : 0 ≤ t.mx ∧ t.mx ≤ 5000) (h : t.fb.length ≤ maxLen) (x y : Int) : denC E 118 [AV.int .i64 x, AV.t (.ptr 0 0), AV.t (.ptr 1 0)] [thB t, Blk.box [AV.int .i64 y]] = some ([RV.p (PV.bool (alw t x y))], [thB t, Blk.box [AV.int .i64 y]]) := by
  have hA := c_allowed hv h x y
  unfold thC at hA
  rw [denC_eq, r118, hA]
  simp only [SB, Nat.reduceAdd, b_box6]

theorem run0a {t : Thr} (hv : 0 ≤ t.mx ∧ t.mx ≤ 5000) (h : t.fb.length ≤ maxLen) (b : Int) : ∀ (j : Nat) (lo : Int), -5000 ≤ lo - j → lo ≤ 0 → alw t 0 (lo - j - 1) = false → (∀ i : Nat, i < j → alw t 0 (lo - i - 1) = true) →
    lp E (denC E) 114 1 [AV.fn 115 [TV.ptr 0 0]] 0 { vals := [AV.int .i64 lo, AV.int .i64 b], blks := [thB t] } = some (Ex.exit 0, { vals := [AV.int .i64 (lo - j), AV.int .i64 b], blks := [thB t] })
  | 0, lo, h1, h2, h3, h4 => by
    rw [r114_0a, w64 (n := lo - 1) (by omega), c_L1 hv h]
    have e : lo - ((0 : Nat) : Int) - 1 = lo - 1 := by omega
    rw [e] at h3
    have e2 : lo - ((0 : Nat) : Int) = lo := by omega
    rw [h3, e2]
    simp only [SB, Nat.reduceAdd, b_box6]
  | j + 1, lo, h1, h2, h3, h4 => by
    have h5 := h4 0 (by omega)
    have e : lo - ((0 : Nat) : Int) - 1 = lo - 1 := by omega
    rw [e] at h5
    have e3 : lo - ((j + 1 : Nat) : Int) - 1 = lo - 1 - j - 1 := by omega
    have ih := run0a hv h b j (lo - 1) (by omega) (by omega) (by rw [← e3]; exact h3) (fun i hi => by
      have := h4 (i + 1) (by omega)
      have e4 : lo - ((i + 1 : Nat) : Int) - 1 = lo - 1 - i - 1 := by omega
      rw [e4] at this; exact this)
    rw [r114_0a, w64 (n := lo - 1) (by omega), c_L1 hv h, h5]
    simp only [SB, Nat.reduceAdd, b_box6]
    rw [ih]
    have e5 : lo - ((j + 1 : Nat) : Int) = lo - 1 - j := by omega
    rw [e5]

theorem run2a {t : Thr} (hv : 0 ≤ t.mx ∧ t.mx ≤ 5000) (h : t.fb.length ≤ maxLen) (b : Int) : ∀ (j : Nat) (hi : Int), hi + j ≤ 5000 → 0 ≤ hi → alw t 0 (hi + j + 1) = false → (∀ i : Nat, i < j → alw t 0 (hi + i + 1) = true) →
    lp E (denC E) 114 1 [AV.fn 115 [TV.ptr 0 0]] 2 { vals := [AV.int .i64 b, AV.int .i64 hi], blks := [thB t] } = some (Ex.exit 2, { vals := [AV.int .i64 b, AV.int .i64 (hi + j)], blks := [thB t] })
  | 0, hi, h1, h2, h3, h4 => by
    rw [r114_2a, w64 (n := hi + 1) (by omega), c_L1 hv h]
    have e : hi + ((0 : Nat) : Int) + 1 = hi + 1 := by omega
    rw [e] at h3
    have e2 : hi + ((0 : Nat) : Int) = hi := by omega
    rw [h3, e2]
    simp only [SB, Nat.reduceAdd, b_box6]
  | j + 1, hi, h1, h2, h3, h4 => by
    have h5 := h4 0 (by omega)
    have e : hi + ((0 : Nat) : Int) + 1 = hi + 1 := by omega
    rw [e] at h5
    have e3 : hi + ((j + 1 : Nat) : Int) + 1 = hi + 1 + j + 1 := by omega
    have ih := run2a hv h b j (hi + 1) (by omega) (by omega) (by rw [← e3]; exact h3) (fun i hi' => by
      have := h4 (i + 1) (by omega)
      have e4 : hi + ((i + 1 : Nat) : Int) + 1 = hi + 1 + i + 1 := by omega
      rw [e4] at this; exact this)
    rw [r114_2a, w64 (n := hi + 1) (by omega), c_L1 hv h, h5]
    simp only [SB, Nat.reduceAdd, b_box6]
    rw [ih]
    have e5 : hi + ((j + 1 : Nat) : Int) = hi + 1 + j := by omega
    rw [e5]

theorem run0b {t : Thr} (hv : 0 ≤ t.mx ∧ t.mx ≤ 5000) (h : t.fb.length ≤ maxLen) (y b : Int) : ∀ (j : Nat) (lo : Int), -5000 ≤ lo - j → lo ≤ 0 → alw t (lo - j - 1) y = false → (∀ i : Nat, i < j → alw t (lo - i - 1) y = true) →
    lp E (denC E) 114 2 [AV.fn 118 [TV.ptr 0 0, TV.ptr 1 0]] 0 { vals := [AV.int .i64 lo, AV.int .i64 b], blks := [thB t, Blk.box [AV.int .i64 y]] } = some (Ex.exit 0, { vals := [AV.int .i64 (lo - j), AV.int .i64 b], blks := [thB t, Blk.box [AV.int .i64 y]] })
  | 0, lo, h1, h2, h3, h4 => by
    rw [r114_0b, w64 (n := lo - 1) (by omega), c_G1 hv h]
    have e : lo - ((0 : Nat) : Int) - 1 = lo - 1 := by omega
    rw [e] at h3
    have e2 : lo - ((0 : Nat) : Int) = lo := by omega
    rw [h3, e2]
    simp only [SB, Nat.reduceAdd, b_box6]
  | j + 1, lo, h1, h2, h3, h4 => by
    have h5 := h4 0 (by omega)
    have e : lo - ((0 : Nat) : Int) - 1 = lo - 1 := by omega
    rw [e] at h5
    have e3 : lo - ((j + 1 : Nat) : Int) - 1 = lo - 1 - j - 1 := by omega
    have ih := run0b hv h y b j (lo - 1) (by omega) (by omega) (by rw [← e3]; exact h3) (fun i hi => by
      have := h4 (i + 1) (by omega)
      have e4 : lo - ((i + 1 : Nat) : Int) - 1 = lo - 1 - i - 1 := by omega
      rw [e4] at this; exact this)
    rw [r114_0b, w64 (n := lo - 1) (by omega), c_G1 hv h, h5]
    simp only [SB, Nat.reduceAdd, b_box6]
    rw [ih]
    have e5 : lo - ((j + 1 : Nat) : Int) = lo - 1 - j := by omega
    rw [e5]

theorem run2b {t : Thr} (hv : 0 ≤ t.mx ∧ t.mx ≤ 5000) (h : t.fb.length ≤ maxLen) (y b : Int) : ∀ (j : Nat) (hi : Int), hi + j ≤ 5000 → 0 ≤ hi → alw t (hi + j + 1) y = false → (∀ i : Nat, i < j → alw t (hi + i + 1) y = true) →
    lp E (denC E) 114 2 [AV.fn 118 [TV.ptr 0 0, TV.ptr 1 0]] 2 { vals := [AV.int .i64 b, AV.int .i64 hi], blks := [thB t, Blk.box [AV.int .i64 y]] } = some (Ex.exit 2, { vals := [AV.int .i64 b, AV.int .i64 (hi + j)], blks := [thB t, Blk.box [AV.int .i64 y]] })
  | 0, hi, h1, h2, h3, h4 => by
    rw [r114_2b, w64 (n := hi + 1) (by omega), c_G1 hv h]
    have e : hi + ((0 : Nat) : Int) + 1 = hi + 1 := by omega
    rw [e] at h3
    have e2 : hi + ((0 : Nat) : Int) = hi := by omega
    rw [h3, e2]
    simp only [SB, Nat.reduceAdd, b_box6]
  | j + 1, hi, h1, h2, h3, h4 => by
    have h5 := h4 0 (by omega)
    have e : hi + ((0 : Nat) : Int) + 1 = hi + 1 := by omega
    rw [e] at h5
    have e3 : hi + ((j + 1 : Nat) : Int) + 1 = hi + 1 + j + 1 := by omega
    have ih := run2b hv h y b j (hi + 1) (by omega) (by omega) (by rw [← e3]; exact h3) (fun i hi' => by
      have := h4 (i + 1) (by omega)
      have e4 : hi + ((i + 1 : Nat) : Int) + 1 = hi + 1 + i + 1 := by omega
      rw [e4] at this; exact this)
    rw [r114_2b, w64 (n := hi + 1) (by omega), c_G1 hv h, h5]
    simp only [SB, Nat.reduceAdd, b_box6]
    rw [ih]
    have e5 : hi + ((j + 1 : Nat) : Int) = hi + 1 + j := by omega
    rw [e5]

def IsLat (t : Thr) (a b : Int) : Prop := if okT t = true then IsRun (fun y => alw t 0 y) a b else a = 0 ∧ b = 0
def IsLon (t : Thr) (y a b : Int) : Prop := if okT t = true ∧ alw t 0 y = true then IsRun (fun x => alw t x y) a b else a = 0 ∧ b = 0
theorem IsLat_uniq {t : Thr} {a b c d : Int} (h : IsLat t a b) (h' : IsLat t c d) : a = c ∧ b = d := by
  unfold IsLat at h h'
  split at h
  · rename_i hc; rw [if_pos hc] at h'; exact IsRun_uniq h h'
  · rename_i hc; rw [if_neg hc] at h'; omega
theorem IsLon_uniq {t : Thr} {y a b c d : Int} (h : IsLon t y a b) (h' : IsLon t y c d) : a = c ∧ b = d := by
  unfold IsLon at h h'
  split at h
  · rename_i hc; rw [if_pos hc] at h'; exact IsRun_uniq h h'
  · rename_i hc; rw [if_neg hc] at h'; omega

theorem run_ex {p : Int → Bool} (h0 : p 0 = true) (hb : ∀ n, p n = true → -5000 ≤ n ∧ n ≤ 5000) :
    ∃ i j : Nat, i ≤ 5000 ∧ j ≤ 5000 ∧ IsRun p (0 - i) (0 + j) ∧ p (0 - i - 1) = false ∧ (∀ k : Nat, k < i → p (0 - k - 1) = true) ∧ p (0 + j + 1) = false ∧ (∀ k : Nat, k < j → p (0 + k + 1) = true) := by
  obtain ⟨i, h1, h2⟩ := run_down p 5000 (fun n hn => (hb n hn).1) 5000 0 (by omega)
  obtain ⟨j, h3, h4⟩ := run_up p 5000 (fun n hn => (hb n hn).2) 5000 0 (by omega)
  have hr := IsRun_of h0 h1 h2 h3 h4
  have hi := hb _ (hr.2.2.1 (-i) (by omega) (by omega))
  have hj := hb _ (hr.2.2.1 j (by omega) (by omega))
  refine ⟨i, j, by omega, by omega, ?_, h1, h2, h3, h4⟩
  have e1 : (0 : Int) - i = -i := by omega
  have e2 : (0 : Int) + j = j := by omega
  rw [e1, e2]; exact hr

theorem c_Lateral {t : Thr} (h : t.fb.length ≤ maxLen) : ∃ a b : Int, denC E 89 [AV.agg (thC t)] [] = some ([RV.p (PV.int .i64 a), RV.p (PV.int .i64 b)], []) ∧ IsLat t a b ∧ -5000 ≤ a ∧ a ≤ 0 ∧ 0 ≤ b ∧ b ≤ 5000 := by
  have hV := c_TValid h
  unfold thC at hV ⊢
  unfold IsLat
  cases hv : okT t with
  | false =>
    refine ⟨0, 0, ?_, ⟨rfl, rfl⟩, by omega⟩
    rw [denC_eq, r89, hV, hv]
    simp only [SB, Nat.reduceAdd, b_box6]
  | true =>
    have hv' := okT0_iff.1 (okT_iff.1 hv).1
    have hz := alw_zero (t := t) (by omega)
    obtain ⟨i, j, hi, hj, hr, h1, h2, h3, h4⟩ := run_ex (p := fun y => alw t 0 y) hz (fun n hn => by have := alw_bounds hn; omega)
    refine ⟨0 - i, 0 + j, ?_, by simpa using hr, by omega⟩
    have hrun : denC E 114 [AV.fn 115 [TV.ptr 0 0]] [thB t] = some ([RV.p (PV.int .i64 (0 - i)), RV.p (PV.int .i64 (0 + j))], [thB t]) := by
      rw [denC_eq, r114a, c_L1 (by omega) h, hz]
      simp only [SB, Nat.reduceAdd, b_box6]
      rw [run0a (by omega) h 0 i 0 (by omega) (by omega) h1 h2]
      simp only [SB, Nat.reduceAdd, b_box6]
      rw [run2a (by omega) h _ j 0 (by omega) (by omega) h3 h4]
      simp only [SB, Nat.reduceAdd, b_box6]
    rw [denC_eq, r89, hV, hv]
    simp only [SB, Nat.reduceAdd, b_box6]
    rw [hrun]
    simp only [SB, Nat.reduceAdd, b_box6]

theorem c_Longitudinal {t : Thr} (h : t.fb.length ≤ maxLen) (y : Int) : ∃ a b : Int, denC E 92 [AV.agg (thC t), AV.int .i64 y] [] = some ([RV.p (PV.int .i64 a), RV.p (PV.int .i64 b)], []) ∧ IsLon t y a b ∧ -5000 ≤ a ∧ a ≤ 0 ∧ 0 ≤ b ∧ b ≤ 5000 := by
  have hV := c_TValid h
  unfold thC at hV ⊢
  unfold IsLon
  cases hv : okT t with
  | false =>
    refine ⟨0, 0, ?_, by simp, by omega⟩
    rw [denC_eq, r92, hV, hv]
    simp only [SB, Nat.reduceAdd, b_box6]
  | true =>
    have hv' := okT0_iff.1 (okT_iff.1 hv).1
    cases hz : alw t 0 y with
    | false =>
      refine ⟨0, 0, ?_, by simp, by omega⟩
      have hrun : denC E 114 [AV.fn 118 [TV.ptr 0 0, TV.ptr 1 0]] [thB t, Blk.box [AV.int .i64 y]] = some ([RV.p (PV.int .i64 0), RV.p (PV.int .i64 0)], [thB t, Blk.box [AV.int .i64 y]]) := by
        rw [denC_eq, r114b, c_G1 (by omega) h, hz]
        simp only [SB, Nat.reduceAdd, b_box6]
      rw [denC_eq, r92, hV, hv]
      simp only [SB, Nat.reduceAdd, b_box6]
      rw [hrun]
      simp only [SB, Nat.reduceAdd, b_box6]
    | true =>
      obtain ⟨i, j, hi, hj, hr, h1, h2, h3, h4⟩ := run_ex (p := fun x => alw t x y) hz (fun n hn => by have := alw_bounds hn; omega)
      refine ⟨0 - i, 0 + j, ?_, by simpa using hr, by omega⟩
      have hrun : denC E 114 [AV.fn 118 [TV.ptr 0 0, TV.ptr 1 0]] [thB t, Blk.box [AV.int .i64 y]] = some ([RV.p (PV.int .i64 (0 - i)), RV.p (PV.int .i64 (0 + j))], [thB t, Blk.box [AV.int .i64 y]]) := by
        rw [denC_eq, r114b, c_G1 (by omega) h, hz]
        simp only [SB, Nat.reduceAdd, b_box6]
        rw [run0b (by omega) h y 0 i 0 (by omega) (by omega) h1 h2]
        simp only [SB, Nat.reduceAdd, b_box6]
        rw [run2b (by omega) h y _ j 0 (by omega) (by omega) h3 h4]
        simp only [SB, Nat.reduceAdd, b_box6]
      rw [denC_eq, r92, hV, hv]
      simp only [SB, Nat.reduceAdd, b_box6]
      rw [hrun]
      simp only [SB, Nat.reduceAdd, b_box6]

end Go.Proofs.YtclplmjlolpfbaaGreat.Vm

/- The thrusters of the source, Rated, the example of the chapter. -/
namespace Go.Proofs.YtclplmjlolpfbaaGreat.Vm
set_option linter.unusedVariables false
set_option linter.unusedSimpArgs false

def SrcA (a : Int × Int) : Prop := ∃ f ∈ [0, 450, 800, 1350, 1800, 2600, 3500], ∃ w ∈ [0, 100, 300, 900, 1799], a = (f, (f + w) % 3600)

theorem SrcA_arc (L : List Int) (k : Nat) : SrcA (arcFrom L k, arcTo L k) := ⟨_, arcFrom_in L k, _, arcWidth_in L (at' L k), rfl⟩

def SrcT (t : Thr) : Prop := 1 ≤ t.kd ∧ t.kd ≤ 3 ∧ 0 ≤ t.st ∧ t.st ≤ 1 ∧ 0 ≤ t.mx ∧ t.mx ≤ 40 ∧ 0 ≤ t.rt ∧ t.rt ≤ 50 ∧ 1 ≤ t.ct ∧ t.ct ≤ 100 ∧ t.fb.length ≤ 2 ∧ ∀ a ∈ t.fb, SrcA a
def arcsL (L : List Int) : Nat → Nat → List (Int × Int)
  | _, 0 => []
  | k, n + 1 => (arcFrom L k, arcTo L k) :: arcsL L (at' L (at' L k)) n
def arcsK (L : List Int) : Nat → Nat → Nat
  | k, 0 => k
  | k, n + 1 => arcsK L (at' L (at' L k)) n
theorem arcsL_length (L : List Int) : ∀ k n, (arcsL L k n).length = n
  | k, 0 => rfl
  | k, n + 1 => by simp [arcsL, arcsL_length L _ n]
theorem arcsL_src (L : List Int) : ∀ k n, ∀ a ∈ arcsL L k n, SrcA a
  | k, 0, a, h => by cases h
  | k, n + 1, a, h => by
    unfold arcsL at h
    rcases List.mem_cons.1 h with h | h
    · rw [h]; exact SrcA_arc L k
    · exact arcsL_src L _ n a h
theorem arcsK_le {L : List Int} (hL : L.length ≤ 600) : ∀ (n k : Nat), k ≤ 600 → arcsK L k n ≤ 600
  | 0, k, h => h
  | n + 1, k, h => arcsK_le hL n _ (at'_le hL (at'_le hL h))

theorem thr_loop {L : List Int} (hL : L.length ≤ 600) (b1 : Blk) (h1 : b1 = Blk.box [AV.int .i64 0, AV.int .i64 0, AV.int .i64 0, AV.int .i64 0, AV.int .i64 0, AV.sl 2 []]) (c0 c1 c2 c3 c4 : Int) : ∀ (n k : Nat) (acc : List (Int × Int)), k ≤ 600 → acc.length + n ≤ 1000 →
    lp E (denC E) 29 1 [] 0 { vals := [AV.int .i64 n], blks := [src L k, b1, Blk.box [AV.int .i64 c0, AV.int .i64 c1, AV.int .i64 c2, AV.int .i64 c3, AV.int .i64 c4, AV.t (TV.hsl 3)], Blk.arr 2 (arcK acc)] } =
      some (Ex.exit 0, { vals := [], blks := [src L (arcsK L k n), b1, Blk.box [AV.int .i64 c0, AV.int .i64 c1, AV.int .i64 c2, AV.int .i64 c3, AV.int .i64 c4, AV.t (TV.hsl 3)], Blk.arr 2 (arcK (acc ++ arcsL L k n))] })
  | 0, k, acc, hk, ha => by
    subst h1
    rw [r29_0, ctl_dec, if_neg (by omega)]
    simp [arcsL, arcsK]
  | n + 1, k, acc, hk, ha => by
    have ih := thr_loop hL b1 h1 c0 c1 c2 c3 c4 n (at' L (at' L k)) (acc ++ [(arcFrom L k, arcTo L k)]) (at'_le hL (at'_le hL hk)) (by simp; omega)
    subst h1
    have hA := c_Arc hL hk
    rw [r29_0, ctl_dec, if_pos (by omega), hA]
    simp only [SB, Nat.reduceAdd]
    have e2 : leN (((arcK acc).length + 1) * 16) 140737488355328 = true := by rw [arcK_length]; simp only [decide_eq_true_eq]; omega
    rw [e2, w64 (by omega)]
    have e3 : ((n + 1 : Nat) : Int) - 1 = (n : Nat) := by omega
    rw [e3]
    rw [arcK_append] at ih
    simp only [ctl_true]
    refine Eq.trans ih ?_
    simp only [arcsL, arcsK, List.append_assoc, List.cons_append, List.nil_append]

theorem c_Thruster {L : List Int} {k : Nat} (hL : L.length ≤ 600) (hk : k ≤ 600) :
    ∃ (t : Thr) (k' : Nat), denC E 29 [AV.t (.ptr 0 0)] [src L k] = some ([RV.agg (thC t)], [src L k']) ∧ SrcT t ∧ k' ≤ 600 := by
  have hk1 := at'_le hL hk
  have hk2 := at'_le hL hk1
  have hk3 := at'_le hL hk2
  have hk4 := at'_le hL hk3
  have hk5 := at'_le hL hk4
  have hk6 := at'_le hL hk5
  have hR := c_Range hL hk (lo := 1) (hi := 3) (by decide)
  have bR := vRange_bounds (L := L) (k := k) (lo := 1) (hi := 3) (by decide)
  have hN1 := c_N hL hk1 2 (by decide)
  have bN1 := vN_bounds (L := L) (k := at' L k) (n := 2) (by decide)
  have e1 : denC E 28 [AV.t (.ptr 0 0), AV.sl 1 [[PV.int .i64 0], [PV.int .i64 1], [PV.int .i64 7], [PV.int .i64 20], [PV.int .i64 40]]] _ = _ := c_Pick hL hk2 (l := [0, 1, 7, 20, 40]) (by decide)
  have e2 : denC E 28 [AV.t (.ptr 0 0), AV.sl 1 [[PV.int .i64 0], [PV.int .i64 1], [PV.int .i64 5], [PV.int .i64 50]]] _ = _ := c_Pick hL hk3 (l := [0, 1, 5, 50]) (by decide)
  have e3 : denC E 28 [AV.t (.ptr 0 0), AV.sl 1 [[PV.int .i64 1], [PV.int .i64 2], [PV.int .i64 3], [PV.int .i64 100]]] _ = _ := c_Pick hL hk4 (l := [1, 2, 3, 100]) (by decide)
  have b1 := vPick_mem L (at' L (at' L k)) (l := [0, 1, 7, 20, 40]) (by decide)
  have b2 := vPick_mem L (at' L (at' L (at' L k))) (l := [0, 1, 5, 50]) (by decide)
  have b3 := vPick_mem L (at' L (at' L (at' L (at' L k)))) (l := [1, 2, 3, 100]) (by decide)
  have hN2 := c_N hL hk5 3 (by decide)
  have bN2 := vN_bounds (L := L) (k := at' L (at' L (at' L (at' L (at' L k))))) (n := 3) (by decide)
  obtain ⟨m, hm⟩ : ∃ m : Nat, vN L (at' L (at' L (at' L (at' L (at' L k))))) 3 = (m : Int) := ⟨_, (Int.toNat_of_nonneg bN2.1).symm⟩
  rw [hm] at hN2 bN2
  refine ⟨⟨vRange L k 1 3, vN L (at' L k) 2, vPick L (at' L (at' L k)) [0, 1, 7, 20, 40], vPick L (at' L (at' L (at' L k))) [0, 1, 5, 50], vPick L (at' L (at' L (at' L (at' L k)))) [1, 2, 3, 100], arcsL L (at' L (at' L (at' L (at' L (at' L (at' L k)))))) m⟩, arcsK L (at' L (at' L (at' L (at' L (at' L (at' L k)))))) m, ?_, ?_, arcsK_le hL _ _ hk6⟩
  · rw [denC_eq, r29, hR]
    simp only [SB, Nat.reduceAdd]
    rw [hN1]
    simp only [SB, Nat.reduceAdd]
    rw [e1]
    simp only [SB, Nat.reduceAdd]
    rw [e2]
    simp only [SB, Nat.reduceAdd]
    rw [e3]
    simp only [SB, Nat.reduceAdd]
    rw [hN2]
    simp only [SB, Nat.reduceAdd]
    have hl := fun c0 c1 c2 c3 c4 => thr_loop hL _ rfl c0 c1 c2 c3 c4 m (at' L (at' L (at' L (at' L (at' L (at' L k)))))) [] hk6 (by simp; omega)
    have ea : arcK [] = [] := rfl
    rw [ea] at hl
    rw [hl]
    simp only [SB, Nat.reduceAdd, List.nil_append]
    unfold thC
    rfl
  · simp only [List.mem_cons, List.not_mem_nil, or_false] at b1 b2 b3
    refine ⟨bR.1, bR.2, bN1.1, by simp only; omega, by simp only; omega, by simp only; omega, by simp only; omega, by simp only; omega, by simp only; omega, by simp only; omega, ?_, arcsL_src L _ _⟩
    simp only [arcsL_length]
    omega

def badR (lo hi last rate : Int) : Bool := ltB 1000000000 (maxI rate (maxI last (maxI hi lo))) || ltB (minI last (minI hi lo)) (-1000000000) || ltB hi lo || ltB rate 0
def ratedF (lo hi last rate : Int) : Int × Int :=
  if badR lo hi last rate = true then (lo, hi)
  else if maxI (last - rate) lo ≤ minI (last + rate) hi then (maxI (last - rate) lo, minI (last + rate) hi)
  else if last < lo then (lo, lo) else (hi, hi)

theorem badR_iff {lo hi last rate : Int} : badR lo hi last rate = false ↔ lo ≤ 1000000000 ∧ hi ≤ 1000000000 ∧ last ≤ 1000000000 ∧ rate ≤ 1000000000 ∧ -1000000000 ≤ lo ∧ -1000000000 ≤ hi ∧ -1000000000 ≤ last ∧ lo ≤ hi ∧ 0 ≤ rate := by
  unfold badR
  simp only [Bool.or_eq_false_iff, decide_eq_false_iff_not]
  have m1 : ∀ a b : Int, (1000000000 < maxI b a) ↔ (1000000000 < a ∨ 1000000000 < b) := fun a b => by unfold maxI; split <;> omega
  have m2 : ∀ a b : Int, (minI b a < -1000000000) ↔ (a < -1000000000 ∨ b < -1000000000) := fun a b => by unfold minI; split <;> omega
  have m3 : ∀ a b c : Int, (1000000000 < maxI c (maxI b a)) ↔ (1000000000 < a ∨ 1000000000 < b ∨ 1000000000 < c) := fun a b c => by unfold maxI; split <;> split <;> omega
  have m4 : ∀ a b c d : Int, (1000000000 < maxI d (maxI c (maxI b a))) ↔ (1000000000 < a ∨ 1000000000 < b ∨ 1000000000 < c ∨ 1000000000 < d) := fun a b c d => by
    have := m3 a b c
    generalize maxI c (maxI b a) = z at *
    unfold maxI; split <;> omega
  have m5 : ∀ a b c : Int, (minI c (minI b a) < -1000000000) ↔ (a < -1000000000 ∨ b < -1000000000 ∨ c < -1000000000) := fun a b c => by unfold minI; split <;> split <;> omega
  rw [m4, m5]
  omega

theorem c_Rated (lo hi last rate : Int) : denC E 117 [AV.int .i64 lo, AV.int .i64 hi, AV.int .i64 last, AV.int .i64 rate] [] =
    some ([RV.p (PV.int .i64 (ratedF lo hi last rate).1), RV.p (PV.int .i64 (ratedF lo hi last rate).2)], []) := by
  rw [denC_eq, r117]
  simp only [SB, Nat.reduceAdd]
  unfold ratedF
  have eb : (ltB 1000000000 (maxI rate (maxI last (maxI hi lo))) || ltB (minI last (minI hi lo)) (-1000000000) || ltB hi lo || ltB rate 0) = badR lo hi last rate := rfl
  rw [eb]
  cases hb : badR lo hi last rate with
  | true => simp only [ctl_true, if_true]
  | false =>
    have h := badR_iff.1 hb
    simp only [ctl_false, Bool.false_eq_true, if_false]
    rw [w64 (n := last - rate) (by omega), w64 (n := last + rate) (by omega), ctl_dec]
    split
    · rfl
    · rw [ctl_dec]
      split <;> rfl

end Go.Proofs.YtclplmjlolpfbaaGreat.Vm
