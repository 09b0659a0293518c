import Derived.Test.YtpnpdkgdgfkpfaaGreatDoorRaw
import Derived.Test.YtpnpdkgdgfkpfaaGreatDoorVm33
import Derived.Test.YtpnpdkgdgfkpfaaGreatDoorPrims
/- Contracts of the source of numbers. -/
namespace Go.Proofs.YtpnpdkgdgfkpfaaGreatDoor.Vm
set_option linter.unusedVariables false
set_option linter.unusedSimpArgs false

abbrev src (L : List Int) (k : Nat) : Blk := Blk.box [AV.sl 1 (intsK .i64 L), AV.int .i64 k]

theorem src_zero (L : List Int) : Blk.box [AV.sl 1 (intsK .i64 L), AV.int .i64 0] = Blk.box [AV.sl 1 (intsK .i64 L), AV.int .i64 ((0 : Nat) : Int)] := rfl

theorem intsK_length (k : IntKind) (L : List Int) : (intsK k L).length = L.length := by simp [intsK]

theorem getE_ints {α : Type} {k : IntKind} {L : List Int} {i : Int} (hi : 0 ≤ i ∧ i < L.length) (K : List PV → Option α) : getE (intsK k L) i K = K [PV.int k (L.getD i.toNat 0)] := by
  unfold getE
  rw [intsK_length]
  have h1 : leB 0 i = true := by simpa using hi.1
  have h2 : ltB i L.length = true := by simpa using hi.2
  rw [h1, h2]
  have hlt : i.toNat < L.length := by omega
  simp only [Bool.and_self, ctl_true]
  rw [nth_eq]
  simp [intsK, List.getD, hlt]

def md (x n : Int) : Int := if n < 1 then 0 else x % n

theorem c_Mod (x n : Int) (hn : n ≤ 4611686018427387904) : denC E 20 [AV.int .i64 x, AV.int .i64 n] [] = some ([RV.p (PV.int .i64 (md x n))], []) := by
  rw [denC_eq, r20, ctl_dec]
  unfold md
  by_cases h : n < 1
  · rw [if_pos h, if_pos h]
  · rw [if_neg h, if_neg h]
    have hne : neB n 0 = true := by simp; omega
    have hb := tmod_bounds (a := x) (d := n) (by omega)
    have hf := tmod_fix (a := x) (d := n) (by omega)
    rw [hne, w64 (by omega)]
    simp only [SB, Nat.reduceAdd]
    have : (x.tmod n + n).tmod n = x % n := by
      rw [Int.tmod_eq_emod_of_nonneg (by omega), Int.add_emod_right]
      split at hf
      · rw [← Int.add_emod_right, hf, Int.emod_emod]
      · rw [hf, Int.emod_emod]
    rw [this]

theorem md_bounds {x n : Int} (hn : 1 ≤ n) : 0 ≤ md x n ∧ md x n < n := by
  unfold md
  rw [if_neg (by omega)]
  exact ⟨Int.emod_nonneg _ (by omega), Int.emod_lt_of_pos _ (by omega)⟩

def vN (L : List Int) (k : Nat) (n : Int) : Int := if k < L.length then md (L.getD k 0) n else 0

def at' (L : List Int) (k : Nat) : Nat := if k < L.length then k + 1 else k

theorem vN_bounds {L : List Int} {k : Nat} {n : Int} (hn : 1 ≤ n) : 0 ≤ vN L k n ∧ vN L k n < n := by
  unfold vN
  split
  · exact md_bounds hn
  · omega

theorem c_N {L : List Int} {k : Nat} (hL : L.length ≤ 600) (hk : k ≤ 600) (n : Int) (hn : n ≤ 4611686018427387904) :
    denC E 7 [AV.t (.ptr 0 0), AV.int .i64 n] [src L k] = some ([RV.p (PV.int .i64 (vN L k n))], [src L (at' L k)]) := by
  rw [denC_eq]
  rw [r7, ctl_dec, intsK_length]
  unfold vN at'
  by_cases h : k < L.length
  · rw [if_neg (by omega), if_pos h, if_pos h, w64 (n := (k : Int) + 1) (by omega), w64 (n := (k : Int) + 1 - 1) (by omega), getE_ints (by omega)]
    simp only [SB, Nat.reduceAdd]
    rw [c_Mod _ _ hn]
    simp only [SB, Nat.reduceAdd]
    have e : ((k : Int) + 1 - 1).toNat = k := by omega
    rw [e]
    rfl
  · rw [if_pos (by omega), if_neg h, if_neg h]

theorem at'_le {L : List Int} {k : Nat} (hL : L.length ≤ 600) (hk : k ≤ 600) : at' L k ≤ 600 := by unfold at'; split <;> omega

def vPick (L : List Int) (k : Nat) (l : List Int) : Int := l.getD (vN L k l.length).toNat 0

theorem c_Pick {L : List Int} {k : Nat} (hL : L.length ≤ 600) (hk : k ≤ 600) {l : List Int} (hl : 1 ≤ l.length ∧ l.length ≤ 1000) :
    denC E 11 [AV.t (.ptr 0 0), AV.sl 1 (intsK .i64 l)] [src L k] = some ([RV.p (PV.int .i64 (vPick L k l))], [src L (at' L k)]) := by
  rw [denC_eq]
  have hN := c_N hL hk l.length (by omega)
  have hb := vN_bounds (L := L) (k := k) (n := l.length) (by omega)
  rw [r11, intsK_length, hN]
  simp only [SB, Nat.reduceAdd]
  rw [getE_ints hb]
  simp only [SB, Nat.reduceAdd]
  rfl

theorem vPick_mem (L : List Int) (k : Nat) {l : List Int} (hl : 1 ≤ l.length) : vPick L k l ∈ l := by
  have hb := vN_bounds (L := L) (k := k) (n := l.length) (by omega)
  have hlt : (vN L k l.length).toNat < l.length := by omega
  unfold vPick
  simp [List.getD, hlt]

theorem c_New (l : List Int) : denC E 4 [AV.sl 1 (intsK .i64 l)] [] = some ([RV.ownp [PV.sl 1 (intsK .i64 (l.take 600)), PV.int .i64 0]], []) := by
  rw [denC_eq, r4, intsK_length]
  have e : (minI 600 l.length).toNat = min 600 l.length := by unfold minI; split <;> omega
  have h1 : leB 0 (minI 600 l.length) = true := by simp only [decide_eq_true_eq]; unfold minI; split <;> omega
  have h2 : leB (minI 600 l.length) l.length = true := by simp only [decide_eq_true_eq]; unfold minI; split <;> omega
  rw [h1, h2]
  simp only [SB, Nat.reduceAdd]
  unfold cutI
  rw [e]
  have : ((intsK .i64 l).take (min 600 l.length)).drop (Int.toNat 0) = intsK .i64 (l.take 600) := by
    simp only [Int.toNat_zero, List.drop_zero]
    unfold intsK
    rw [← List.map_take]
    congr 1
    rw [← List.take_take, List.take_length]
  rw [this]

end Go.Proofs.YtpnpdkgdgfkpfaaGreatDoor.Vm

/- Contracts of chapter 04: texts, bytes, sentences. -/
namespace Go.Proofs.YtpnpdkgdgfkpfaaGreatDoor.Vm
set_option linter.unusedVariables false
set_option linter.unusedSimpArgs false

theorem byteEs_length (s : List UInt8) : (byteEs s).length = s.length := by simp [byteEs]

theorem strsK_length (s : List (List UInt8)) : (strsK s).length = s.length := by simp [strsK]

theorem u8_back (b : UInt8) : ((b.toNat : Int)).toNat.toUInt8 = b := by simp

theorem u8_back2 (b : UInt8) : UInt8.ofNat ((b.toNat : Int)).toNat = b := by simp

theorem toBytes_byteEs (s : List UInt8) : toBytes (byteEs s) = s := by
  unfold toBytes byteEs
  rw [List.map_map]
  exact (List.map_congr_left fun b _ => u8_back2 b).trans (List.map_id _)

theorem byteOk_b (b : UInt8) : byteOk [PV.int .u8 (b.toNat : Int)] = true := by
  have h := b.toNat_lt
  have h1 : leB 0 (b.toNat : Int) = true := decide_eq_true (by omega)
  have h2 : ltB (b.toNat : Int) 256 = true := decide_eq_true (by omega)
  show (leB 0 (b.toNat : Int) && ltB (b.toNat : Int) 256) = true
  rw [h1, h2]; rfl

theorem bytesOk_byteEs (s : List UInt8) : bytesOk (byteEs s) = true := by
  unfold bytesOk byteEs
  refine List.all_eq_true.2 fun e he => ?_
  obtain ⟨b, _, rfl⟩ := List.mem_map.1 he
  exact byteOk_b b

theorem getE_bytes {α : Type} {s : List UInt8} {i : Int} (hi : 0 ≤ i ∧ i < s.length) (K : List PV → Option α) : getE (byteEs s) i K = K [PV.int .u8 ((s.getD i.toNat 0).toNat : Int)] := by
  unfold getE
  rw [byteEs_length]
  have h1 : leB 0 i = true := by simpa using hi.1
  have h2 : ltB i s.length = true := by simpa using hi.2
  rw [h1, h2]
  have hlt : i.toNat < s.length := by omega
  simp only [Bool.and_self, ctl_true]
  rw [nth_eq]
  simp [byteEs, List.getD, hlt]

theorem getE_strs {α : Type} {s : List (List UInt8)} {i : Int} (hi : 0 ≤ i ∧ i < s.length) (K : List PV → Option α) : getE (strsK s) i K = K [PV.str (s.getD i.toNat [])] := by
  unfold getE
  rw [strsK_length]
  have h1 : leB 0 i = true := by simpa using hi.1
  have h2 : ltB i s.length = true := by simpa using hi.2
  rw [h1, h2]
  have hlt : i.toNat < s.length := by omega
  simp only [Bool.and_self, ctl_true]
  rw [nth_eq]
  simp [strsK, List.getD, hlt]

theorem getD_mid {α : Type} (pre : List α) (b : α) (l : List α) (d : α) : (pre ++ b :: l).getD pre.length d = b := by simp [List.getD]

theorem app_cons {α : Type} (pre : List α) (b : α) (l : List α) : pre ++ b :: l = (pre ++ [b]) ++ l := by simp

theorem len_snoc {α : Type} (pre : List α) (b : α) : ((pre.length : Int) + 1) = ((pre ++ [b]).length : Int) := by simp

theorem c_IndexByte (s : List UInt8) (c : Int) : denC E 79 [AV.str s, AV.int .u8 c] [] = some ([RV.p (PV.int .i64 (Lib.indexByte s c.toNat.toUInt8))], []) := by
  rw [denC_eq]; kernel_rfl

def badB (b : UInt8) : Bool := (ltB (b.toNat : Int) 32 || ltB 126 (b.toNat : Int)) || (b == 36 || b == 42 || b == 44)

def fldB (s : List UInt8) : Bool := !ltB 20 (s.length : Int) && s.all fun b => !badB b

theorem ib3 (b : UInt8) : leB 0 (Lib.indexByte [36, 42, 44] b) = (b == 36 || b == 42 || b == 44) := by
  unfold Lib.indexByte
  by_cases h1 : b = 36
  · subst h1; rfl
  · by_cases h2 : b = 42
    · subst h2; rfl
    · by_cases h3 : b = 44
      · subst h3; rfl
      · have e1 : ((36 : UInt8) == b) = false := by simpa using fun e : 36 = b => h1 e.symm
        have e2 : ((42 : UInt8) == b) = false := by simpa using fun e : 42 = b => h2 e.symm
        have e3 : ((44 : UInt8) == b) = false := by simpa using fun e : 44 = b => h3 e.symm
        have f1 : (b == 36) = false := by simpa using h1
        have f2 : (b == 42) = false := by simpa using h2
        have f3 : (b == 44) = false := by simpa using h3
        simp only [Lib.indexByte, e1, e2, e3, f1, f2, f3]
        rfl

theorem l_field (l : List UInt8) : ∀ (pre : List UInt8), (pre ++ l).length ≤ 1000 → lp E (denC E) 49 0 [] 0 { vals := [AV.sl 1 (byteEs (pre ++ l)), AV.int .i64 (pre ++ l).length, AV.int .i64 pre.length], blks := [] } =
    some (bif (l.all fun b => !badB b) then (Ex.exit 0, { vals := [], blks := [] }) else (Ex.ret, { vals := [AV.bool false], blks := [] })) := by
  induction l with
  | nil =>
    intro pre h
    rw [r49_0, ctl_dec, if_neg (by simp)]
    rfl
  | cons b l ih =>
    intro pre h
    rw [r49_0, ctl_dec, if_pos (by simp; omega), getE_bytes (by simp; omega)]
    simp only [Int.toNat_natCast, getD_mid, SB, Nat.reduceAdd]
    rw [c_IndexByte, u8_back]
    simp only [SB, Nat.reduceAdd]
    rw [ib3]
    have hb : (ltB (b.toNat : Int) 32 || ltB 126 (b.toNat : Int) || (b == 36 || b == 42 || b == 44)) = badB b := rfl
    rw [hb, w64 (by simp at h; omega), len_snoc pre b]
    cases hbb : badB b with
    | true => simp only [ctl_true, List.all_cons, hbb, Bool.not_true, Bool.false_and, cond_false]
    | false =>
      rw [ctl_false, app_cons, ih (pre ++ [b]) (by simpa using h)]
      simp only [List.all_cons, hbb, Bool.not_false, Bool.true_and]

theorem c_field (s : List UInt8) : denC E 49 [AV.str s] [] = some ([RV.p (PV.bool (fldB s))], []) := by
  rw [denC_eq, r49, ctl_if]
  unfold fldB
  cases h : ltB 20 (s.length : Int) with
  | true => simp
  | false =>
    have h2 : s.length ≤ 20 := by have := of_decide_eq_false h; omega
    have := l_field s [] (by simp; omega)
    simp only [List.nil_append, List.length_nil] at this
    rw [byteEs_length]
    simp only [Bool.false_eq_true, if_false]
    rw [show ((0 : Int)) = (((0 : Nat)) : Int) from rfl, this]
    cases s.all fun b => !badB b <;> simp [SB, Nat.reduceAdd, okPack, okPut, okPutBlks]

theorem b_eq (b c : UInt8) : ((b.toNat : Int) == (c.toNat : Int)) = (b == c) := by
  rw [Bool.eq_iff_iff]
  simp only [beq_iff_eq]
  exact ⟨fun h => UInt8.toNat_inj.1 (by omega), fun h => by rw [h]⟩

def validB (l : List (List UInt8)) : Bool := leB 1 (l.length : Int) && leB (l.length : Int) 16 && l.all fldB && !(l == [[]])

theorem c_Validf (s : List UInt8) : denC E 48 [AV.str s] [] = some ([RV.p (PV.bool (!fldB s))], []) := by
  rw [denC_eq, r48, c_field]
  simp only [SB, Nat.reduceAdd]

theorem l_indexFunc (l : List (List UInt8)) : ∀ (pre : List (List UInt8)), (pre ++ l).length ≤ 1000 → ∃ k : Int, 0 ≤ k ∧ lp E (denC E) 78 0 [AV.undef, AV.fn 48 []] 0 { vals := [AV.sl 1 (strsK (pre ++ l)), AV.int .i64 (pre ++ l).length, AV.int .i64 pre.length], blks := [] } =
    some (bif l.all fldB then (Ex.exit 0, { vals := [], blks := [] }) else (Ex.ret, { vals := [AV.int .i64 k], blks := [] })) := by
  induction l with
  | nil =>
    intro pre h
    refine ⟨0, Int.le_refl _, ?_⟩
    rw [r78_0a, ctl_dec, if_neg (by simp)]
    rfl
  | cons b l ih =>
    intro pre h
    cases hbb : fldB b with
    | false =>
      refine ⟨pre.length, by omega, ?_⟩
      rw [r78_0a, ctl_dec, if_pos (by simp; omega), getE_strs (by simp; omega)]
      simp only [Int.toNat_natCast, getD_mid, SB, Nat.reduceAdd]
      rw [c_Validf, hbb]
      simp only [SB, Nat.reduceAdd, List.all_cons, hbb, Bool.false_and]
    | true =>
      obtain ⟨k, hk, e⟩ := ih (pre ++ [b]) (by simpa using h)
      refine ⟨k, hk, ?_⟩
      rw [r78_0a, ctl_dec, if_pos (by simp; omega), getE_strs (by simp; omega)]
      simp only [Int.toNat_natCast, getD_mid, SB, Nat.reduceAdd]
      rw [c_Validf, hbb]
      simp only [SB, Nat.reduceAdd]
      rw [w64 (by simp at h; omega), len_snoc pre b, app_cons, e]

theorem c_ContainsFunc (l : List (List UInt8)) (h : l.length ≤ 1000) : denC E 47 [AV.sl 1 (strsK l), AV.fn 48 []] [] = some ([RV.p (PV.bool (!l.all fldB))], []) := by
  rw [denC_eq, r47a]
  have : ∃ k : Int, denC E 78 [AV.sl 1 (strsK l), AV.fn 48 []] [] = some ([RV.p (PV.int .i64 (bif l.all fldB then -1 else k))], []) ∧ 0 ≤ k := by
    obtain ⟨k, hk, e⟩ := l_indexFunc l [] (by simpa using h)
    refine ⟨k, ?_, hk⟩
    simp only [List.nil_append, List.length_nil] at e
    rw [denC_eq, r78a, strsK_length, show ((0 : Int)) = (((0 : Nat)) : Int) from rfl, e]
    cases l.all fldB <;> simp [SB, Nat.reduceAdd, okPack, okPut, okPutBlks]
  obtain ⟨k, e, hk⟩ := this
  rw [e]
  simp only [SB, Nat.reduceAdd]
  cases l.all fldB
  · have : leB 0 k = true := decide_eq_true hk
    simp only [cond_false, this, Bool.not_false]
  · rfl

theorem c_Valid (l : List (List UInt8)) (h : l.length ≤ 100000) : denC E 23 [AV.agg [PV.sl 1 (strsK l)]] [] = some ([RV.p (PV.bool (validB l))], []) := by
  rw [denC_eq, r23, strsK_length, ctl_and]
  simp only [bnd_some]
  unfold validB
  cases hv : leB 1 (l.length : Int) && leB (l.length : Int) 16 with
  | false => rw [ctl_false]; simp
  | true =>
    have hb : 1 ≤ l.length ∧ l.length ≤ 16 := by
      simp only [Bool.and_eq_true, decide_eq_true_eq] at hv; omega
    rw [ctl_true, c_ContainsFunc l (by omega)]
    simp only [SB, Nat.reduceAdd]
    cases ha : l.all fldB with
    | false => simp [ctl, bnd]
    | true =>
      simp only [Bool.not_true, Bool.not_false, SB, Nat.reduceAdd]
      rw [getE_strs (by omega)]
      simp only [SB, Nat.reduceAdd]
      cases l with
      | nil => simp at hb
      | cons x t =>
        cases t with
        | nil => simp
        | cons y t =>
          have : ltB 1 ((x :: y :: t).length : Int) = true := decide_eq_true (by simp; omega)
          rw [this]; simp

end Go.Proofs.YtpnpdkgdgfkpfaaGreatDoor.Vm

/- Contracts of chapter 04: sums, texts, formats. -/
namespace Go.Proofs.YtpnpdkgdgfkpfaaGreatDoor.Vm
set_option linter.unusedVariables false
set_option linter.unusedSimpArgs false

def sumB (s : List UInt8) : UInt8 := s.foldl (· ^^^ ·) 0

theorem xor8 (x b : UInt8) : IntKind.u8.wrap (((BitVec.ofInt 8 (x.toNat : Int) ^^^ BitVec.ofInt 8 (b.toNat : Int)).toNat : Nat) : Int) = ((x ^^^ b).toNat : Int) := by
  have h1 : ∀ y : UInt8, BitVec.ofInt 8 (y.toNat : Int) = y.toBitVec := fun y => by
    apply BitVec.eq_of_toNat_eq
    have := y.toNat_lt
    simp
  rw [h1, h1]
  have h2 : (x ^^^ b).toNat = (x.toBitVec ^^^ b.toBitVec).toNat := rfl
  rw [← h2]
  have := (x ^^^ b).toNat_lt
  exact IntWalk.u8_in _ (by omega)

theorem l_Sum (l : List UInt8) : ∀ (pre : List UInt8) (x : UInt8), (pre ++ l).length ≤ 1000000000000 → lp E (denC E) 50 0 [] 0 { vals := [AV.int .u8 x.toNat, AV.sl 1 (byteEs (pre ++ l)), AV.int .i64 (pre ++ l).length, AV.int .i64 pre.length], blks := [] } =
    some (Ex.exit 0, { vals := [AV.int .u8 ((l.foldl (· ^^^ ·) x).toNat : Int)], blks := [] }) := by
  induction l with
  | nil =>
    intro pre x h
    rw [r50_0, ctl_dec, if_neg (by simp)]
    rfl
  | cons b l ih =>
    intro pre x h
    rw [r50_0, ctl_dec, if_pos (by simp; omega), getE_bytes (by simp; omega)]
    simp only [Int.toNat_natCast, getD_mid, SB, Nat.reduceAdd]
    rw [xor8, w64 (by simp at h; omega), len_snoc pre b, app_cons, ih (pre ++ [b]) (x ^^^ b) (by simpa using h)]
    rfl

theorem c_Sum (s : List UInt8) (h : s.length ≤ 1000000000000) : denC E 50 [AV.sl 1 (byteEs s)] [] = some ([RV.p (PV.int .u8 (sumB s).toNat)], []) := by
  rw [denC_eq, r50, byteEs_length]
  have := l_Sum s [] 0 (by simpa using h)
  simp only [List.nil_append, List.length_nil] at this
  rw [show (AV.int IntKind.u8 0) = AV.int .u8 (((0 : UInt8).toNat : Nat) : Int) from rfl, show (AV.int IntKind.i64 0) = AV.int .i64 ((0 : Nat) : Int) from rfl, this]
  simp only [SB, Nat.reduceAdd]
  rfl

def digs : List UInt8 := [48, 49, 50, 51, 52, 53, 54, 55, 56, 57, 65, 66, 67, 68, 69, 70]

def hexd (n : Nat) : UInt8 := digs.getD n 0

def txt (body : List UInt8) : List UInt8 := 36 :: (body ++ [42, hexd ((sumB body).toNat / 16), hexd ((sumB body).toNat % 16), 13, 10])

theorem txt_length (body : List UInt8) : (txt body).length = body.length + 6 := by simp [txt]

theorem hi_cut : ∀ n : Nat, n < 256 → (leB 0 ((n : Int).fdiv 16) && (leB ((n : Int).fdiv 16) (IntKind.u8.wrap ((n : Int).fdiv 16 + 1)) && leB (IntKind.u8.wrap ((n : Int).fdiv 16 + 1)) 16)) = true ∧
    cutI digs ((n : Int).fdiv 16) (IntKind.u8.wrap ((n : Int).fdiv 16 + 1)) = [hexd (n / 16)] := by decide +kernel

theorem lo_cut : ∀ n : Nat, n < 256 → (true && (leB (IntKind.u8.wrap (((BitVec.ofInt 8 (n : Int) &&& BitVec.ofInt 8 15).toNat : Nat) : Int)) (IntKind.u8.wrap (IntKind.u8.wrap (((BitVec.ofInt 8 (n : Int) &&& BitVec.ofInt 8 15).toNat : Nat) : Int) + 1)) && leB (IntKind.u8.wrap (IntKind.u8.wrap (((BitVec.ofInt 8 (n : Int) &&& BitVec.ofInt 8 15).toNat : Nat) : Int) + 1)) 16)) = true ∧
    cutI digs (IntKind.u8.wrap (((BitVec.ofInt 8 (n : Int) &&& BitVec.ofInt 8 15).toNat : Nat) : Int)) (IntKind.u8.wrap (IntKind.u8.wrap (((BitVec.ofInt 8 (n : Int) &&& BitVec.ofInt 8 15).toNat : Nat) : Int) + 1)) = [hexd (n % 16)] := by decide +kernel

theorem c_text (body : List UInt8) (h : body.length ≤ 1000000000000) : denC E 24 [AV.str body] [] = some ([RV.p (PV.sl 1 (byteEs (txt body)))], []) := by
  rw [denC_eq, r24, c_Sum body h]
  simp only [SB, Nat.reduceAdd]
  have hlt := (sumB body).toNat_lt
  obtain ⟨h1, h2⟩ := hi_cut (sumB body).toNat (by omega)
  obtain ⟨h3, h4⟩ := lo_cut (sumB body).toNat (by omega)
  have hd : ([48, 49, 50, 51, 52, 53, 54, 55, 56, 57, 65, 66, 67, 68, 69, 70] : List UInt8) = digs := rfl
  rw [hd, h1, h2]
  rw [Bool.true_and] at h3
  rw [h3, h4]
  simp only [ctl_true]
  rw [ctl_dec, if_pos (by omega), ctl_dec, if_pos (by simp; omega), ctl_dec, if_pos (by simp; omega), ctl_dec, if_pos (by simp; omega), ctl_dec, if_pos (by simp; omega)]
  unfold txt
  simp only [List.append_assoc, List.cons_append, List.nil_append]

def totB (l : List (List UInt8)) : Nat := (l.map List.length).sum

theorem join_len (l : List (List UInt8)) : (Lib.join l [44]).length ≤ totB l + l.length := by
  cases l with
  | nil => simp [Lib.join_nil, totB]
  | cons x r =>
    rw [Lib.join_cons]
    have : ∀ r : List (List UInt8), (Lib.joinTail [44] r).length = totB r + r.length := fun r => by
      induction r with
      | nil => rfl
      | cons y r ih =>
        simp only [Lib.joinTail, List.map_cons, List.flatten_cons, List.length_append] at ih ⊢
        simp only [totB, List.map_cons, List.sum_cons, List.length_cons] at ih ⊢
        simp at ih ⊢
        omega
    rw [List.length_append, this r]
    simp only [totB, List.map_cons, List.sum_cons, List.length_cons]
    omega

theorem tot_valid {l : List (List UInt8)} (h : validB l = true) : l.length ≤ 16 ∧ totB l ≤ 20 * l.length := by
  unfold validB at h
  simp only [Bool.and_eq_true, decide_eq_true_eq] at h
  obtain ⟨⟨⟨h1, h2⟩, h3⟩, _⟩ := h
  refine ⟨by omega, ?_⟩
  have : ∀ l : List (List UInt8), l.all fldB = true → totB l ≤ 20 * l.length := fun l hl => by
    induction l with
    | nil => simp [totB]
    | cons x r ih =>
      simp only [List.all_cons, Bool.and_eq_true] at hl
      have hx := hl.1
      unfold fldB at hx
      simp only [Bool.and_eq_true, Bool.not_eq_true', decide_eq_false_iff_not] at hx
      have := ih hl.2
      simp only [totB, List.map_cons, List.sum_cons, List.length_cons] at this ⊢
      omega
  exact this l h3

theorem c_Join (l : List (List UInt8)) (sep : List UInt8) (h : l.length ≤ 140737488355328 ∧ (Lib.join l sep).length ≤ 140737488355328) : denC E 25 [AV.sl 1 (strsK l), AV.str sep] [] = some ([RV.p (PV.str (Lib.join l sep))], []) := by
  rw [denC_eq]
  have hs : ∀ l : List (List UInt8), strsOf (strsK l) = some l := fun l => by
    induction l with
    | nil => rfl
    | cons x r ih =>
      unfold strsK at ih ⊢
      simp only [List.map_cons, strsOf, ih]
  have : funK E (denC E) 25 [AV.sl 1 (strsK l), AV.str sep] [] = match pJoin [AV.sl 1 (strsK l), AV.str sep] with | some rs => some (rs, []) | none => none := by kernel_rfl
  rw [this]
  unfold pJoin
  simp only [hs, h, and_self, if_true]

def frm (l : List (List UInt8)) : List UInt8 × Int := if validB l = true then (if 200 < (txt (Lib.join l [44])).length then ([], 2) else (txt (Lib.join l [44]), 0)) else ([], 3)

theorem c_Format (l : List (List UInt8)) (h : l.length ≤ 100000) : denC E 10 [AV.agg [PV.sl 1 (strsK l)]] [] = some ([RV.p (PV.sl 1 (byteEs (frm l).1)), RV.p (PV.int .i64 (frm l).2)], []) := by
  rw [denC_eq, r10, c_Valid l h]
  simp only [SB, Nat.reduceAdd]
  unfold frm
  cases hv : validB l with
  | false => simp [ctl, byteEs]
  | true =>
    obtain ⟨h1, h2⟩ := tot_valid hv
    have h3 := join_len l
    simp only [Bool.not_true, ctl_false, if_true]
    rw [c_Join l [44] (by omega)]
    simp only [SB, Nat.reduceAdd]
    rw [c_text _ (by omega)]
    simp only [SB, Nat.reduceAdd]
    rw [byteEs_length, ctl_dec]
    by_cases hl : 200 < (txt (Lib.join l [44])).length
    · rw [if_pos (by omega), if_pos hl]; rfl
    · rw [if_neg (by omega), if_neg hl]

theorem byteEs_app (a b : List UInt8) : byteEs (a ++ b) = byteEs a ++ byteEs b := by simp [byteEs]

end Go.Proofs.YtpnpdkgdgfkpfaaGreatDoor.Vm

/- Contracts of chapter 04: fields, reading. -/
namespace Go.Proofs.YtpnpdkgdgfkpfaaGreatDoor.Vm
set_option linter.unusedVariables false
set_option linter.unusedSimpArgs false

theorem c_CutPrefix (s p : List UInt8) : denC E 84 [AV.str s, AV.str p] [] = some ([RV.p (PV.str (Lib.trimPrefix s p)), RV.p (PV.bool (Lib.hasPrefix s p))], []) := by
  rw [denC_eq]; kernel_rfl

theorem c_CutSuffix (s p : List UInt8) (h : s.length ≤ 9223372036854775807) : denC E 85 [AV.str s, AV.str p] [] = some ([RV.p (PV.str (Lib.trimSuffix s p)), RV.p (PV.bool (Lib.hasSuffix s p))], []) := by
  rw [denC_eq]
  have : funK E (denC E) 85 [AV.str s, AV.str p] [] = match pCutSuffix [AV.str s, AV.str p] with | some rs => some (rs, []) | none => none := by kernel_rfl
  rw [this]
  unfold pCutSuffix
  simp only [h, if_true]

theorem c_Split (s : List UInt8) (c : UInt8) (h : s.length < 4294967281) : denC E 111 [AV.str s, AV.str [c]] [] = some ([RV.p (PV.sl 1 (strsK (spl c s)))], []) := by
  rw [denC_eq]
  have : funK E (denC E) 111 [AV.str s, AV.str [c]] [] = match pSplit [AV.str s, AV.str [c]] with | some rs => some (rs, []) | none => none := by kernel_rfl
  rw [this]
  unfold pSplit
  simp only [h, if_true]

theorem c_Fields (s : List UInt8) (h : s.length < 4294967281) : denC E 86 [AV.str s] [] = some ([RV.p (PV.sl 1 (strsK (spl 44 s)))], []) := by
  rw [denC_eq, r86, c_Split s 44 h]
  simp only [SB, Nat.reduceAdd]

def hexv (b : UInt8) : Int := Lib.indexByte digs b

def splitS (b : List UInt8) : Option (List UInt8 × UInt8 × UInt8) :=
  if 6 ≤ b.length ∧ b.getD 0 0 = 36 ∧ b.getD (b.length - 5) 0 = 42 ∧ 0 ≤ hexv (b.getD (b.length - 4) 0) ∧ 0 ≤ hexv (b.getD (b.length - 3) 0) ∧ b.getD (b.length - 2) 0 = 13 ∧ b.getD (b.length - 1) 0 = 10
  then some ((b.drop 1).take (b.length - 6), b.getD (b.length - 4) 0, b.getD (b.length - 3) 0) else none

def prs (b : List UInt8) : PV × Int :=
  if 200 < b.length then (.nils, 2) else
  match splitS b with
  | none => (.nils, 3)
  | some (body, x, y) => if validB (spl 44 body) = true then (if ((sumB body).toNat : Int) = 16 * hexv x + hexv y then (.sl 1 (strsK (spl 44 body)), 0) else (.nils, 4)) else (.nils, 3)

theorem six {b : List UInt8} (h : 6 ≤ b.length) : ∃ c body p x y q r, b = c :: (body ++ [p, x, y, q, r]) := by
  cases b with
  | nil => simp at h
  | cons c t =>
    have ht : 5 ≤ t.length := by simpa using h
    refine ⟨c, t.take (t.length - 5), t.getD (t.length - 5) 0, t.getD (t.length - 4) 0, t.getD (t.length - 3) 0, t.getD (t.length - 2) 0, t.getD (t.length - 1) 0, ?_⟩
    congr 1
    have h1 : t = t.take (t.length - 5) ++ t.drop (t.length - 5) := (List.take_append_drop _ _).symm
    have h2 : ∀ d : List UInt8, d.length = 5 → d = [d.getD 0 0, d.getD 1 0, d.getD 2 0, d.getD 3 0, d.getD 4 0] := fun d hd => by
      match d, hd with
      | [a, b, c, d, e], _ => rfl
    have h3 := h2 (t.drop (t.length - 5)) (by simp; omega)
    have h4 : ∀ k, k < 5 → (t.drop (t.length - 5)).getD k 0 = t.getD (t.length - 5 + k) 0 := fun k hk => by simp [List.getD]
    rw [h4 0 (by omega), h4 1 (by omega), h4 2 (by omega), h4 3 (by omega), h4 4 (by omega)] at h3
    rw [show t.length - 5 + 0 = t.length - 5 by omega, show t.length - 5 + 1 = t.length - 4 by omega, show t.length - 5 + 2 = t.length - 3 by omega, show t.length - 5 + 3 = t.length - 2 by omega, show t.length - 5 + 4 = t.length - 1 by omega] at h3
    rw [← h3]
    exact h1

section
variable (c : UInt8) (body : List UInt8) (p x y q r : UInt8)

theorem sx_len : (c :: (body ++ [p, x, y, q, r])).length = body.length + 6 := by simp

theorem sx_at (k : Nat) : (c :: (body ++ [p, x, y, q, r])).getD (body.length + 1 + k) 0 = [p, x, y, q, r].getD k 0 := by
  rw [show body.length + 1 + k = (body.length + k) + 1 by omega, List.getD_cons_succ]
  simp only [List.getD_eq_getElem?_getD]
  rw [List.getElem?_append_right (by omega), Nat.add_sub_cancel_left]

theorem splitS_six : splitS (c :: (body ++ [p, x, y, q, r])) = if c = 36 ∧ p = 42 ∧ 0 ≤ hexv x ∧ 0 ≤ hexv y ∧ q = 13 ∧ r = 10 then some (body, x, y) else none := by
  unfold splitS
  rw [sx_len]
  have e0 : (c :: (body ++ [p, x, y, q, r])).getD 0 0 = c := rfl
  have e1 := sx_at c body p x y q r 0
  have e2 := sx_at c body p x y q r 1
  have e3 := sx_at c body p x y q r 2
  have e4 := sx_at c body p x y q r 3
  have e5 := sx_at c body p x y q r 4
  rw [show body.length + 6 - 5 = body.length + 1 + 0 by omega, show body.length + 6 - 4 = body.length + 1 + 1 by omega, show body.length + 6 - 3 = body.length + 1 + 2 by omega,
    show body.length + 6 - 2 = body.length + 1 + 3 by omega, show body.length + 6 - 1 = body.length + 1 + 4 by omega, show body.length + 6 - 6 = body.length by omega, e0, e1, e2, e3, e4, e5]
  have e6 : ((c :: (body ++ [p, x, y, q, r])).drop 1).take body.length = body := by simp
  rw [e6]
  have h6 : 6 ≤ body.length + 6 := by omega
  simp [h6]
end

end Go.Proofs.YtpnpdkgdgfkpfaaGreatDoor.Vm

/- Contracts of chapter 04: reading, comparing, the source's texts. -/
namespace Go.Proofs.YtpnpdkgdgfkpfaaGreatDoor.Vm
set_option linter.unusedVariables false
set_option linter.unusedSimpArgs false

section
variable (c : UInt8) (body : List UInt8) (p x y q r : UInt8)

end

theorem bne_b (b c : UInt8) : ((b.toNat : Int) != (c.toNat : Int)) = !(b == c) := by rw [← b_eq]; rfl

def prsT (body : List UInt8) (x y : UInt8) : PV × Int :=
  if validB (spl 44 body) = true then (if ((sumB body).toNat : Int) = 16 * hexv x + hexv y then (.sl 1 (strsK (spl 44 body)), 0) else (.nils, 4)) else (.nils, 3)

theorem prs_six (c : UInt8) (body : List UInt8) (p x y q r : UInt8) (h : body.length + 6 ≤ 200) : prs (c :: (body ++ [p, x, y, q, r])) =
    if c = 36 ∧ p = 42 ∧ 0 ≤ hexv x ∧ 0 ≤ hexv y ∧ q = 13 ∧ r = 10 then prsT body x y else (.nils, 3) := by
  unfold prs
  rw [sx_len, if_neg (by omega), splitS_six]
  split
  · rename_i h; split at h <;> rename_i hc
    · cases h
    · rw [if_neg hc]
  · rename_i h; split at h <;> rename_i hc
    · cases h; rw [if_pos hc]; rfl
    · cases h

theorem prs_short {b : List UInt8} (h : b.length < 6) : prs b = (.nils, 3) := by
  unfold prs splitS
  rw [if_neg (by omega), if_neg (by omega)]

theorem prs_long {b : List UInt8} (h : 200 < b.length) : prs b = (.nils, 2) := by unfold prs; rw [if_pos h]

theorem spl_count (s : List UInt8) : (spl 44 s).length ≤ s.length + 1 := by
  induction s with
  | nil => simp [spl]
  | cons b l ih =>
    unfold spl
    split
    · simp; omega
    · split
      · simp
      · rename_i h; rw [h] at ih; simp at ih ⊢; omega

theorem hexv_le (b : UInt8) : hexv b ≤ 15 ∧ -1 ≤ hexv b := by
  have : ∀ n : Nat, n < 256 → hexv (UInt8.ofNat n) ≤ 15 ∧ -1 ≤ hexv (UInt8.ofNat n) := by decide +kernel
  have h := this b.toNat b.toNat_lt
  rwa [UInt8.ofNat_toNat] at h

theorem pre36 (c : UInt8) (t : List UInt8) : Lib.hasPrefix (c :: t) [36] = (c == 36) := by
  unfold Lib.hasPrefix
  show ((36 : UInt8) == c && [].isPrefixOf t) = _
  by_cases h : c = 36
  · subst h; rfl
  · have e1 : ((36 : UInt8) == c) = false := by simpa using fun e : 36 = c => h e.symm
    have e2 : (c == 36) = false := by simpa using h
    rw [e1, e2]; rfl

theorem suf2 (l : List UInt8) (q r : UInt8) : Lib.hasSuffix (l ++ [q, r]) [13, 10] = (q == 13 && r == 10) := by
  unfold Lib.hasSuffix List.isSuffixOf
  rw [List.reverse_append]
  show ((10 : UInt8) == r && ((13 : UInt8) == q && [].isPrefixOf l.reverse)) = _
  have e : ∀ a b : UInt8, (a == b) = (b == a) := fun a b => by
    rw [Bool.eq_iff_iff]; simp only [beq_iff_eq]; exact eq_comm
  rw [e 10 r, e 13 q]
  cases r == 10 <;> cases q == 13 <;> rfl

theorem suf_len {s p : List UInt8} (h : Lib.hasSuffix s p = true) : (Lib.trimSuffix s p).length = s.length - p.length := by
  unfold Lib.trimSuffix; rw [if_pos h]; simp

theorem trim36 (t : List UInt8) : Lib.trimPrefix (36 :: t) [36] = t := by
  unfold Lib.trimPrefix; rw [pre36]; rfl

theorem trim2 (l : List UInt8) : Lib.trimSuffix (l ++ [13, 10]) [13, 10] = l := by
  unfold Lib.trimSuffix; rw [suf2]; simp

theorem digs_lit : ([48, 49, 50, 51, 52, 53, 54, 55, 56, 57, 65, 66, 67, 68, 69, 70] : List UInt8) = digs := rfl

theorem hexd_hexv : ∀ a : Nat, a < 16 → ∀ b : Nat, b < 256 → (hexd a = UInt8.ofNat b ↔ hexv (UInt8.ofNat b) = a) := by decide +kernel

theorem hexd_iff (a : Nat) (b : UInt8) (h : a < 16) : hexd a = b ↔ hexv b = a := by
  have := hexd_hexv a h b.toNat b.toNat_lt
  rwa [UInt8.ofNat_toNat] at this

theorem txt_eq (body : List UInt8) (x y : UInt8) (hx : 0 ≤ hexv x) (hy : 0 ≤ hexv y) : (txt body == 36 :: (body ++ [42, x, y, 13, 10])) = decide (((sumB body).toNat : Int) = 16 * hexv x + hexv y) := by
  have hlt := (sumB body).toNat_lt
  have h1 := hexd_iff ((sumB body).toNat / 16) x (by omega)
  have h2 := hexd_iff ((sumB body).toNat % 16) y (by omega)
  have hxl := hexv_le x
  have hyl := hexv_le y
  rw [Bool.eq_iff_iff]
  unfold txt
  simp only [beq_iff_eq, decide_eq_true_eq, List.cons.injEq, List.append_cancel_left_eq, true_and, and_true]
  rw [h1, h2]
  constructor
  · rintro ⟨a, b⟩; omega
  · intro h; omega

section
variable (body : List UInt8) (p x y : UInt8)

theorem t3_len : (body ++ [p, x, y]).length = body.length + 3 := by simp

theorem t3_at (k : Nat) : byteAt (body ++ [p, x, y]) ((body.length : Int) + k) = ([p, x, y].getD k 0).toNat := by
  unfold byteAt
  have : ((body.length : Int) + k).toNat = body.length + k := by omega
  rw [this, nth_eq]
  simp only [List.getD_eq_getElem?_getD]
  rw [List.getElem?_append_right (by omega), Nat.add_sub_cancel_left]

theorem t3_cut : cutI (body ++ [p, x, y]) 0 (body.length : Int) = body := by
  unfold cutI; simp
end

theorem in_r {i n : Int} (h : 0 ≤ i ∧ i < n) : (leB 0 i && ltB i n) = true := by
  have a1 : leB 0 i = true := decide_eq_true h.1
  have a2 : ltB i n = true := decide_eq_true h.2
  rw [a1, a2]; rfl

theorem c_Parse (b : List UInt8) (h : b.length ≤ 1000000000) : denC E 57 [AV.sl 1 (byteEs b)] [] = some ([RV.agg [(prs b).1], RV.p (PV.int .i64 (prs b).2)], []) := by
  rw [denC_eq, r57, byteEs_length, ctl_dec, bytesOk_byteEs, toBytes_byteEs]
  by_cases h200 : 200 < b.length
  · rw [if_pos (by omega), prs_long h200]
  rw [if_neg (by omega), ctl_true, c_CutPrefix]
  simp only [bnd_some, y_str, y_bool, y_nil, b_nil, Bool.and_self, ctl_true, nth_0, nth_1, x_toPV, x_str, x_bool]
  have hl1 : (Lib.trimPrefix b [36]).length ≤ b.length := by unfold Lib.trimPrefix; split <;> simp
  rw [c_CutSuffix _ _ (by omega)]
  simp only [bnd_some, y_str, y_bool, y_nil, b_nil, Bool.and_self, ctl_true, nth_0, nth_1, x_toPV, x_str, x_bool, ctl_or']
  have hl2 : (Lib.trimSuffix (Lib.trimPrefix b [36]) [13, 10]).length ≤ b.length := by
    unfold Lib.trimSuffix
    split
    · rw [List.length_take]; omega
    · exact hl1
  have w3 : IntKind.i64.wrap (((Lib.trimSuffix (Lib.trimPrefix b [36]) [13, 10]).length : Int) - 3) = ((Lib.trimSuffix (Lib.trimPrefix b [36]) [13, 10]).length : Int) - 3 := w64 (by omega)
  rw [w3]
  -- no text of the right form
  have bad : (!Lib.hasPrefix b [36] || !Lib.hasSuffix (Lib.trimPrefix b [36]) [13, 10] || ltB (((Lib.trimSuffix (Lib.trimPrefix b [36]) [13, 10]).length : Int) - 3) 0) = true → prs b = (.nils, 3) := by
    intro hb
    by_cases h6 : b.length < 6
    · exact prs_short h6
    · obtain ⟨c, body, p, x, y, q, r, rfl⟩ := six (b := b) (by omega)
      rw [prs_six _ _ _ _ _ _ _ (by rw [sx_len] at h200; omega)]
      by_cases hc : c = 36 ∧ p = 42 ∧ 0 ≤ hexv x ∧ 0 ≤ hexv y ∧ q = 13 ∧ r = 10
      · exfalso
        obtain ⟨rfl, rfl, _, _, rfl, rfl⟩ := hc
        have e : body ++ [42, x, y, 13, 10] = (body ++ [42, x, y]) ++ [13, 10] := by simp
        rw [trim36, pre36, e, suf2, trim2, t3_len] at hb
        have : ltB (((body.length + 3 : Nat) : Int) - 3) 0 = false := decide_eq_false (by omega)
        rw [this] at hb
        exact absurd hb (by decide)
      · rw [if_neg hc]
  cases hb : (!Lib.hasPrefix b [36] || !Lib.hasSuffix (Lib.trimPrefix b [36]) [13, 10] || ltB (((Lib.trimSuffix (Lib.trimPrefix b [36]) [13, 10]).length : Int) - 3) 0) with
  | true =>
    rw [bad hb]
    simp only [Bool.not_true, ctl_false, bnd_some, ctl_true]
  | false =>
    simp only [Bool.or_eq_false_iff, Bool.not_eq_false'] at hb
    obtain ⟨⟨hp, hs⟩, hn⟩ := hb
    have hn := of_decide_eq_false hn
    have h6 : 6 ≤ b.length := by
      have e1 := suf_len hs
      simp only [List.length_cons, List.length_nil] at e1
      have e2 : (Lib.trimPrefix b [36]).length = b.length - 1 := by unfold Lib.trimPrefix; rw [if_pos hp]; simp
      omega
    obtain ⟨c, body, p, x, y, q, r, rfl⟩ := six h6
    rw [pre36] at hp
    have hc := beq_iff_eq.1 hp
    subst hc
    have e : body ++ [p, x, y, q, r] = (body ++ [p, x, y]) ++ [q, r] := by simp
    rw [trim36, e, suf2] at hs
    simp only [Bool.and_eq_true, beq_iff_eq] at hs
    obtain ⟨rfl, rfl⟩ := hs
    rw [trim36, e, trim2, t3_len] at *
    have hl : body.length + 6 ≤ 200 := by simp at h200; omega
    have e' : (36 :: (body ++ [p, x, y] ++ [13, 10]) : List UInt8) = 36 :: (body ++ [p, x, y, 13, 10]) := by simp
    rw [e', prs_six _ _ _ _ _ _ _ hl]
    have n0 : (((body.length + 3 : Nat) : Int) - 3) = (body.length : Int) := by omega
    rw [n0, w64 (n := (body.length : Int) + 1) (by omega), w64 (n := (body.length : Int) + 2) (by omega)]
    have a0 : byteAt (body ++ [p, x, y]) (body.length : Int) = (p.toNat : Int) := by have := t3_at body p x y 0; rwa [show ((body.length : Int) + ((0 : Nat) : Int)) = (body.length : Int) by omega] at this
    have a1 : byteAt (body ++ [p, x, y]) ((body.length : Int) + 1) = (x.toNat : Int) := t3_at body p x y 1
    have a2 : byteAt (body ++ [p, x, y]) ((body.length : Int) + 2) = (y.toNat : Int) := t3_at body p x y 2
    rw [a0, a1, a2, in_r (i := (body.length : Int)) (by omega), in_r (i := (body.length : Int) + 1) (by omega), in_r (i := (body.length : Int) + 2) (by omega), c_IndexByte, c_IndexByte, u8_back, u8_back, digs_lit]
    simp only [Bool.not_false, bnd_some, ctl_true, y_int, y_nil, b_nil, Bool.and_self, nth_0, x_toPV, x_int, ctl_or']
    have b42 : ((p.toNat : Int) != 42) = !(p == 42) := bne_b p 42
    have hx0 : Lib.indexByte digs x = hexv x := rfl
    have hy0 : Lib.indexByte digs y = hexv y := rfl
    rw [b42, hx0, hy0]
    by_cases hc : p = 42 ∧ 0 ≤ hexv x ∧ 0 ≤ hexv y
    · obtain ⟨rfl, hx, hy⟩ := hc
      have c1 : ltB (hexv x) 0 = false := decide_eq_false (by omega)
      have c2 : ltB (hexv y) 0 = false := decide_eq_false (by omega)
      have hin : (true && (leB 0 (body.length : Int) && leB (body.length : Int) ((body.length + 3 : Nat) : Int))) = true := by
        have a1 : leB 0 (body.length : Int) = true := decide_eq_true (by omega)
        have a2 : leB (body.length : Int) ((body.length + 3 : Nat) : Int) = true := decide_eq_true (by omega)
        rw [a1, a2]; rfl
      have hs := spl_count body
      rw [c1, c2, hin, t3_cut, c_Fields body (by omega)]
      simp only [beq_self_eq_true, Bool.not_true, Bool.or_false, SB, Nat.reduceAdd]
      rw [c_Valid _ (by omega)]
      simp only [SB, Nat.reduceAdd]
      rw [if_pos ⟨trivial, trivial, hx, hy, trivial, trivial⟩]
      unfold prsT
      cases hval : validB (spl 44 body) with
      | false => rfl
      | true =>
        simp only [Bool.not_true, ctl_false, if_true]
        rw [c_text body (by omega)]
        simp only [SB, Nat.reduceAdd]
        rw [bytesOk_byteEs, toBytes_byteEs, ctl_true, txt_eq body x y hx hy, ctl_ndec]
        by_cases he : ((sumB body).toNat : Int) = 16 * hexv x + hexv y
        · rw [if_pos he, if_pos he]
        · rw [if_neg he, if_neg he]
    · rw [if_neg (fun h => hc ⟨h.2.1, h.2.2.1, h.2.2.2.1⟩)]
      have : (!(p == 42) || ltB (hexv x) 0 || ltB (hexv y) 0) = true := by
        by_cases a1 : p = 42
        · by_cases a2 : 0 ≤ hexv x
          · by_cases a3 : 0 ≤ hexv y
            · exact absurd ⟨a1, a2, a3⟩ hc
            · have : ltB (hexv y) 0 = true := decide_eq_true (by omega)
              rw [this, Bool.or_true]
          · have : ltB (hexv x) 0 = true := decide_eq_true (by omega)
            rw [this, Bool.or_true, Bool.true_or]
        · have : (p == 42) = false := by simpa using a1
          rw [this]; rfl
      rw [this, ctl_true]

end Go.Proofs.YtpnpdkgdgfkpfaaGreatDoor.Vm

/- Chapter 04: texts and sentences go back and forth. -/
namespace Go.Proofs.YtpnpdkgdgfkpfaaGreatDoor.Vm
set_option linter.unusedVariables false
set_option linter.unusedSimpArgs false

theorem hexv_hexd {n : Nat} (h : n < 16) : hexv (hexd n) = n := (hexd_iff n (hexd n) h).1 rfl

theorem spl_no {s : List UInt8} (h : ∀ b ∈ s, b ≠ 44) : spl 44 s = [s] := by
  induction s with
  | nil => rfl
  | cons b l ih =>
    have hb : (b == 44) = false := by simpa using h b (by simp)
    unfold spl
    rw [hb, ih fun x hx => h x (by simp [hx])]
    rfl

theorem spl_step {b : UInt8} {l : List UInt8} (h : (b == 44) = false) : spl 44 (b :: l) = match spl 44 l with | [] => [[b]] | p :: r => (b :: p) :: r := by
  rw [spl, h]
  rfl

theorem spl_app {s : List UInt8} (h : ∀ b ∈ s, b ≠ 44) (t : List UInt8) : spl 44 (s ++ 44 :: t) = s :: spl 44 t := by
  induction s with
  | nil => rfl
  | cons b l ih =>
    have hb : (b == 44) = false := by simpa using h b (by simp)
    rw [List.cons_append, spl_step hb, ih fun x hx => h x (by simp [hx])]

theorem spl_join : ∀ (x : List UInt8) (r : List (List UInt8)), (∀ s ∈ x :: r, ∀ b ∈ s, b ≠ 44) → spl 44 (Lib.join (x :: r) [44]) = x :: r
  | x, [], h => by
    rw [Lib.join_one]
    exact spl_no (h x (by simp))
  | x, y :: r, h => by
    have e : Lib.join (x :: y :: r) [44] = x ++ 44 :: Lib.join (y :: r) [44] := by
      rw [Lib.join_cons, Lib.join_cons]
      simp [Lib.joinTail]
    rw [e, spl_app (h x (by simp)), spl_join y r fun s hs => h s (by simp [hs])]

theorem fld_no {s : List UInt8} (h : fldB s = true) : ∀ b ∈ s, b ≠ 44 := by
  intro b hb he
  unfold fldB at h
  simp only [Bool.and_eq_true] at h
  have := List.all_eq_true.1 h.2 b hb
  subst he
  exact absurd this (by decide)

theorem valid_ne {l : List (List UInt8)} (h : validB l = true) : l ≠ [] ∧ ∀ s ∈ l, fldB s = true := by
  unfold validB at h
  simp only [Bool.and_eq_true, decide_eq_true_eq] at h
  refine ⟨fun e => ?_, fun s hs => List.all_eq_true.1 h.1.2 s hs⟩
  subst e
  have := h.1.1.1
  simp at this

theorem spl_valid {l : List (List UInt8)} (h : validB l = true) : spl 44 (Lib.join l [44]) = l := by
  obtain ⟨hne, hf⟩ := valid_ne h
  cases l with
  | nil => exact absurd rfl hne
  | cons x r => exact spl_join x r fun s hs => fld_no (hf s hs)

theorem prs_txt {l : List (List UInt8)} (h : validB l = true) (hl : (txt (Lib.join l [44])).length ≤ 200) : prs (txt (Lib.join l [44])) = (.sl 1 (strsK l), 0) := by
  have hlt := (sumB (Lib.join l [44])).toNat_lt
  have h1 := hexv_hexd (n := (sumB (Lib.join l [44])).toNat / 16) (by omega)
  have h2 := hexv_hexd (n := (sumB (Lib.join l [44])).toNat % 16) (by omega)
  rw [txt_length] at hl
  unfold txt
  rw [prs_six _ _ _ _ _ _ _ hl, if_pos ⟨rfl, rfl, by omega, by omega, rfl, rfl⟩]
  unfold prsT
  rw [spl_valid h, if_pos h, if_pos (by rw [h1, h2]; omega)]

theorem frm_ok {l : List (List UInt8)} (h : validB l = true) (hl : (txt (Lib.join l [44])).length ≤ 200) : frm l = (txt (Lib.join l [44]), 0) := by
  unfold frm
  rw [if_pos h, if_neg (by omega)]

end Go.Proofs.YtpnpdkgdgfkpfaaGreatDoor.Vm
