/- CapabilityExact: the functions of the program and of the document agree, for any ships, loads and greatest forces. -/
import Derived.Test.YtclplmjlolpfbaaGreatCapP
import Derived.Test.YtclplmjlolpfbaaGreatFlds
import Derived.Test.YtclplmjlolpfbaaGreatRawExact
namespace Go.Proofs.YtclplmjlolpfbaaGreat.Vm
set_option linter.unusedVariables false
set_option linter.unusedSimpArgs false

theorem NT : type_of% (And.intro @nth_10 <| And.intro @nth_11 <| And.intro @nth_12 <| And.intro @nth_13 <| And.intro @nth_14 <| And.intro @nth_15 <| And.intro @nth_16 <| And.intro @nth_17 <| And.intro @nth_18 <| And.intro @nth_19 <| And.intro @nth_20 <| And.intro @nth_21 <| And.intro @nth_22 <| @nth_23) := And.intro @nth_10 <| And.intro @nth_11 <| And.intro @nth_12 <| And.intro @nth_13 <| And.intro @nth_14 <| And.intro @nth_15 <| And.intro @nth_16 <| And.intro @nth_17 <| And.intro @nth_18 <| And.intro @nth_19 <| And.intro @nth_20 <| And.intro @nth_21 <| And.intro @nth_22 <| @nth_23

theorem x8_round {L : List Int} (hL : L.length ≤ 600) {able l a m1 m2 : List Int} {n : Int} {s1 s2 s3 y : Shp} {ld f1 f2 f : Int × Int × Int} {yi ai p0 p1 v j : Int} {k : Nat} (hs : ThinS y) (ha : a.length ≤ 1000) (hj : 0 ≤ j ∧ j < 2) (hg : ∀ (K : List PV → Option (Ex × Pack)), getE [[PV.int .i64 p0], [PV.int .i64 p1]] j K = K [PV.int .i64 v]) :
    lp E (denC E) 3 0 [] 8 { vals := [AV.sl 1 (intsK .i64 able), AV.sl 1 (intsK .i64 l), AV.int .i64 n, AV.sl 1 (intsK .i64 a), AV.agg [PV.int .i64 s1.bw, PV.int .i64 s1.sn, PV.sl 6 (thK s1.ts), PV.int .i64 s2.bw, PV.int .i64 s2.sn, PV.sl 6 (thK s2.ts), PV.int .i64 s3.bw, PV.int .i64 s3.sn, PV.sl 6 (thK s3.ts)], AV.int .i64 yi, AV.agg [PV.sl 1 (intsK .i64 m1), PV.sl 1 (intsK .i64 m2)], AV.int .i64 ai, AV.agg [PV.int .i64 p0, PV.int .i64 p1], AV.int .i64 j], blks := [Blk.box [AV.int .i64 ld.1, AV.int .i64 ld.2.1, AV.int .i64 ld.2.2], src L k, Blk.box [AV.int .i64 y.bw, AV.int .i64 y.sn, AV.sl 6 (thK y.ts)]] } =
      lp E (denC E) 3 0 [] 8 { vals := [AV.sl 1 (intsK .i64 able), AV.sl 1 (intsK .i64 l), AV.int .i64 n, AV.sl 1 (intsK .i64 a), AV.agg [PV.int .i64 s1.bw, PV.int .i64 s1.sn, PV.sl 6 (thK s1.ts), PV.int .i64 s2.bw, PV.int .i64 s2.sn, PV.sl 6 (thK s2.ts), PV.int .i64 s3.bw, PV.int .i64 s3.sn, PV.sl 6 (thK s3.ts)], AV.int .i64 yi, AV.agg [PV.sl 1 (intsK .i64 m1), PV.sl 1 (intsK .i64 m2)], AV.int .i64 ai, AV.agg [PV.int .i64 p0, PV.int .i64 p1], AV.int .i64 (j + 1)], blks := [Blk.box [AV.int .i64 ld.1, AV.int .i64 ld.2.1, AV.int .i64 ld.2.2], src L k, Blk.box [AV.int .i64 y.bw, AV.int .i64 y.sn, AV.sl 6 (thK y.ts)]] } := by
  have e : ltB j 2 = true := by simp only [decide_eq_true_eq]; omega
  have hX := c_PolarX hs ha v
  have hR := c_PolarR hs ha v
  have hI := c_Ints (polR y a v) (polR y a v) (by have := polR_length y a v; omega)
  rw [decide_eq_true rfl] at hI
  unfold shpC at hX hR
  rw [r3_8, e, ctl_true, hg]
  simp only [SB, Nat.reduceAdd, NT, beq_self_eq_true, bne_self_eq_false]
  rw [hX]
  simp only [SB, Nat.reduceAdd, NT, beq_self_eq_true, bne_self_eq_false]
  rw [hR]
  simp only [SB, Nat.reduceAdd, NT, beq_self_eq_true, bne_self_eq_false]
  rw [hI]
  simp only [SB, Nat.reduceAdd, NT, beq_self_eq_true, bne_self_eq_false]
  rw [w64 (n := j + 1) (by omega)]

theorem x8 {L : List Int} (hL : L.length ≤ 600) {able l a m1 m2 : List Int} {n : Int} {s1 s2 s3 y : Shp} {ld f1 f2 f : Int × Int × Int} {yi ai p0 p1 : Int} {k : Nat} (hs : ThinS y) (ha : a.length ≤ 1000) :
    lp E (denC E) 3 0 [] 8 { vals := [AV.sl 1 (intsK .i64 able), AV.sl 1 (intsK .i64 l), AV.int .i64 n, AV.sl 1 (intsK .i64 a), AV.agg [PV.int .i64 s1.bw, PV.int .i64 s1.sn, PV.sl 6 (thK s1.ts), PV.int .i64 s2.bw, PV.int .i64 s2.sn, PV.sl 6 (thK s2.ts), PV.int .i64 s3.bw, PV.int .i64 s3.sn, PV.sl 6 (thK s3.ts)], AV.int .i64 yi, AV.agg [PV.sl 1 (intsK .i64 m1), PV.sl 1 (intsK .i64 m2)], AV.int .i64 ai, AV.agg [PV.int .i64 p0, PV.int .i64 p1], AV.int .i64 0], blks := [Blk.box [AV.int .i64 ld.1, AV.int .i64 ld.2.1, AV.int .i64 ld.2.2], src L k, Blk.box [AV.int .i64 y.bw, AV.int .i64 y.sn, AV.sl 6 (thK y.ts)]] } =
      some (Ex.exit 8, { vals := [AV.sl 1 (intsK .i64 able), AV.sl 1 (intsK .i64 l), AV.int .i64 n, AV.sl 1 (intsK .i64 a), AV.agg [PV.int .i64 s1.bw, PV.int .i64 s1.sn, PV.sl 6 (thK s1.ts), PV.int .i64 s2.bw, PV.int .i64 s2.sn, PV.sl 6 (thK s2.ts), PV.int .i64 s3.bw, PV.int .i64 s3.sn, PV.sl 6 (thK s3.ts)], AV.int .i64 yi, AV.agg [PV.sl 1 (intsK .i64 m1), PV.sl 1 (intsK .i64 m2)], AV.int .i64 ai], blks := [Blk.box [AV.int .i64 ld.1, AV.int .i64 ld.2.1, AV.int .i64 ld.2.2], src L k, Blk.box [AV.int .i64 y.bw, AV.int .i64 y.sn, AV.sl 6 (thK y.ts)]] }) := by
  rw [x8_round (f1 := f1) (f2 := f2) (f := f) hL hs ha (by omega) (v := p0) (fun K => rfl), x8_round (f1 := f1) (f2 := f2) (f := f) hL hs ha (by omega) (v := p1) (fun K => rfl), r3_8, show ltB (0 + 1 + 1) 2 = false from rfl, ctl_false]

theorem x6_round {L : List Int} (hL : L.length ≤ 600) {able l a m1 m2 : List Int} {n : Int} {s1 s2 s3 y : Shp} {ld f1 f2 f : Int × Int × Int} {yi ai fi p0 p1 p2 v j : Int} {k : Nat} (hj : 0 ≤ j ∧ j < 3) (hg : ∀ (K : List PV → Option (Ex × Pack)), getE [[PV.int .i64 p0], [PV.int .i64 p1], [PV.int .i64 p2]] j K = K [PV.int .i64 v]) :
    lp E (denC E) 3 0 [] 6 { vals := [AV.sl 1 (intsK .i64 able), AV.sl 1 (intsK .i64 l), AV.int .i64 n, AV.sl 1 (intsK .i64 a), AV.agg [PV.int .i64 s1.bw, PV.int .i64 s1.sn, PV.sl 6 (thK s1.ts), PV.int .i64 s2.bw, PV.int .i64 s2.sn, PV.sl 6 (thK s2.ts), PV.int .i64 s3.bw, PV.int .i64 s3.sn, PV.sl 6 (thK s3.ts)], AV.int .i64 yi, AV.agg [PV.sl 1 (intsK .i64 m1), PV.sl 1 (intsK .i64 m2)], AV.int .i64 ai, AV.agg [PV.int .i64 f1.1, PV.int .i64 f1.2.1, PV.int .i64 f1.2.2, PV.int .i64 f2.1, PV.int .i64 f2.2.1, PV.int .i64 f2.2.2], AV.int .i64 fi, AV.agg [PV.int .i64 p0, PV.int .i64 p1, PV.int .i64 p2], AV.int .i64 j], blks := [Blk.box [AV.int .i64 ld.1, AV.int .i64 ld.2.1, AV.int .i64 ld.2.2], src L k, Blk.box [AV.int .i64 y.bw, AV.int .i64 y.sn, AV.sl 6 (thK y.ts)], Blk.box [AV.int .i64 f.1, AV.int .i64 f.2.1, AV.int .i64 f.2.2]] } =
      lp E (denC E) 3 0 [] 6 { vals := [AV.sl 1 (intsK .i64 able), AV.sl 1 (intsK .i64 l), AV.int .i64 n, AV.sl 1 (intsK .i64 a), AV.agg [PV.int .i64 s1.bw, PV.int .i64 s1.sn, PV.sl 6 (thK s1.ts), PV.int .i64 s2.bw, PV.int .i64 s2.sn, PV.sl 6 (thK s2.ts), PV.int .i64 s3.bw, PV.int .i64 s3.sn, PV.sl 6 (thK s3.ts)], AV.int .i64 yi, AV.agg [PV.sl 1 (intsK .i64 m1), PV.sl 1 (intsK .i64 m2)], AV.int .i64 ai, AV.agg [PV.int .i64 f1.1, PV.int .i64 f1.2.1, PV.int .i64 f1.2.2, PV.int .i64 f2.1, PV.int .i64 f2.2.1, PV.int .i64 f2.2.2], AV.int .i64 fi, AV.agg [PV.int .i64 p0, PV.int .i64 p1, PV.int .i64 p2], AV.int .i64 (j + 1)], blks := [Blk.box [AV.int .i64 ld.1, AV.int .i64 ld.2.1, AV.int .i64 ld.2.2], src L k, Blk.box [AV.int .i64 y.bw, AV.int .i64 y.sn, AV.sl 6 (thK y.ts)], Blk.box [AV.int .i64 f.1, AV.int .i64 f.2.1, AV.int .i64 f.2.2]] } := by
  have e : ltB j 3 = true := by simp only [decide_eq_true_eq]; omega
  have hX := c_PartX f v
  have hR := c_PartR f v
  unfold tri at hX hR
  rw [r3_6, e, ctl_true, hg]
  simp only [SB, Nat.reduceAdd, NT, beq_self_eq_true, bne_self_eq_false]
  rw [hX]
  simp only [SB, Nat.reduceAdd, NT, beq_self_eq_true, bne_self_eq_false]
  rw [hR]
  simp only [SB, Nat.reduceAdd, NT, beq_self_eq_true, bne_self_eq_false]
  rw [w64 (n := j + 1) (by omega)]

theorem x6 {L : List Int} (hL : L.length ≤ 600) {able l a m1 m2 : List Int} {n : Int} {s1 s2 s3 y : Shp} {ld f1 f2 f : Int × Int × Int} {yi ai fi p0 p1 p2 : Int} {k : Nat} :
    lp E (denC E) 3 0 [] 6 { vals := [AV.sl 1 (intsK .i64 able), AV.sl 1 (intsK .i64 l), AV.int .i64 n, AV.sl 1 (intsK .i64 a), AV.agg [PV.int .i64 s1.bw, PV.int .i64 s1.sn, PV.sl 6 (thK s1.ts), PV.int .i64 s2.bw, PV.int .i64 s2.sn, PV.sl 6 (thK s2.ts), PV.int .i64 s3.bw, PV.int .i64 s3.sn, PV.sl 6 (thK s3.ts)], AV.int .i64 yi, AV.agg [PV.sl 1 (intsK .i64 m1), PV.sl 1 (intsK .i64 m2)], AV.int .i64 ai, AV.agg [PV.int .i64 f1.1, PV.int .i64 f1.2.1, PV.int .i64 f1.2.2, PV.int .i64 f2.1, PV.int .i64 f2.2.1, PV.int .i64 f2.2.2], AV.int .i64 fi, AV.agg [PV.int .i64 p0, PV.int .i64 p1, PV.int .i64 p2], AV.int .i64 0], blks := [Blk.box [AV.int .i64 ld.1, AV.int .i64 ld.2.1, AV.int .i64 ld.2.2], src L k, Blk.box [AV.int .i64 y.bw, AV.int .i64 y.sn, AV.sl 6 (thK y.ts)], Blk.box [AV.int .i64 f.1, AV.int .i64 f.2.1, AV.int .i64 f.2.2]] } =
      some (Ex.exit 6, { vals := [AV.sl 1 (intsK .i64 able), AV.sl 1 (intsK .i64 l), AV.int .i64 n, AV.sl 1 (intsK .i64 a), AV.agg [PV.int .i64 s1.bw, PV.int .i64 s1.sn, PV.sl 6 (thK s1.ts), PV.int .i64 s2.bw, PV.int .i64 s2.sn, PV.sl 6 (thK s2.ts), PV.int .i64 s3.bw, PV.int .i64 s3.sn, PV.sl 6 (thK s3.ts)], AV.int .i64 yi, AV.agg [PV.sl 1 (intsK .i64 m1), PV.sl 1 (intsK .i64 m2)], AV.int .i64 ai, AV.agg [PV.int .i64 f1.1, PV.int .i64 f1.2.1, PV.int .i64 f1.2.2, PV.int .i64 f2.1, PV.int .i64 f2.2.1, PV.int .i64 f2.2.2], AV.int .i64 fi], blks := [Blk.box [AV.int .i64 ld.1, AV.int .i64 ld.2.1, AV.int .i64 ld.2.2], src L k, Blk.box [AV.int .i64 y.bw, AV.int .i64 y.sn, AV.sl 6 (thK y.ts)]] }) := by
  rw [x6_round hL (by omega) (v := p0) (fun K => rfl), x6_round hL (by omega) (v := p1) (fun K => rfl), x6_round hL (by omega) (v := p2) (fun K => rfl), r3_6, show ltB (0 + 1 + 1 + 1) 3 = false from rfl, ctl_false]

theorem x4_round {L : List Int} (hL : L.length ≤ 600) {able l a m1 m2 : List Int} {n : Int} {s1 s2 s3 y : Shp} {ld f1 f2 f : Int × Int × Int} {yi ai j : Int} {k : Nat} (hk : k ≤ 600) (hs : ThinS y) (ha : a.length ≤ 1000) (hj : 0 ≤ j ∧ j < 2) (hg : ∀ (K : List PV → Option (Ex × Pack)), getE [[PV.int .i64 f1.1, PV.int .i64 f1.2.1, PV.int .i64 f1.2.2], [PV.int .i64 f2.1, PV.int .i64 f2.2.1, PV.int .i64 f2.2.2]] j K = K [PV.int .i64 f.1, PV.int .i64 f.2.1, PV.int .i64 f.2.2]) :
    ∃ k' : Nat, k' ≤ 600 ∧ lp E (denC E) 3 0 [] 4 { vals := [AV.sl 1 (intsK .i64 able), AV.sl 1 (intsK .i64 l), AV.int .i64 n, AV.sl 1 (intsK .i64 a), AV.agg [PV.int .i64 s1.bw, PV.int .i64 s1.sn, PV.sl 6 (thK s1.ts), PV.int .i64 s2.bw, PV.int .i64 s2.sn, PV.sl 6 (thK s2.ts), PV.int .i64 s3.bw, PV.int .i64 s3.sn, PV.sl 6 (thK s3.ts)], AV.int .i64 yi, AV.agg [PV.sl 1 (intsK .i64 m1), PV.sl 1 (intsK .i64 m2)], AV.int .i64 ai, AV.agg [PV.int .i64 f1.1, PV.int .i64 f1.2.1, PV.int .i64 f1.2.2, PV.int .i64 f2.1, PV.int .i64 f2.2.1, PV.int .i64 f2.2.2], AV.int .i64 j], blks := [Blk.box [AV.int .i64 ld.1, AV.int .i64 ld.2.1, AV.int .i64 ld.2.2], src L k, Blk.box [AV.int .i64 y.bw, AV.int .i64 y.sn, AV.sl 6 (thK y.ts)]] } =
      lp E (denC E) 3 0 [] 4 { vals := [AV.sl 1 (intsK .i64 able), AV.sl 1 (intsK .i64 l), AV.int .i64 n, AV.sl 1 (intsK .i64 a), AV.agg [PV.int .i64 s1.bw, PV.int .i64 s1.sn, PV.sl 6 (thK s1.ts), PV.int .i64 s2.bw, PV.int .i64 s2.sn, PV.sl 6 (thK s2.ts), PV.int .i64 s3.bw, PV.int .i64 s3.sn, PV.sl 6 (thK s3.ts)], AV.int .i64 yi, AV.agg [PV.sl 1 (intsK .i64 m1), PV.sl 1 (intsK .i64 m2)], AV.int .i64 ai, AV.agg [PV.int .i64 f1.1, PV.int .i64 f1.2.1, PV.int .i64 f1.2.2, PV.int .i64 f2.1, PV.int .i64 f2.2.1, PV.int .i64 f2.2.2], AV.int .i64 (j + 1)], blks := [Blk.box [AV.int .i64 ld.1, AV.int .i64 ld.2.1, AV.int .i64 ld.2.2], src L k', Blk.box [AV.int .i64 y.bw, AV.int .i64 y.sn, AV.sl 6 (thK y.ts)]] } := by
  have e : ltB j 2 = true := by simp only [decide_eq_true_eq]; omega
  have h1 := c_DemandX hs f
  have h2 := c_DemandR hs f
  have h3 := c_MissingX hs ha f
  have h4 := c_MissingR hs ha f
  have h5 := c_MeetsX hs ha f
  have h6 := c_MeetsR hs ha f
  have h7 := c_ReserveX hs ha f
  have h8 := c_ReserveR hs ha f
  have hN := c_N hL hk 201 (by omega)
  unfold shpC tri at h1 h2 h3 h4
  unfold shpC at h5 h6 h7 h8
  refine ⟨_root_.Go.Proofs.YtclplmjlolpfbaaGreat.Vm.at' L k, at'_le hL hk, ?_⟩
  have hx := x6 (y := y) (f := f) (s1 := s1) (s2 := s2) (s3 := s3) (ld := ld) (f1 := f1) (f2 := f2) (able := able) (l := l) (a := a) (m1 := m1) (m2 := m2) (n := n) (yi := yi) (ai := ai) (fi := j) (p0 := n) (p1 := vN L k 201) (p2 := 100) (k := _root_.Go.Proofs.YtclplmjlolpfbaaGreat.Vm.at' L k) hL
  rw [r3_4, e, ctl_true, hg]
  simp only [SB, Nat.reduceAdd, NT, beq_self_eq_true, bne_self_eq_false]
  rw [h1]
  simp only [SB, Nat.reduceAdd, NT, beq_self_eq_true, bne_self_eq_false]
  rw [h2]
  simp only [SB, Nat.reduceAdd, NT, beq_self_eq_true, bne_self_eq_false]
  rw [h3]
  simp only [SB, Nat.reduceAdd, NT, beq_self_eq_true, bne_self_eq_false]
  rw [h4]
  simp only [SB, Nat.reduceAdd, NT, beq_self_eq_true, bne_self_eq_false]
  rw [h5]
  simp only [SB, Nat.reduceAdd, NT, beq_self_eq_true, bne_self_eq_false]
  rw [h6]
  simp only [SB, Nat.reduceAdd, NT, beq_self_eq_true, bne_self_eq_false]
  rw [h7]
  simp only [SB, Nat.reduceAdd, NT, beq_self_eq_true, bne_self_eq_false]
  rw [h8]
  simp only [SB, Nat.reduceAdd, NT, beq_self_eq_true, bne_self_eq_false]
  rw [hN]
  simp only [SB, Nat.reduceAdd, NT, beq_self_eq_true, bne_self_eq_false]
  rw [hx]
  simp only [SB, Nat.reduceAdd, NT, beq_self_eq_true, bne_self_eq_false]
  rw [w64 (n := j + 1) (by omega)]

theorem x4 {L : List Int} (hL : L.length ≤ 600) {able l a m1 m2 : List Int} {n : Int} {s1 s2 s3 y : Shp} {ld f1 f2 f : Int × Int × Int} {yi ai : Int} {k : Nat} (hk : k ≤ 600) (hs : ThinS y) (ha : a.length ≤ 1000) :
    ∃ k' : Nat, k' ≤ 600 ∧ lp E (denC E) 3 0 [] 4 { vals := [AV.sl 1 (intsK .i64 able), AV.sl 1 (intsK .i64 l), AV.int .i64 n, AV.sl 1 (intsK .i64 a), AV.agg [PV.int .i64 s1.bw, PV.int .i64 s1.sn, PV.sl 6 (thK s1.ts), PV.int .i64 s2.bw, PV.int .i64 s2.sn, PV.sl 6 (thK s2.ts), PV.int .i64 s3.bw, PV.int .i64 s3.sn, PV.sl 6 (thK s3.ts)], AV.int .i64 yi, AV.agg [PV.sl 1 (intsK .i64 m1), PV.sl 1 (intsK .i64 m2)], AV.int .i64 ai, AV.agg [PV.int .i64 f1.1, PV.int .i64 f1.2.1, PV.int .i64 f1.2.2, PV.int .i64 f2.1, PV.int .i64 f2.2.1, PV.int .i64 f2.2.2], AV.int .i64 0], blks := [Blk.box [AV.int .i64 ld.1, AV.int .i64 ld.2.1, AV.int .i64 ld.2.2], src L k, Blk.box [AV.int .i64 y.bw, AV.int .i64 y.sn, AV.sl 6 (thK y.ts)]] } =
      some (Ex.exit 4, { vals := [AV.sl 1 (intsK .i64 able), AV.sl 1 (intsK .i64 l), AV.int .i64 n, AV.sl 1 (intsK .i64 a), AV.agg [PV.int .i64 s1.bw, PV.int .i64 s1.sn, PV.sl 6 (thK s1.ts), PV.int .i64 s2.bw, PV.int .i64 s2.sn, PV.sl 6 (thK s2.ts), PV.int .i64 s3.bw, PV.int .i64 s3.sn, PV.sl 6 (thK s3.ts)], AV.int .i64 yi, AV.agg [PV.sl 1 (intsK .i64 m1), PV.sl 1 (intsK .i64 m2)], AV.int .i64 ai], blks := [Blk.box [AV.int .i64 ld.1, AV.int .i64 ld.2.1, AV.int .i64 ld.2.2], src L k', Blk.box [AV.int .i64 y.bw, AV.int .i64 y.sn, AV.sl 6 (thK y.ts)]] }) := by
  obtain ⟨k1, h1, e1⟩ := x4_round (f := f1) (yi := yi) (ai := ai) (s1 := s1) (s2 := s2) (s3 := s3) (ld := ld) (f1 := f1) (f2 := f2) (able := able) (l := l) (m1 := m1) (m2 := m2) (n := n) (j := 0) hL hk hs ha (by omega) (fun K => rfl)
  obtain ⟨k2, h2, e2⟩ := x4_round (f := f2) (yi := yi) (ai := ai) (s1 := s1) (s2 := s2) (s3 := s3) (ld := ld) (f1 := f1) (f2 := f2) (able := able) (l := l) (m1 := m1) (m2 := m2) (n := n) (j := 0 + 1) hL h1 hs ha (by omega) (fun K => rfl)
  refine ⟨k2, h2, ?_⟩
  rw [e1, e2, r3_4, show ltB (0 + 1 + 1) 2 = false from rfl, ctl_false]

theorem x2_round {L : List Int} (hL : L.length ≤ 600) {able l a m1 m2 : List Int} {n : Int} {s1 s2 s3 y : Shp} {ld f1 f2 f : Int × Int × Int} {yi j : Int} {k : Nat} (hk : k ≤ 600) (hs : ThinS y) (ha : a.length ≤ 1000) (hll : l.length ≤ 1000) (hj : 0 ≤ j ∧ j < 2) (hg : ∀ (K : List PV → Option (Ex × Pack)), getE [[PV.sl 1 (intsK .i64 m1)], [PV.sl 1 (intsK .i64 m2)]] j K = K [PV.sl 1 (intsK .i64 a)]) :
    ∃ k' : Nat, k' ≤ 600 ∧ lp E (denC E) 3 0 [] 2 { vals := [AV.sl 1 (intsK .i64 able), AV.sl 1 (intsK .i64 l), AV.int .i64 n, AV.agg [PV.int .i64 s1.bw, PV.int .i64 s1.sn, PV.sl 6 (thK s1.ts), PV.int .i64 s2.bw, PV.int .i64 s2.sn, PV.sl 6 (thK s2.ts), PV.int .i64 s3.bw, PV.int .i64 s3.sn, PV.sl 6 (thK s3.ts)], AV.int .i64 yi, AV.agg [PV.sl 1 (intsK .i64 m1), PV.sl 1 (intsK .i64 m2)], AV.int .i64 j], blks := [Blk.box [AV.int .i64 ld.1, AV.int .i64 ld.2.1, AV.int .i64 ld.2.2], src L k, Blk.box [AV.int .i64 y.bw, AV.int .i64 y.sn, AV.sl 6 (thK y.ts)]] } =
      lp E (denC E) 3 0 [] 2 { vals := [AV.sl 1 (intsK .i64 able), AV.sl 1 (intsK .i64 l), AV.int .i64 n, AV.agg [PV.int .i64 s1.bw, PV.int .i64 s1.sn, PV.sl 6 (thK s1.ts), PV.int .i64 s2.bw, PV.int .i64 s2.sn, PV.sl 6 (thK s2.ts), PV.int .i64 s3.bw, PV.int .i64 s3.sn, PV.sl 6 (thK s3.ts)], AV.int .i64 yi, AV.agg [PV.sl 1 (intsK .i64 m1), PV.sl 1 (intsK .i64 m2)], AV.int .i64 (j + 1)], blks := [Blk.box [AV.int .i64 ld.1, AV.int .i64 ld.2.1, AV.int .i64 ld.2.2], src L k', Blk.box [AV.int .i64 y.bw, AV.int .i64 y.sn, AV.sl 6 (thK y.ts)]] } := by
  have e : ltB j 2 = true := by simp only [decide_eq_true_eq]; omega
  obtain ⟨g, k1, hF, _, hk1⟩ := c_Force hL hk
  obtain ⟨k2, hk2, hx⟩ := x4 (y := y) (s1 := s1) (s2 := s2) (s3 := s3) (ld := ld) (f1 := g) (f2 := ld) (f := f) (able := able) (l := l) (a := a) (m1 := m1) (m2 := m2) (n := n) (yi := yi) (ai := j) hL hk1 hs ha
  have hN := c_N hL hk2 60 (by omega)
  have hb := vN_bounds (L := L) (k := k2) (n := 60) (by omega)
  have hx8 := x8 (y := y) (s1 := s1) (s2 := s2) (s3 := s3) (ld := ld) (f1 := f1) (f2 := f2) (f := f) (able := able) (l := l) (a := a) (m1 := m1) (m2 := m2) (n := n) (yi := yi) (ai := j) (p0 := n) (p1 := 1 + vN L k2 60) (k := _root_.Go.Proofs.YtclplmjlolpfbaaGreat.Vm.at' L k2) hL hs ha
  have hW := c_Without (a := a) (l := l) ha hll
  have hWR := c_WithoutR (a := a) (l := l) ha hll
  have hI := c_Ints (wo a l) (wo a l) (by rw [wo_length]; omega)
  rw [decide_eq_true rfl] at hI
  refine ⟨_root_.Go.Proofs.YtclplmjlolpfbaaGreat.Vm.at' L k2, at'_le hL hk2, ?_⟩
  rw [r3_2, e, ctl_true, hg]
  simp only [SB, Nat.reduceAdd, NT, beq_self_eq_true, bne_self_eq_false]
  rw [hF]
  simp only [SB, Nat.reduceAdd, NT, beq_self_eq_true, bne_self_eq_false]
  rw [hx]
  simp only [SB, Nat.reduceAdd, NT, beq_self_eq_true, bne_self_eq_false]
  rw [hN]
  simp only [SB, Nat.reduceAdd, NT, beq_self_eq_true, bne_self_eq_false]
  rw [w64 (n := 1 + vN L k2 60) (by omega), hx8]
  simp only [SB, Nat.reduceAdd, NT, beq_self_eq_true, bne_self_eq_false]
  rw [hW]
  simp only [SB, Nat.reduceAdd, NT, beq_self_eq_true, bne_self_eq_false]
  rw [hWR]
  simp only [SB, Nat.reduceAdd, NT, beq_self_eq_true, bne_self_eq_false]
  rw [hI]
  simp only [SB, Nat.reduceAdd, NT, beq_self_eq_true, bne_self_eq_false]
  rw [w64 (n := j + 1) (by omega)]

theorem x2 {L : List Int} (hL : L.length ≤ 600) {able l a m1 m2 : List Int} {n : Int} {s1 s2 s3 y : Shp} {ld f1 f2 f : Int × Int × Int} {yi : Int} {k : Nat} (hk : k ≤ 600) (hs : ThinS y) (h1 : m1.length ≤ 1000) (h2 : m2.length ≤ 1000) (hll : l.length ≤ 1000) :
    ∃ k' : Nat, k' ≤ 600 ∧ lp E (denC E) 3 0 [] 2 { vals := [AV.sl 1 (intsK .i64 able), AV.sl 1 (intsK .i64 l), AV.int .i64 n, AV.agg [PV.int .i64 s1.bw, PV.int .i64 s1.sn, PV.sl 6 (thK s1.ts), PV.int .i64 s2.bw, PV.int .i64 s2.sn, PV.sl 6 (thK s2.ts), PV.int .i64 s3.bw, PV.int .i64 s3.sn, PV.sl 6 (thK s3.ts)], AV.int .i64 yi, AV.agg [PV.sl 1 (intsK .i64 m1), PV.sl 1 (intsK .i64 m2)], AV.int .i64 0], blks := [Blk.box [AV.int .i64 ld.1, AV.int .i64 ld.2.1, AV.int .i64 ld.2.2], src L k, Blk.box [AV.int .i64 y.bw, AV.int .i64 y.sn, AV.sl 6 (thK y.ts)]] } =
      some (Ex.exit 2, { vals := [AV.sl 1 (intsK .i64 able), AV.sl 1 (intsK .i64 l), AV.int .i64 n, AV.agg [PV.int .i64 s1.bw, PV.int .i64 s1.sn, PV.sl 6 (thK s1.ts), PV.int .i64 s2.bw, PV.int .i64 s2.sn, PV.sl 6 (thK s2.ts), PV.int .i64 s3.bw, PV.int .i64 s3.sn, PV.sl 6 (thK s3.ts)], AV.int .i64 yi], blks := [Blk.box [AV.int .i64 ld.1, AV.int .i64 ld.2.1, AV.int .i64 ld.2.2], src L k'] }) := by
  obtain ⟨k1, g1, e1⟩ := x2_round (a := m1) (y := y) (s1 := s1) (s2 := s2) (s3 := s3) (ld := ld) (f1 := f1) (f2 := f2) (f := f) (able := able) (l := l) (m1 := m1) (m2 := m2) (n := n) (yi := yi) (j := 0) hL hk hs h1 hll (by omega) (fun K => rfl)
  obtain ⟨k2, g2, e2⟩ := x2_round (a := m2) (y := y) (s1 := s1) (s2 := s2) (s3 := s3) (ld := ld) (f1 := f1) (f2 := f2) (f := f) (able := able) (l := l) (m1 := m1) (m2 := m2) (n := n) (yi := yi) (j := 0 + 1) hL g1 hs h2 hll (by omega) (fun K => rfl)
  refine ⟨k2, g2, ?_⟩
  rw [e1, e2, r3_2, show ltB (0 + 1 + 1) 2 = false from rfl, ctl_false]

theorem x0_round {L : List Int} (hL : L.length ≤ 600) {able l a m1 m2 : List Int} {n : Int} {s1 s2 s3 y : Shp} {ld f1 f2 f : Int × Int × Int} {j : Int} {k : Nat} (hk : k ≤ 600) (hs : ThinS y) (hA : able.length ≤ 1000) (hll : l.length ≤ 1000) (hj : 0 ≤ j ∧ j < 3) (hg : ∀ (K : List PV → Option (Ex × Pack)), getE [[PV.int .i64 s1.bw, PV.int .i64 s1.sn, PV.sl 6 (thK s1.ts)], [PV.int .i64 s2.bw, PV.int .i64 s2.sn, PV.sl 6 (thK s2.ts)], [PV.int .i64 s3.bw, PV.int .i64 s3.sn, PV.sl 6 (thK s3.ts)]] j K = K [PV.int .i64 y.bw, PV.int .i64 y.sn, PV.sl 6 (thK y.ts)]) :
    ∃ k' : Nat, k' ≤ 600 ∧ lp E (denC E) 3 0 [] 0 { vals := [AV.sl 1 (intsK .i64 able), AV.sl 1 (intsK .i64 l), AV.int .i64 n, AV.agg [PV.int .i64 s1.bw, PV.int .i64 s1.sn, PV.sl 6 (thK s1.ts), PV.int .i64 s2.bw, PV.int .i64 s2.sn, PV.sl 6 (thK s2.ts), PV.int .i64 s3.bw, PV.int .i64 s3.sn, PV.sl 6 (thK s3.ts)], AV.int .i64 j], blks := [Blk.box [AV.int .i64 ld.1, AV.int .i64 ld.2.1, AV.int .i64 ld.2.2], src L k] } =
      lp E (denC E) 3 0 [] 0 { vals := [AV.sl 1 (intsK .i64 able), AV.sl 1 (intsK .i64 l), AV.int .i64 n, AV.agg [PV.int .i64 s1.bw, PV.int .i64 s1.sn, PV.sl 6 (thK s1.ts), PV.int .i64 s2.bw, PV.int .i64 s2.sn, PV.sl 6 (thK s2.ts), PV.int .i64 s3.bw, PV.int .i64 s3.sn, PV.sl 6 (thK s3.ts)], AV.int .i64 (j + 1)], blks := [Blk.box [AV.int .i64 ld.1, AV.int .i64 ld.2.1, AV.int .i64 ld.2.2], src L k'] } := by
  have e : ltB j 3 = true := by simp only [decide_eq_true_eq]; omega
  obtain ⟨ms, k1, hM, m1', m2', hk1⟩ := c_MostL hL hk y hs.1
  obtain ⟨k2, hk2, hx⟩ := x2 (y := y) (s1 := s1) (s2 := s2) (s3 := s3) (ld := ld) (f1 := f1) (f2 := f2) (f := f) (a := a) (able := able) (l := l) (m1 := ms) (m2 := able) (n := n) (yi := j) hL hk1 hs (by have := hs.1; omega) hA hll
  refine ⟨k2, hk2, ?_⟩
  unfold shpC at hM
  rw [r3_0, e, ctl_true, hg]
  simp only [SB, Nat.reduceAdd, NT, beq_self_eq_true, bne_self_eq_false]
  rw [hM]
  simp only [SB, Nat.reduceAdd, NT, beq_self_eq_true, bne_self_eq_false]
  rw [hx]
  simp only [SB, Nat.reduceAdd, NT, beq_self_eq_true, bne_self_eq_false]
  rw [w64 (n := j + 1) (by omega)]

theorem x0 {L : List Int} (hL : L.length ≤ 600) {able l a m1 m2 : List Int} {n : Int} {s1 s2 s3 y : Shp} {ld f1 f2 f : Int × Int × Int} {k : Nat} (hk : k ≤ 600) (hs1 : ThinS s1) (hs2 : ThinS s2) (hs3 : ThinS s3) (hA : able.length ≤ 1000) (hll : l.length ≤ 1000) :
    lp E (denC E) 3 0 [] 0 { vals := [AV.sl 1 (intsK .i64 able), AV.sl 1 (intsK .i64 l), AV.int .i64 n, AV.agg [PV.int .i64 s1.bw, PV.int .i64 s1.sn, PV.sl 6 (thK s1.ts), PV.int .i64 s2.bw, PV.int .i64 s2.sn, PV.sl 6 (thK s2.ts), PV.int .i64 s3.bw, PV.int .i64 s3.sn, PV.sl 6 (thK s3.ts)], AV.int .i64 0], blks := [Blk.box [AV.int .i64 ld.1, AV.int .i64 ld.2.1, AV.int .i64 ld.2.2], src L k] } =
      some (Ex.exit 0, { vals := [], blks := [] }) := by
  obtain ⟨k1, g1, e1⟩ := x0_round (y := s1) (s1 := s1) (s2 := s2) (s3 := s3) (ld := ld) (f1 := f1) (f2 := f2) (f := f) (a := a) (m1 := m1) (m2 := m2) (able := able) (l := l) (n := n) (j := 0) hL hk hs1 hA hll (by omega) (fun K => rfl)
  obtain ⟨k2, g2, e2⟩ := x0_round (y := s2) (s1 := s1) (s2 := s2) (s3 := s3) (ld := ld) (f1 := f1) (f2 := f2) (f := f) (a := a) (m1 := m1) (m2 := m2) (able := able) (l := l) (n := n) (j := 0 + 1) hL g1 hs2 hA hll (by omega) (fun K => rfl)
  obtain ⟨k3, g3, e3⟩ := x0_round (y := s3) (s1 := s1) (s2 := s2) (s3 := s3) (ld := ld) (f1 := f1) (f2 := f2) (f := f) (a := a) (m1 := m1) (m2 := m2) (able := able) (l := l) (n := n) (j := 0 + 1 + 1) hL g2 hs3 hA hll (by omega) (fun K => rfl)
  rw [e1, e2, e3, r3_0, show ltB (0 + 1 + 1 + 1) 3 = false from rfl, ctl_false]

end Go.Proofs.YtclplmjlolpfbaaGreat.Vm
