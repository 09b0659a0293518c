/- The law CapabilityExact comes to true. -/
import Derived.Test.YtclplmjlolpfbaaGreatCapE
namespace Go.Proofs.YtclplmjlolpfbaaGreat.Vm
set_option linter.unusedVariables false
set_option linter.unusedSimpArgs false

def thinT (t : Thr) : Bool := !(ltB 6 (t.fb.length : Int) || (ltB 2000 t.mx && leB t.mx 5000))

def thinB (s : Shp) : Bool := s.ts.all thinT && leB (s.ts.length : Int) 10

theorem thinB_thin {s : Shp} (h : thinB s = true) : ThinS s := by
  unfold thinB at h
  simp only [Bool.and_eq_true, List.all_eq_true, decide_eq_true_eq] at h
  refine ⟨by omega, fun t ht => ?_⟩
  have := h.1 t ht
  unfold thinT at this
  simp only [Bool.not_eq_true', Bool.or_eq_false_iff, decide_eq_false_iff_not] at this
  omega

theorem thin_loop (bl : Blk) (bw sn : Int) (TS : List (List PV)) (hbl : bl = Blk.box [AV.int .i64 bw, AV.int .i64 sn, AV.sl 6 TS]) : ∀ (l p : List Thr), (p ++ l).length ≤ maxLen →
    lp E (denC E) 4 0 [] 0 { vals := [AV.sl 6 (thK (p ++ l)), AV.int .i64 ((p ++ l).length : Int), AV.int .i64 (p.length : Int)], blks := [bl] } =
      ctl (l.all thinT) (some (Ex.exit 0, { vals := [], blks := [bl] })) (some (Ex.ret, { vals := [AV.bool false], blks := [] }))
  | [], p, h => by
    rw [hbl, r4_0, ctl_dec, if_neg (by simp)]
    rfl
  | s :: l, p, h => by
    have hm : maxLen ≤ 9223372036854775807 := by decide
    have ih := thin_loop bl bw sn TS hbl l (p ++ [s]) (by simp at h ⊢; omega)
    simp only [List.length_append, List.length_cons] at h
    simp only [List.append_assoc, List.cons_append, List.nil_append, List.length_append, List.length_cons, List.length_nil] at ih
    rw [hbl] at ih ⊢
    have e0 : (s :: l).all thinT = (thinT s && l.all thinT) := rfl
    rw [e0, r4_0, ctl_dec, if_pos (by simp; omega), getE_th]
    unfold thC
    simp only [List.length_append, List.length_cons, SB, Nat.reduceAdd, arcK_length]
    rw [w64 (n := (p.length : Int) + 1) (by omega)]
    have e1 : ((p.length : Int) + 1) = ((p.length + (0 + 1) : Nat) : Int) := by omega
    rw [e1, ih]
    unfold thinT
    cases ltB 6 (s.fb.length : Int) <;> cases ltB 2000 s.mx <;> cases leB s.mx 5000 <;> simp only [SB, Nat.reduceAdd, Bool.false_and, Bool.and_false, Bool.true_or, Bool.or_true, Bool.or_self]

theorem c_Thin {s : Shp} (h : s.ts.length ≤ maxLen) : denC E 4 [AV.agg (shpC s)] [] = some ([RV.p (PV.bool (thinB s))], []) := by
  have hl := thin_loop _ s.bw s.sn (thK s.ts) rfl s.ts [] (by simpa using h)
  simp only [List.nil_append, List.length_nil] at hl
  have e0 : (((0 : Nat)) : Int) = 0 := rfl
  rw [e0] at hl
  unfold shpC thinB
  rw [denC_eq, r4, thK_length, hl]
  cases s.ts.all thinT <;> simp only [SB, Nat.reduceAdd, thK_length, Bool.false_and]

theorem heavy_loop : ∀ (l p : List Thr) (v : Int), (p ++ l).length ≤ 1000 → ∃ u : Int,
    lp E (denC E) 5 0 [] 0 { vals := [AV.int .i64 v, AV.sl 6 (thK (p ++ l)), AV.int .i64 ((p ++ l).length : Int), AV.int .i64 (p.length : Int)], blks := [] } = some (Ex.exit 0, { vals := [AV.int .i64 u], blks := [] })
  | [], p, v, h => by
    refine ⟨v, ?_⟩
    rw [r5_0, ctl_dec, if_neg (by simp)]
  | s :: l, p, v, h => by
    obtain ⟨u, ih⟩ := heavy_loop l (p ++ [s]) (IntKind.i64.wrap (v + minI 5000 (maxI 0 s.mx))) (by simp at h ⊢; omega)
    simp only [List.length_append, List.length_cons] at h
    simp only [List.append_assoc, List.cons_append, List.nil_append, List.length_append, List.length_cons, List.length_nil] at ih
    refine ⟨u, ?_⟩
    rw [r5_0, ctl_dec, if_pos (by simp; omega), getE_th]
    unfold thC
    simp only [List.length_append, List.length_cons, SB, Nat.reduceAdd]
    rw [w64 (n := (p.length : Int) + 1) (by omega)]
    have e1 : ((p.length : Int) + 1) = ((p.length + (0 + 1) : Nat) : Int) := by omega
    rw [e1, ih]

theorem c_heavy {s : Shp} (h : s.ts.length ≤ 1000) : ∃ b : Bool, denC E 5 [AV.agg (shpC s)] [] = some ([RV.p (PV.bool b)], []) := by
  obtain ⟨u, hl⟩ := heavy_loop s.ts [] 0 (by simpa using h)
  simp only [List.nil_append, List.length_nil] at hl
  have e0 : (((0 : Nat)) : Int) = 0 := rfl
  rw [e0] at hl
  refine ⟨ltB 400 u, ?_⟩
  unfold shpC
  rw [denC_eq, r5, thK_length, hl]
  simp only [SB, Nat.reduceAdd]

theorem ft_Shp : fty Tryz.prog 25 = [3, 3, 23] := by kernel_rfl

theorem ft_Thr : fty Tryz.prog 35 = [3, 3, 3, 3, 3, 33] := by kernel_rfl

theorem ft_Arc : fty Tryz.prog 65 = [3, 3] := by kernel_rfl

theorem ft_For : fty Tryz.prog 27 = [3, 3, 3] := by kernel_rfl

theorem un_int : Tryz.prog.underlying 3 = some (.int .i64) := by kernel_rfl

theorem un_arcs : Tryz.prog.underlying 33 = some (.slice 65) := by kernel_rfl

theorem un_thrs : Tryz.prog.underlying 23 = some (.slice 35) := by kernel_rfl

theorem ce_arc : Tryz.prog.cellsOf 65 = 2 := by kernel_rfl

theorem ce_thr : Tryz.prog.cellsOf 35 = 6 := by kernel_rfl

set_option maxRecDepth 100000 in
theorem arcs_of {k : Nat} : ∀ {es : List (List PV)}, (∀ x ∈ es, WFc Tryz.prog (k + 2) 65 x) → ∃ l : List (Int × Int), es = arcK l
  | [], _ => ⟨[], rfl⟩
  | x :: es, h => by
    obtain ⟨l, rfl⟩ := arcs_of (k := k) (es := es) fun y hy => h y (List.mem_cons_of_mem _ hy)
    obtain ⟨xs, rfl, hx⟩ := wfc_flds ft_Arc (h x (List.mem_cons_self ..))
    obtain ⟨x0, xs0, rfl, h0, k0⟩ := all2_cons hx
    obtain ⟨x1, xs1, rfl, h1, k1⟩ := all2_cons k0
    obtain rfl := all2_nil k1
    obtain ⟨c0, rfl, _⟩ := wfc_int un_int h0
    obtain ⟨c1, rfl, _⟩ := wfc_int un_int h1
    exact ⟨(c0, c1) :: l, rfl⟩

set_option maxRecDepth 100000 in
theorem thr_of {k : Nat} {xs : List (List PV)} (hx : All2 (WFc Tryz.prog (k + 4)) [3, 3, 3, 3, 3, 33] xs) : ∃ t : Thr, xs.flatten = thC t := by
  obtain ⟨x0, xs0, rfl, h0, k0⟩ := all2_cons hx
  obtain ⟨x1, xs1, rfl, h1, k1⟩ := all2_cons k0
  obtain ⟨x2, xs2, rfl, h2, k2⟩ := all2_cons k1
  obtain ⟨x3, xs3, rfl, h3, k3⟩ := all2_cons k2
  obtain ⟨x4, xs4, rfl, h4, k4⟩ := all2_cons k3
  obtain ⟨x5, xs5, rfl, h5, k5⟩ := all2_cons k4
  obtain rfl := all2_nil k5
  obtain ⟨c0, rfl, _⟩ := wfc_int un_int h0
  obtain ⟨c1, rfl, _⟩ := wfc_int un_int h1
  obtain ⟨c2, rfl, _⟩ := wfc_int un_int h2
  obtain ⟨c3, rfl, _⟩ := wfc_int un_int h3
  obtain ⟨c4, rfl, _⟩ := wfc_int un_int h4
  obtain ⟨es, rfl, h6, h7⟩ := wfc_sl un_arcs h5
  obtain ⟨l, rfl⟩ := arcs_of (k := k + 1) h7
  refine ⟨⟨c0, c1, c2, c3, c4, l⟩, ?_⟩
  unfold thC
  rw [ce_arc]
  rfl

set_option maxRecDepth 100000 in
theorem thrs_of {k : Nat} : ∀ {es : List (List PV)}, (∀ x ∈ es, WFc Tryz.prog (k + 5) 35 x) → ∃ l : List Thr, es = thK l
  | [], _ => ⟨[], rfl⟩
  | x :: es, h => by
    obtain ⟨l, rfl⟩ := thrs_of (k := k) (es := es) fun y hy => h y (List.mem_cons_of_mem _ hy)
    obtain ⟨xs, rfl, hx⟩ := wfc_flds ft_Thr (h x (List.mem_cons_self ..))
    obtain ⟨t, ht⟩ := thr_of hx
    exact ⟨t :: l, by rw [ht]; rfl⟩

set_option maxRecDepth 100000 in
theorem in_Shp {a : AV} (h : WFA Tryz.prog 25 a) : ∃ s : Shp, a = AV.agg (shpC s) ∧ s.ts.length ≤ maxLen := by
  obtain ⟨xs, rfl, hx⟩ := wfa_flds ft_Shp h
  obtain ⟨x0, xs0, rfl, h0, k0⟩ := all2_cons hx
  obtain ⟨x1, xs1, rfl, h1, k1⟩ := all2_cons k0
  obtain ⟨x2, xs2, rfl, h2, k2⟩ := all2_cons k1
  obtain rfl := all2_nil k2
  obtain ⟨c0, rfl, _⟩ := wfc_int un_int h0
  obtain ⟨c1, rfl, _⟩ := wfc_int un_int h1
  obtain ⟨es, rfl, h6, h7⟩ := wfc_sl un_thrs h2
  obtain ⟨l, rfl⟩ := thrs_of (k := 5) h7
  rw [thK_length] at h6
  refine ⟨⟨c0, c1, l⟩, ?_, h6⟩
  unfold shpC
  rw [ce_thr]
  rfl

set_option maxRecDepth 100000 in
theorem in_For {a : AV} (h : WFA Tryz.prog 27 a) : ∃ f : Int × Int × Int, a = AV.agg [PV.int .i64 f.1, PV.int .i64 f.2.1, PV.int .i64 f.2.2] := by
  obtain ⟨xs, rfl, hx⟩ := wfa_flds ft_For h
  obtain ⟨x0, xs0, rfl, h0, k0⟩ := all2_cons hx
  obtain ⟨x1, xs1, rfl, h1, k1⟩ := all2_cons k0
  obtain ⟨x2, xs2, rfl, h2, k2⟩ := all2_cons k1
  obtain rfl := all2_nil k2
  obtain ⟨c0, rfl, _⟩ := wfc_int un_int h0
  obtain ⟨c1, rfl, _⟩ := wfc_int un_int h1
  obtain ⟨c2, rfl, _⟩ := wfc_int un_int h2
  exact ⟨(c0, c1, c2), rfl⟩

theorem d_CapabilityExact (t : List Int) (_ : t.length ≤ maxLen) (_ : ∀ n ∈ t, -9223372036854775808 ≤ n ∧ n ≤ 9223372036854775807) (raw : AV) (hraw : WFA Tryz.prog 25 raw) (load : AV) (hload : WFA Tryz.prog 27 load)
    (able : List Int) (_ : able.length ≤ maxLen) (_ : ∀ n ∈ able, -9223372036854775808 ≤ n ∧ n ≤ 9223372036854775807) (l : List Int) (_ : l.length ≤ maxLen) (_ : ∀ n ∈ l, -9223372036854775808 ≤ n ∧ n ≤ 9223372036854775807) (n : Int) (_ : -9223372036854775808 ≤ n ∧ n ≤ 9223372036854775807) :
    denC E 3 [AV.sl 1 (intsK .i64 t), raw, load, AV.sl 1 (intsK .i64 able), AV.sl 1 (intsK .i64 l), AV.int .i64 n] [] = some ([RV.p (PV.bool true)], []) := by
  obtain ⟨r, rfl, hrm⟩ := in_Shp hraw
  obtain ⟨ld, rfl⟩ := in_For hload
  have hT := c_Thin hrm
  unfold shpC at hT ⊢
  rw [denC_eq, r3, c_New, intsK_length, intsK_length, intsK_length, c_sane, hT]
  try simp only [SB, Nat.reduceAdd, Bool.true_or, Bool.or_true]
  cases h1 : ltB 600 (t.length : Int) with
  | true => try simp only [SB, Nat.reduceAdd, Bool.true_or, Bool.or_true]
  | false =>
  try simp only [SB, Nat.reduceAdd, Bool.true_or, Bool.or_true]
  cases h2 : thinB r with
  | false => try simp only [SB, Nat.reduceAdd, Bool.true_or, Bool.or_true]
  | true =>
  have hrt := thinB_thin h2
  obtain ⟨b, hH⟩ := c_heavy hrt.1
  unfold shpC at hH
  try simp only [SB, Nat.reduceAdd, Bool.true_or, Bool.or_true]
  rw [hH]
  try simp only [SB, Nat.reduceAdd, Bool.true_or, Bool.or_true]
  cases b with
  | true => try simp only [SB, Nat.reduceAdd, Bool.true_or, Bool.or_true]
  | false =>
  try simp only [SB, Nat.reduceAdd, Bool.true_or, Bool.or_true]
  cases h3 : ltB 12 (able.length : Int) with
  | true => try simp only [SB, Nat.reduceAdd, Bool.true_or, Bool.or_true]
  | false =>
  try simp only [SB, Nat.reduceAdd, Bool.true_or, Bool.or_true]
  cases h4 : ltB 12 (l.length : Int) with
  | true => try simp only [SB, Nat.reduceAdd, Bool.true_or, Bool.or_true]
  | false =>
  simp only [decide_eq_false_iff_not] at h1 h3 h4
  have hL : (t.take 600).length ≤ 600 := by simp; omega
  generalize t.take 600 = L at hL
  have h0 : (0 : Nat) ≤ 600 := by omega
  obtain ⟨s, k1, hS, hs, hk1⟩ := c_Ship hL h0 (most := 3) (by omega)
  have hsl := hs.2.2.2.2.1
  have hst : ThinS s := ⟨by omega, fun t ht => by have := (hs.2.2.2.2.2 t ht).2.2.2.2.2.2.2.2.2.2.1; omega⟩
  have e3 : ((3 : Nat) : Int) = 3 := rfl
  rw [e3] at hS
  unfold shpC at hS
  simp only [SB, Nat.reduceAdd]
  rw [src_zero, hS]
  simp only [SB, Nat.reduceAdd, thK_length]
  obtain ⟨bw, sn, ts⟩ := s
  cases ts with
  | nil =>
    have ea : thK [] = [] := rfl
    have f0 : ltB 0 ((([] : List Thr).length : Nat) : Int) = false := rfl
    have hT2 := c_Thin (s := ⟨bw, sn, []⟩) (by simp)
    have hx := x0 (ld := ld) (able := able) (l := l) (a := able) (m1 := able) (m2 := able) (n := n) (s1 := ⟨bw, sn, []⟩) (s2 := ⟨bw, sn, []⟩) (s3 := r) (y := r) (f1 := ld) (f2 := ld) (f := ld) hL hk1 hst hst hrt (by omega) (by omega)
    unfold shpC at hT2
    simp only at hT2 hx ⊢
    rw [f0]
    simp only [SB, Nat.reduceAdd]
    rw [hT2]
    simp only [SB, Nat.reduceAdd]
    rw [hx]
    simp only [SB, Nat.reduceAdd]
    cases thinB ⟨bw, sn, []⟩ <;> simp only [SB, Nat.reduceAdd]
  | cons v ts =>
    have f0 : ltB 0 (((v :: ts).length : Nat) : Int) = true := by simp only [List.length_cons, decide_eq_true_eq]; omega
    obtain ⟨u, k2, hB, hu, hk2⟩ := c_Bent hL hk1 (t := v) (by have := (hs.2.2.2.2.2 v (List.mem_cons_self ..)).2.2.2.2.2.2.2.2.2.2.1; omega)
    simp only [List.length_cons] at hsl
    have hg : ∀ (K : List PV → Option Res), getE (thK (v :: ts)) 0 K = K (thC v) := fun K => by have := getE_th [] v ts K; simpa using this
    have hc : cutI (thK (v :: ts)) 1 (((v :: ts).length : Nat) : Int) = thK ts := by
      unfold cutI
      rw [Int.toNat_natCast, ← thK_length, List.take_length]
      rfl
    have hbt : ThinS ⟨bw, sn, u :: ts⟩ := ⟨by simp only [List.length_cons]; omega, fun x hx => by
      rcases List.mem_cons.1 hx with rfl | hx
      · omega
      · exact hst.2 x (List.mem_cons_of_mem _ hx)⟩
    have hT2 := c_Thin (s := ⟨bw, sn, u :: ts⟩) (by simp only [List.length_cons]; have : 1000 ≤ maxLen := (by decide); omega)
    have hx1 := x0 (ld := ld) (able := able) (l := l) (a := able) (m1 := able) (m2 := able) (n := n) (s1 := ⟨bw, sn, v :: ts⟩) (s2 := ⟨bw, sn, v :: ts⟩) (s3 := r) (y := r) (f1 := ld) (f2 := ld) (f := ld) hL hk2 hst hst hrt (by omega) (by omega)
    have hx2 := x0 (ld := ld) (able := able) (l := l) (a := able) (m1 := able) (m2 := able) (n := n) (s1 := ⟨bw, sn, v :: ts⟩) (s2 := ⟨bw, sn, u :: ts⟩) (s3 := r) (y := r) (f1 := ld) (f2 := ld) (f := ld) hL hk2 hst hbt hrt (by omega) (by omega)
    have g1 : leB 1 (((v :: ts).length : Nat) : Int) = true := by simp only [List.length_cons, decide_eq_true_eq]; omega
    have g2 : leB (((v :: ts).length : Nat) : Int) (((v :: ts).length : Nat) : Int) = true := by simp
    have g3 : leN ((1 + ts.length) * 64) 140737488355328 = true := by simp only [decide_eq_true_eq]; omega
    have ek : thK (u :: ts) = [thC u] ++ thK ts := rfl
    unfold thC at hB
    unfold shpC at hT2
    simp only at hT2 hx1 hx2 ⊢
    rw [ek] at hT2 hx2
    unfold thC at hT2 hx2
    rw [f0, ctl_true, hg]
    unfold thC
    simp only [SB, Nat.reduceAdd]
    rw [hB]
    simp only [SB, Nat.reduceAdd, thK_length, g1, g2, hc, g3]
    rw [hT2]
    simp only [SB, Nat.reduceAdd]
    cases thinB ⟨bw, sn, u :: ts⟩ with
    | true =>
      simp only [SB, Nat.reduceAdd]
      rw [hx2]
      simp only [SB, Nat.reduceAdd]
    | false =>
      simp only [SB, Nat.reduceAdd]
      rw [hx1]
      simp only [SB, Nat.reduceAdd]

end Go.Proofs.YtclplmjlolpfbaaGreat.Vm
