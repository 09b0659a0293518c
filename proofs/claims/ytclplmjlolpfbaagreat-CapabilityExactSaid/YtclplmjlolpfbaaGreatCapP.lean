import Derived.Test.YtclplmjlolpfbaaGreatCapC
import Derived.Test.YtclplmjlolpfbaaGreatSectorX
import Derived.Test.YtclplmjlolpfbaaGreatShareG
/- Capability: what the functions come to for any ships, loads and greatest forces. -/
namespace Go.Proofs.YtclplmjlolpfbaaGreat.Vm
set_option linter.unusedVariables false
set_option linter.unusedSimpArgs false

def ThinS (s : Shp) : Prop := s.ts.length ≤ 1000 ∧ ∀ t ∈ s.ts, t.fb.length ≤ 1000

def okLev (s : Shp) : Bool := (leB 0 s.bw && (leB s.bw 200 && (leB 0 s.sn && leB s.sn 200))) && !(s.bw == 0 && s.sn == 0)

def chkS (s : Shp) : Int := bif ltB 8 (s.ts.length : Int) then 2 else bif okLev s then (bif s.ts.all okT then 0 else 14) else 1

theorem chkS_ok {s : Shp} (h : ThinS s) : chkS s = 0 ↔ OkShp s := by
  unfold chkS
  cases h1 : ltB 8 (s.ts.length : Int) with
  | true =>
    simp only [decide_eq_true_eq] at h1
    rw [cond_true]
    exact ⟨fun h => (by cases h), fun h => (by have := h.1; omega)⟩
  | false =>
    simp only [decide_eq_false_iff_not] at h1
    rw [cond_false]
    cases h2 : okLev s with
    | false =>
      rw [cond_false]
      refine ⟨fun h => (by cases h), fun h => ?_⟩
      obtain ⟨g1, g2, g3, g4, g5, g6, g7⟩ := h
      have : okLev s = true := by
        unfold okLev
        simp only [Bool.and_eq_true, decide_eq_true_eq, Bool.not_eq_true', Bool.and_eq_false_iff, beq_eq_false_iff_ne]
        omega
      rw [h2] at this; cases this
    | true =>
      rw [cond_true]
      unfold okLev at h2
      simp only [Bool.and_eq_true, decide_eq_true_eq, Bool.not_eq_true', Bool.and_eq_false_iff, beq_eq_false_iff_ne] at h2
      cases h3 : s.ts.all okT with
      | false =>
        rw [cond_false]
        refine ⟨fun h => (by cases h), fun h => ?_⟩
        have : s.ts.all okT = true := List.all_eq_true.2 fun t ht => (h.2.2.2.2.2.2 t ht).1
        rw [h3] at this; cases this
      | true =>
        rw [cond_true]
        refine ⟨fun _ => ⟨by omega, by omega, by omega, by omega, by omega, by omega, fun t ht => ⟨List.all_eq_true.1 h3 t ht, Nat.le_trans (h.2 t ht) (by decide)⟩⟩, fun _ => rfl⟩

theorem ixT_any : ∀ (l p : List Thr), (∀ t ∈ l, t.fb.length ≤ 1000) → (p ++ l).length ≤ 1000 → ∃ i : Int, 0 ≤ i ∧
    lp E (denC E) 104 0 [AV.undef, AV.fn 73 []] 0 { vals := [AV.sl 6 (thK (p ++ l)), AV.int .i64 ((p ++ l).length : Int), AV.int .i64 (p.length : Int)], blks := [] } =
      ctl (l.all okT) (some (Ex.exit 0, { vals := [], blks := [] })) (some (Ex.ret, { vals := [AV.int .i64 i], blks := [] }))
  | [], p, hs, h => by
    refine ⟨0, Int.le_refl _, ?_⟩
    rw [r104_0a, ctl_dec, if_neg (by simp)]
    rfl
  | s :: l, p, hs, h => by
    obtain ⟨i, hi, ih⟩ := ixT_any l (p ++ [s]) (fun t ht => hs t (List.mem_cons_of_mem _ ht)) (by simp at h ⊢; omega)
    simp only [List.length_append, List.length_cons] at h
    have hc := c_Chk1 (t := s) (Nat.le_trans (hs s (List.mem_cons_self ..)) (by decide))
    simp only [List.append_assoc, List.cons_append, List.nil_append, List.length_append, List.length_cons, List.length_nil] at ih
    have e0 : (s :: l).all okT = (okT s && l.all okT) := rfl
    rw [e0]
    cases hok : okT s with
    | false =>
      refine ⟨(p.length : Int), by omega, ?_⟩
      rw [hok] at hc
      unfold thC at hc
      rw [r104_0a, ctl_dec, if_pos (by simp; omega), getE_th]
      unfold thC
      simp only [List.length_append, List.length_cons, SB, Nat.reduceAdd]
      rw [hc]
      simp only [SB, Nat.reduceAdd, Bool.false_and]
    | true =>
      refine ⟨i, hi, ?_⟩
      rw [hok] at hc
      unfold thC at hc
      rw [r104_0a, ctl_dec, if_pos (by simp; omega), getE_th]
      unfold thC
      simp only [List.length_append, List.length_cons, SB, Nat.reduceAdd]
      rw [hc]
      simp only [SB, Nat.reduceAdd]
      rw [w64 (n := (p.length : Int) + 1) (by omega)]
      have e1 : ((p.length : Int) + 1) = ((p.length + (0 + 1) : Nat) : Int) := by omega
      rw [e1, ih]

theorem c_CheckX {s : Shp} (h : ThinS s) : denC E 52 [AV.agg (shpC s)] [] = some ([RV.p (PV.int .i64 (chkS s))], []) := by
  obtain ⟨h1, h2⟩ := h
  obtain ⟨i, hi, hl⟩ := ixT_any s.ts [] h2 (by simpa using h1)
  simp only [List.nil_append, List.length_nil] at hl
  have e0 : (((0 : Nat)) : Int) = 0 := rfl
  rw [e0] at hl
  have hcf : denC E 72 [AV.sl 6 (thK s.ts), AV.fn 73 []] [] = some ([RV.p (PV.bool (!s.ts.all okT))], []) := by
    cases ha : s.ts.all okT with
    | true =>
      rw [ha, ctl_true] at hl
      have hix : denC E 104 [AV.sl 6 (thK s.ts), AV.fn 73 []] [] = some ([RV.p (PV.int .i64 (-1))], []) := by
        rw [denC_eq, r104a, thK_length, hl]
        simp only [SB, Nat.reduceAdd]
      rw [denC_eq, r72a, hix]
      simp only [SB, Nat.reduceAdd]
      rfl
    | false =>
      rw [ha, ctl_false] at hl
      have hix : denC E 104 [AV.sl 6 (thK s.ts), AV.fn 73 []] [] = some ([RV.p (PV.int .i64 i)], []) := by
        rw [denC_eq, r104a, thK_length, hl]
        simp only [SB, Nat.reduceAdd]
      have f : leB 0 i = true := by simpa using hi
      rw [denC_eq, r72a, hix]
      simp only [SB, Nat.reduceAdd, f]
  unfold shpC
  rw [denC_eq, r52, hcf, thK_length]
  unfold chkS okLev
  cases e1 : ltB 8 (s.ts.length : Int) with
  | true => simp only [SB, Nat.reduceAdd]
  | false =>
    have e5 : (ltB (minI s.sn s.bw) 0 || ltB 200 (maxI s.sn s.bw) || s.bw == 0 && s.sn == 0) = !((leB 0 s.bw && (leB s.bw 200 && (leB 0 s.sn && leB s.sn 200))) && !(s.bw == 0 && s.sn == 0)) := by
      rw [Bool.eq_iff_iff]
      simp only [Bool.or_eq_true, Bool.and_eq_true, decide_eq_true_eq, Bool.not_eq_true', beq_iff_eq, Bool.and_eq_false_iff, decide_eq_false_iff_not, Bool.not_eq_false']
      unfold minI maxI
      split <;> split <;> omega
    simp only [SB, Nat.reduceAdd]
    rw [e5]
    cases ((leB 0 s.bw && (leB s.bw 200 && (leB 0 s.sn && leB s.sn 200))) && !(s.bw == 0 && s.sn == 0)) with
    | false => simp only [SB, Nat.reduceAdd, cond_false]
    | true => cases s.ts.all okT <;> simp only [SB, Nat.reduceAdd, cond_true, cond_false]

def inI (lo hi : Int) (l : List Int) : Bool := l.all fun n => leB lo n && leB n hi

theorem inI_iff {lo hi : Int} {l : List Int} : inI lo hi l = true ↔ ∀ n ∈ l, lo ≤ n ∧ n ≤ hi := by simp [inI]

theorem wi_any (lo hi : Int) : ∀ (l p : List Int), (p ++ l).length ≤ 10000 → ∃ i : Int, 0 ≤ i ∧
    lp E (denC E) 109 2 [AV.undef, AV.fn 76 [TV.ptr 0 0, TV.ptr 1 0]] 0 { vals := [AV.sl 1 (intsK .i64 (p ++ l)), AV.int .i64 ((p ++ l).length : Int), AV.int .i64 (p.length : Int)], blks := [Blk.box [AV.int .i64 lo], Blk.box [AV.int .i64 hi]] } =
      ctl (inI lo hi l) (some (Ex.exit 0, { vals := [], blks := [Blk.box [AV.int .i64 lo], Blk.box [AV.int .i64 hi]] })) (some (Ex.ret, { vals := [AV.int .i64 i], blks := [Blk.box [AV.int .i64 lo], Blk.box [AV.int .i64 hi]] }))
  | [], p, h => by
    refine ⟨0, Int.le_refl _, ?_⟩
    rw [r109_0a, ctl_dec, if_neg (by simp)]
    rfl
  | s :: l, p, h => by
    obtain ⟨i, hi', ih⟩ := wi_any lo hi l (p ++ [s]) (by simp at h ⊢; omega)
    simp only [List.length_append, List.length_cons] at h
    simp only [List.append_assoc, List.cons_append, List.nil_append, List.length_append, List.length_cons, List.length_nil] at ih
    have hw : denC E 76 [AV.int .i64 s, AV.t (.ptr 0 0), AV.t (.ptr 1 0)] [Blk.box [AV.int .i64 lo], Blk.box [AV.int .i64 hi]] = some ([RV.p (PV.bool (!(leB lo s && leB s hi)))], [Blk.box [AV.int .i64 lo], Blk.box [AV.int .i64 hi]]) := by
      rw [denC_eq, r76]
      have e1 : (ltB s lo || ltB hi s) = !(leB lo s && leB s hi) := by
        rw [Bool.eq_iff_iff]
        simp only [Bool.or_eq_true, decide_eq_true_eq, Bool.not_eq_true', Bool.and_eq_false_iff, decide_eq_false_iff_not]
        omega
      simp only [SB, Nat.reduceAdd, e1]
    have e0 : inI lo hi (s :: l) = ((leB lo s && leB s hi) && inI lo hi l) := rfl
    rw [e0]
    cases hok : (leB lo s && leB s hi) with
    | false =>
      rw [hok] at hw
      refine ⟨(p.length : Int), by omega, ?_⟩
      rw [r109_0a, ctl_dec, if_pos (by simp; omega), getE_int1]
      simp only [List.length_append, List.length_cons, SB, Nat.reduceAdd]
      rw [hw]
      simp only [SB, Nat.reduceAdd, Bool.false_and]
    | true =>
      rw [hok] at hw
      refine ⟨i, hi', ?_⟩
      rw [r109_0a, ctl_dec, if_pos (by simp; omega), getE_int1]
      simp only [List.length_append, List.length_cons, SB, Nat.reduceAdd]
      rw [hw]
      simp only [SB, Nat.reduceAdd]
      rw [w64 (n := (p.length : Int) + 1) (by omega)]
      have e1 : ((p.length : Int) + 1) = ((p.length + (0 + 1) : Nat) : Int) := by omega
      rw [e1, ih]

theorem c_withinX {l : List Int} (lo hi : Int) (h : l.length ≤ 10000) : denC E 53 [AV.sl 1 (intsK .i64 l), AV.int .i64 lo, AV.int .i64 hi] [] = some ([RV.p (PV.bool (inI lo hi l))], []) := by
  obtain ⟨i, hi', hl⟩ := wi_any lo hi l [] (by simpa using h)
  simp only [List.nil_append, List.length_nil] at hl
  have e0 : (((0 : Nat)) : Int) = 0 := rfl
  rw [e0] at hl
  have hcf : denC E 75 [AV.sl 1 (intsK .i64 l), AV.fn 76 [TV.ptr 0 0, TV.ptr 1 0]] [Blk.box [AV.int .i64 lo], Blk.box [AV.int .i64 hi]] = some ([RV.p (PV.bool (!inI lo hi l))], [Blk.box [AV.int .i64 lo], Blk.box [AV.int .i64 hi]]) := by
    cases ha : inI lo hi l with
    | true =>
      rw [ha, ctl_true] at hl
      have hix : denC E 109 [AV.sl 1 (intsK .i64 l), AV.fn 76 [TV.ptr 0 0, TV.ptr 1 0]] [Blk.box [AV.int .i64 lo], Blk.box [AV.int .i64 hi]] = some ([RV.p (PV.int .i64 (-1))], [Blk.box [AV.int .i64 lo], Blk.box [AV.int .i64 hi]]) := by
        rw [denC_eq, r109a, intsK_length, hl]
        simp only [SB, Nat.reduceAdd]
      rw [denC_eq, r75a, hix]
      simp only [SB, Nat.reduceAdd]
      rfl
    | false =>
      rw [ha, ctl_false] at hl
      have hix : denC E 109 [AV.sl 1 (intsK .i64 l), AV.fn 76 [TV.ptr 0 0, TV.ptr 1 0]] [Blk.box [AV.int .i64 lo], Blk.box [AV.int .i64 hi]] = some ([RV.p (PV.int .i64 i)], [Blk.box [AV.int .i64 lo], Blk.box [AV.int .i64 hi]]) := by
        rw [denC_eq, r109a, intsK_length, hl]
        simp only [SB, Nat.reduceAdd]
      have f : leB 0 i = true := by simpa using hi'
      rw [denC_eq, r75a, hix]
      simp only [SB, Nat.reduceAdd, f]
  rw [denC_eq, r53, hcf]
  simp only [SB, Nat.reduceAdd, Bool.not_not]

def tri (v : Int × Int × Int) : List PV := [PV.int .i64 v.1, PV.int .i64 v.2.1, PV.int .i64 v.2.2]

def inL (f : Int × Int × Int) : Bool := inI (-1000000) 1000000 [f.1, f.2.1, f.2.2]

theorem inL_iff {f : Int × Int × Int} : inL f = true ↔ (-1000000 ≤ f.1 ∧ f.1 ≤ 1000000) ∧ (-1000000 ≤ f.2.1 ∧ f.2.1 ≤ 1000000) ∧ -1000000 ≤ f.2.2 ∧ f.2.2 ≤ 1000000 := by
  unfold inL; simp [inI]

def modB (v : Int × Int × Int) : Bool := inI (-500000) 500000 [v.1, v.2.1, v.2.2]

theorem modB_iff {v : Int × Int × Int} : modB v = true ↔ Mod3 v.1 v.2.1 v.2.2 := by
  unfold modB Mod3; simp [inI]

def rngF (f : Int × Int × Int) : Bool := inI (-5000) 5000 [-f.1, -f.2.1] && inI (-500000) 500000 [-f.2.2]

theorem rngF_iff {f : Int × Int × Int} : rngF f = true ↔ ((-5000 ≤ -f.1 ∧ -f.1 ≤ 5000) ∧ -5000 ≤ -f.2.1 ∧ -f.2.1 ≤ 5000) ∧ -500000 ≤ -f.2.2 ∧ -f.2.2 ≤ 500000 := by
  unfold rngF; simp [inI]

def dmdV (s : Shp) (f : Int × Int × Int) : Int × Int × Int := (-f.1, bowF s f, -f.2.1 - bowF s f)

def stE (s : Shp) (f : Int × Int × Int) : Int := bif chkS s == 0 then (bif rngF f && modB (dmdV s f) then 0 else 1) else chkS s

def dmdE (s : Shp) (f : Int × Int × Int) : Int := bif inL f then stE s f else 1

def dmdR (s : Shp) (f : Int × Int × Int) : Int × Int × Int := bif dmdE s f == 0 then dmdV s f else (0, 0, 0)

theorem dmdE_ok {s : Shp} (h : ThinS s) {f : Int × Int × Int} (he : dmdE s f = 0) : OkShp s ∧ Mod3 (dmdV s f).1 (dmdV s f).2.1 (dmdV s f).2.2 := by
  unfold dmdE stE at he
  cases h1 : inL f with
  | false => rw [h1] at he; cases he
  | true =>
    rw [h1, cond_true] at he
    cases h2 : chkS s == 0 with
    | false =>
      rw [h2, cond_false] at he
      rw [he] at h2; cases h2
    | true =>
      rw [h2, cond_true] at he
      cases h3 : rngF f && modB (dmdV s f) with
      | false => rw [h3] at he; cases he
      | true =>
        simp only [Bool.and_eq_true] at h3
        exact ⟨(chkS_ok h).1 (by simpa using h2), modB_iff.1 h3.2⟩

def misE (s : Shp) (ms : List Int) (f : Int × Int × Int) : Int := bif dmdE s f == 0 then (bif (ms.length : Int) != (s.ts.length : Int) then 8 else bif inI 0 5000 ms then 0 else 1) else dmdE s f

noncomputable def misR (s : Shp) (ms : List Int) (f : Int × Int × Int) : Int × Int × Int := bif misE s ms f == 0 then mis s ms f else (0, 0, 0)

theorem misE_ok {s : Shp} (h : ThinS s) {ms : List Int} {f : Int × Int × Int} (hd : dmdE s f = 0) (hl : ((ms.length : Int) != (s.ts.length : Int)) = false) (hi : inI 0 5000 ms = true) : AOk s ms [] :=
  ⟨(dmdE_ok h hd).1, by simp only [bne_eq_false_iff_eq] at hl; omega, inI_iff.1 hi, .inl rfl, fun v hv => by cases hv⟩

noncomputable def metX (s : Shp) (ms : List Int) (f : Int × Int × Int) : Bool := misE s ms f == 0 && ((misR s ms f).1 == 0 && ((misR s ms f).2.1 == 0 && (misR s ms f).2.2 == 0))

def prtX (f : Int × Int × Int) (p : Int) : Int × Int × Int := bif inL f && (leB 0 p && leB p 200) then prt f p else (0, 0, 0)

noncomputable def rsvX (s : Shp) (ms : List Int) (f : Int × Int × Int) : Int := bif inL f then rsvF (fun p => metX s ms (prtX f p)) 21 (-1) 0 else -1

noncomputable def polX (s : Shp) (ms : List Int) (k : Int) : Nat → Nat → List Int
  | 0, _ => []
  | n + 1, i => rsvX s ms (Half (-k * Cos (300 * (i : Int))) 10000, Half (-k * Sin (300 * (i : Int))) 10000, 0) :: polX s ms k n (i + 1)

noncomputable def polR (s : Shp) (ms : List Int) (k : Int) : List Int := bif ltB k 1 || ltB 5000 k then [] else polX s ms k 12 0

theorem qw_any (m : Int) (hm : 0 ≤ m ∧ m ≤ 1000000000) : ∀ (l p : List Int), (p ++ l).length ≤ 1000 →
    lp E (denC E) 51 0 [] 0 { vals := [AV.int .i64 m, AV.sl 1 (intsK .i64 (p ++ l)), AV.int .i64 ((p ++ l).length : Int), AV.int .i64 (p.length : Int)], blks := [] } =
      ctl (inI (-m) m l) (some (Ex.exit 0, { vals := [], blks := [] })) (some (Ex.ret, { vals := [AV.bool false], blks := [] }))
  | [], p, h => by
    rw [r51_0, ctl_dec, if_neg (by simp)]
    rfl
  | s :: l, p, h => by
    have ih := qw_any m hm l (p ++ [s]) (by simp at h ⊢; omega)
    simp only [List.length_append, List.length_cons] at h
    rw [r51_0, ctl_dec, if_pos (by simp; omega), getE_int1]
    simp only [List.append_assoc, List.cons_append, List.nil_append, List.length_append, List.length_cons, List.length_nil] at ih
    have e3 : (0 : Int) - m = -m := by omega
    simp only [List.length_append, List.length_cons, SB, Nat.reduceAdd]
    rw [w64 (n := 0 - m) (by omega), e3, w64 (n := (p.length : Int) + 1) (by omega)]
    have e1 : ((p.length : Int) + 1) = ((p.length + (0 + 1) : Nat) : Int) := by omega
    rw [e1, ih]
    have e0 : inI (-m) m (s :: l) = ((leB (-m) s && leB s m) && inI (-m) m l) := rfl
    have e2 : (ltB s (-m) || ltB m s) = !(leB (-m) s && leB s m) := by
      rw [Bool.eq_iff_iff]
      simp only [Bool.or_eq_true, decide_eq_true_eq, Bool.not_eq_true', Bool.and_eq_false_iff, decide_eq_false_iff_not]
      omega
    rw [e0, e2]
    cases (leB (-m) s && leB s m) <;> simp only [SB, Nat.reduceAdd, Bool.false_and]

theorem c_fvalidX (f : Int × Int × Int) : denC E 32 [AV.agg [PV.int .i64 f.1, PV.int .i64 f.2.1, PV.int .i64 f.2.2]] [] = some ([RV.p (PV.bool (inL f))], []) := by
  have hl := qw_any 1000000 (by omega) [f.1, f.2.1, f.2.2] [] (by simp)
  simp only [List.nil_append, List.length_nil] at hl
  have hw : denC E 51 [AV.int .i64 1000000, AV.sl 1 [[PV.int .i64 f.1], [PV.int .i64 f.2.1], [PV.int .i64 f.2.2]]] [] = some ([RV.p (PV.bool (inL f))], []) := by
    rw [denC_eq, r51]
    have e : lp E (denC E) 51 0 [] 0 { vals := [AV.int .i64 1000000, AV.sl 1 [[PV.int .i64 f.1], [PV.int .i64 f.2.1], [PV.int .i64 f.2.2]], AV.int .i64 (([[PV.int .i64 f.1], [PV.int .i64 f.2.1], [PV.int .i64 f.2.2]] : List (List PV)).length : Int), AV.int .i64 0], blks := [] } = _ := hl
    rw [e]
    show _ = some ([RV.p (PV.bool (inI (-1000000) 1000000 [f.1, f.2.1, f.2.2]))], [])
    cases inI (-1000000) 1000000 [f.1, f.2.1, f.2.2] <;> simp only [SB, Nat.reduceAdd]
  rw [denC_eq, r32, hw]
  simp only [SB, Nat.reduceAdd]

theorem c_eachNX {f : Int × Int × Int} (h : inL f = true) : denC E 34 [AV.agg [PV.int .i64 f.1, PV.int .i64 f.2.1, PV.int .i64 f.2.2], AV.fn 35 []] [] = some ([RV.agg [PV.int .i64 (-f.1), PV.int .i64 (-f.2.1), PV.int .i64 (-f.2.2)]], []) := by
  have h := inL_iff.1 h
  have hn : ∀ x : Int, -1000000 ≤ x ∧ x ≤ 1000000 → denC E 35 [AV.int .i64 x] [] = some ([RV.p (PV.int .i64 (-x))], []) := fun x hx => by
    rw [denC_eq, r35, w64 (n := 0 - x) (by omega)]
    have : (0 : Int) - x = -x := by omega
    rw [this]
  rw [denC_eq, r34b, hn f.1 (by omega), hn f.2.1 (by omega), hn f.2.2 (by omega)]
  simp only [SB, Nat.reduceAdd]

theorem half_bow {s : Shp} (h : OkShp s) {f : Int × Int × Int} (hr : rngF f = true) : (1 ≤ s.bw + s.sn ∧ s.bw + s.sn ≤ 400) ∧ (-1000000 ≤ -f.2.1 * s.sn ∧ -f.2.1 * s.sn ≤ 1000000) ∧ -2000000 ≤ bowF s f ∧ bowF s f ≤ 2000000 := by
  obtain ⟨g1, g2, g3, g4, g5, g6, g7⟩ := h
  have hr := rngF_iff.1 hr
  have m1 := mul_le (a := -f.2.1) (b := s.sn) (m := 5000) (n := 200) (by omega) (by omega)
  have := half_le (n := -f.2.2 + -f.2.1 * s.sn) (d := s.bw + s.sn) (N := 1500000) (by omega) (by omega) (by omega)
  unfold bowF
  omega

def stR (s : Shp) (f : Int × Int × Int) : Int × Int × Int := bif stE s f == 0 then dmdV s f else (0, 0, 0)

theorem c_StationsX {s : Shp} (h : ThinS s) (f : Int × Int × Int) (hf : inL f = true) :
    denC E 33 [AV.agg (shpC s), AV.agg [PV.int .i64 (-f.1), PV.int .i64 (-f.2.1), PV.int .i64 (-f.2.2)]] [] = some ([RV.agg (tri (stR s f)), RV.p (PV.int .i64 (stE s f))], []) := by
  have hC := c_CheckX h
  have w1 := c_withinX (l := [-f.1, -f.2.1]) (-5000) 5000 (by simp)
  have w2 := c_withinX (l := [-f.2.2]) (-500000) 500000 (by simp)
  have e1 : intsK .i64 [-f.1, -f.2.1] = [[PV.int .i64 (-f.1)], [PV.int .i64 (-f.2.1)]] := rfl
  have e2 : intsK .i64 [-f.2.2] = [[PV.int .i64 (-f.2.2)]] := rfl
  rw [e1] at w1
  rw [e2] at w2
  unfold shpC at hC ⊢
  rw [denC_eq, r33, hC]
  simp only [SB, Nat.reduceAdd]
  rw [w1]
  simp only [SB, Nat.reduceAdd]
  rw [w2]
  simp only [SB, Nat.reduceAdd]
  unfold stR stE
  cases hc : chkS s == 0 with
  | false =>
    have hc' : (chkS s != 0) = true := by simpa [bne] using hc
    simp only [SB, Nat.reduceAdd, hc, hc', tri, cond_false]
  | true =>
    have hc0 : chkS s = 0 := by simpa using hc
    have hok := (chkS_ok h).1 hc0
    have hr : rngF f = (inI (-5000) 5000 [-f.1, -f.2.1] && inI (-500000) 500000 [-f.2.2]) := rfl
    have z0 : ((0 : Int) != 0) = false := rfl
    simp only [hc0, z0, SB, Nat.reduceAdd]
    cases h1 : inI (-5000) 5000 [-f.1, -f.2.1] with
    | false =>
      rw [hr, h1]
      simp only [SB, Nat.reduceAdd, Bool.false_and, cond_false]
      rfl
    | true =>
      cases h2 : inI (-500000) 500000 [-f.2.2] with
      | false =>
        rw [hr, h1, h2]
        simp only [SB, Nat.reduceAdd, Bool.false_and, Bool.and_false, cond_false]
        rfl
      | true =>
        rw [h1, h2, Bool.and_self] at hr
        obtain ⟨b1, b2, b3⟩ := half_bow hok hr
        have hf := rngF_iff.1 hr
        have hb : Half (-f.2.2 + -f.2.1 * s.sn) (s.bw + s.sn) = bowF s f := rfl
        have w3 := c_withinX (l := [bowF s f, -f.2.1 - bowF s f]) (-500000) 500000 (by simp)
        have e3 : intsK .i64 [bowF s f, -f.2.1 - bowF s f] = [[PV.int .i64 (bowF s f)], [PV.int .i64 (-f.2.1 - bowF s f)]] := rfl
        rw [e3] at w3
        have hm : modB (dmdV s f) = inI (-500000) 500000 [bowF s f, -f.2.1 - bowF s f] := by
          have : leB (-500000) (-f.1) = true ∧ leB (-f.1) 500000 = true := by simp only [decide_eq_true_eq]; omega
          show ((leB (-500000) (-f.1) && leB (-f.1) 500000) && inI (-500000) 500000 [bowF s f, -f.2.1 - bowF s f]) = _
          rw [this.1, this.2]; rfl
        simp only [SB, Nat.reduceAdd]
        rw [w64 (n := -f.2.1 * s.sn) (by omega), w64 (n := -f.2.2 + -f.2.1 * s.sn) (by omega), w64 (n := s.bw + s.sn) (by omega), c_Half (by omega) (by omega)]
        simp only [SB, Nat.reduceAdd, hb]
        rw [w64 (n := -f.2.1 - bowF s f) (by omega), w3, hr, hm]
        simp only [SB, Nat.reduceAdd]
        cases inI (-500000) 500000 [bowF s f, -f.2.1 - bowF s f] with
        | false => simp only [SB, Nat.reduceAdd, cond_false] <;> rfl
        | true => simp only [SB, Nat.reduceAdd, cond_true] <;> rfl

theorem c_DemandX {s : Shp} (h : ThinS s) (f : Int × Int × Int) :
    denC E 12 [AV.agg (shpC s), AV.agg [PV.int .i64 f.1, PV.int .i64 f.2.1, PV.int .i64 f.2.2]] [] = some ([RV.agg (tri (dmdR s f)), RV.p (PV.int .i64 (dmdE s f))], []) := by
  have hv := c_fvalidX f
  have hS := c_StationsX h f
  unfold shpC at hS ⊢
  rw [denC_eq, r12, hv]
  simp only [SB, Nat.reduceAdd]
  unfold dmdR dmdE
  cases hl : inL f with
  | false =>
    simp only [SB, Nat.reduceAdd, cond_false]
    rfl
  | true =>
    have he := c_eachNX hl
    have hS := hS hl
    unfold tri at hS
    simp only [SB, Nat.reduceAdd]
    rw [he]
    simp only [SB, Nat.reduceAdd]
    rw [hS]
    simp only [SB, Nat.reduceAdd]
    rfl

theorem c_DivideE {s : Shp} (h : OkShp s) {ms : List Int} (hm : ms.length ≤ 1000) (hb : ((ms.length : Int) != (s.ts.length : Int) || !inI 0 5000 ms) = true) (d0 d1 d2 : Int) :
    denC E 38 [AV.agg (shpC s), AV.sl 1 (intsK .i64 ms), AV.sl 2 [], AV.agg [PV.int .i64 d0, PV.int .i64 d1, PV.int .i64 d2]] [] =
      some ([RV.agg [PV.nils, PV.int .i64 0, PV.int .i64 0, PV.int .i64 0, PV.int .i64 0, PV.int .i64 0, PV.int .i64 0], RV.p (PV.int .i64 (bif (ms.length : Int) != (s.ts.length : Int) then 8 else 1))], []) := by
  have hC := c_Check h
  have h8 := h.1
  have w1 := c_withinX (l := ms) 0 5000 (by omega)
  have hbg : denC E 83 [AV.agg (shpC s), AV.sl 1 (intsK .i64 ms), AV.sl 2 [], AV.sl 1 (intsK .i64 (List.replicate s.ts.length 0))] [] = some ([RV.agg [PV.nils, PV.nils], RV.p (PV.int .i64 (bif (ms.length : Int) != (s.ts.length : Int) then 8 else 1))], []) := by
    unfold shpC at hC ⊢
    rw [denC_eq, r83, hC, w1]
    simp only [SB, Nat.reduceAdd, intsK_length, thK_length, List.length_nil, List.length_replicate]
    have f0 : ((0 : Int) != 0) = false := rfl
    have f3 : ((s.ts.length : Int) != (s.ts.length : Int)) = false := by simp
    cases hl : ((ms.length : Int) != (s.ts.length : Int)) with
    | true => simp only [f0, SB, Nat.reduceAdd, Bool.true_or, cond_true]
    | false =>
      rw [hl, Bool.false_or] at hb
      have hb' : inI 0 5000 ms = false := by simpa using hb
      have f1 : ltB 0 (((0 : Nat)) : Int) = false := rfl
      simp only [f0, f1, f3, hb', SB, Nat.reduceAdd, Bool.false_and, Bool.false_or, cond_false]
  have hO : denC E 58 [AV.agg (shpC s), AV.sl 1 (intsK .i64 ms), AV.sl 2 [], AV.agg [PV.int .i64 d0, PV.int .i64 d1, PV.int .i64 d2]] [] = some ([RV.agg [PV.sl 6 [], PV.sl 2 []], RV.p (PV.int .i64 (bif (ms.length : Int) != (s.ts.length : Int) then 8 else 1))], []) := by
    unfold shpC at hbg ⊢
    rw [denC_eq, r58, thK_length, Int.toNat_natCast, reps_ints, hbg]
    have g1 : leB (s.ts.length : Int) (s.ts.length : Int) = true := by simp
    have g2 : leB (s.ts.length : Int) 9223372036854775807 = true := by simp only [decide_eq_true_eq]; omega
    have g3 : leB ((s.ts.length : Int) * 8) 140737488355328 = true := by simp only [decide_eq_true_eq]; omega
    have g4 : ((bif (ms.length : Int) != (s.ts.length : Int) then (8 : Int) else 1) == 0) = false := by cases ((ms.length : Int) != (s.ts.length : Int)) <;> rfl
    simp only [SB, Nat.reduceAdd, g1, g2, g3, g4, Bool.false_and]
  unfold shpC at hO ⊢
  rw [denC_eq, r38, hO]
  have g4 : ((bif (ms.length : Int) != (s.ts.length : Int) then (8 : Int) else 1) != 0) = true := by cases ((ms.length : Int) != (s.ts.length : Int)) <;> rfl
  simp only [SB, Nat.reduceAdd, g4]

theorem c_MissingX {s : Shp} (h : ThinS s) {ms : List Int} (hm : ms.length ≤ 1000) (f : Int × Int × Int) :
    denC E 14 [AV.agg (shpC s), AV.sl 1 (intsK .i64 ms), AV.agg [PV.int .i64 f.1, PV.int .i64 f.2.1, PV.int .i64 f.2.2]] [] = some ([RV.agg (tri (misR s ms f)), RV.p (PV.int .i64 (misE s ms f))], []) := by
  have hD := c_DemandX h f
  unfold misR misE
  cases he : dmdE s f == 0 with
  | false =>
    have he' : (dmdE s f != 0) = true := by simpa [bne] using he
    unfold shpC tri at hD
    unfold shpC
    rw [denC_eq, r14, hD]
    simp only [SB, Nat.reduceAdd, he', he, cond_false, tri]
  | true =>
    have he0 : dmdE s f = 0 := by simpa using he
    obtain ⟨hok, hd⟩ := dmdE_ok h he0
    have hR : dmdR s f = dmdV s f := by unfold dmdR; rw [he, cond_true]
    rw [hR, he0] at hD
    have z0 : ((0 : Int) != 0) = false := rfl
    cases hb : ((ms.length : Int) != (s.ts.length : Int) || !inI 0 5000 ms) with
    | true =>
      have hE := c_DivideE hok hm hb (dmdV s f).1 (dmdV s f).2.1 (dmdV s f).2.2
      unfold shpC tri at hD
      unfold shpC at hE ⊢
      rw [denC_eq, r14, hD]
      simp only [SB, Nat.reduceAdd, z0]
      rw [hE]
      simp only [SB, Nat.reduceAdd]
      cases hl : ((ms.length : Int) != (s.ts.length : Int)) with
      | true => simp only [cond_true, SB, Nat.reduceAdd] <;> rfl
      | false =>
        rw [hl, Bool.false_or] at hb
        have hb' : inI 0 5000 ms = false := by simpa using hb
        rw [hb']
        simp only [cond_true, cond_false, SB, Nat.reduceAdd] <;> rfl
    | false =>
      simp only [Bool.or_eq_false_iff, Bool.not_eq_false'] at hb
      have hA := c_ADivide (misE_ok h he0 hb.1 hb.2) hd
      have ea : arcK [] = [] := rfl
      rw [ea] at hA
      unfold shpC tri at hD
      unfold shpC at hA ⊢
      rw [denC_eq, r14, hD]
      simp only [SB, Nat.reduceAdd, z0]
      rw [hA]
      simp only [SB, Nat.reduceAdd, z0, hb.1, hb.2, cond_true, cond_false]
      rfl

theorem c_MeetsX {s : Shp} (h : ThinS s) {ms : List Int} (hm : ms.length ≤ 1000) (f : Int × Int × Int) :
    denC E 16 [AV.agg (shpC s), AV.sl 1 (intsK .i64 ms), AV.agg [PV.int .i64 f.1, PV.int .i64 f.2.1, PV.int .i64 f.2.2]] [] = some ([RV.p (PV.bool (metX s ms f))], []) := by
  have hM := c_MissingX h hm f
  unfold shpC tri at hM
  unfold shpC
  rw [denC_eq, r16, hM]
  simp only [SB, Nat.reduceAdd, Bool.and_true]
  unfold metX
  cases misE s ms f == 0 <;> simp only [SB, Nat.reduceAdd, Bool.false_and, Bool.true_and]

theorem half100 {x p : Int} (hx : -1000000 ≤ x ∧ x ≤ 1000000) (hp : 0 ≤ p ∧ p ≤ 200) : -200000000 ≤ x * p ∧ x * p ≤ 200000000 := by
  have := mul_le (a := x) (b := p) (m := 1000000) (n := 200) hx (by omega)
  omega

theorem c_PartX (f : Int × Int × Int) (p : Int) :
    denC E 21 [AV.agg [PV.int .i64 f.1, PV.int .i64 f.2.1, PV.int .i64 f.2.2], AV.int .i64 p] [] = some ([RV.agg (tri (prtX f p))], []) := by
  have hv := c_fvalidX f
  rw [denC_eq, r21, hv]
  simp only [SB, Nat.reduceAdd]
  unfold prtX
  have e5 : (!inL f || ltB p 0 || ltB 200 p) = !(inL f && (leB 0 p && leB p 200)) := by
    rw [Bool.eq_iff_iff]
    cases inL f <;> simp only [Bool.or_eq_true, decide_eq_true_eq, Bool.not_eq_true', Bool.and_eq_false_iff, decide_eq_false_iff_not, Bool.not_true, Bool.not_false, Bool.true_and, Bool.false_and, Bool.false_or, Bool.true_or, Bool.true_eq_false, true_or, iff_true, false_or, true_iff, Bool.false_eq_true]
    omega
  rw [e5]
  cases hc : (inL f && (leB 0 p && leB p 200)) with
  | false => simp only [SB, Nat.reduceAdd, cond_false] <;> rfl
  | true =>
    simp only [Bool.and_eq_true, decide_eq_true_eq] at hc
    have hf := inL_iff.1 hc.1
    have hn : ∀ x : Int, -1000000 ≤ x ∧ x ≤ 1000000 → denC E 41 [AV.int .i64 x, AV.t (TV.ptr 0 0)] [Blk.box [AV.int .i64 p]] = some ([RV.p (PV.int .i64 (Half (x * p) 100))], [Blk.box [AV.int .i64 p]]) := fun x hx => by
      have a := half100 hx hc.2
      rw [denC_eq, r41, w64 (n := x * p) (by omega), c_QHalf (by omega) (by omega)]
      simp only [SB, Nat.reduceAdd]
    have he : denC E 34 [AV.agg [PV.int .i64 f.1, PV.int .i64 f.2.1, PV.int .i64 f.2.2], AV.fn 41 [TV.ptr 0 0]] [Blk.box [AV.int .i64 p]] = some ([RV.agg [PV.int .i64 (prt f p).1, PV.int .i64 (prt f p).2.1, PV.int .i64 (prt f p).2.2]], [Blk.box [AV.int .i64 p]]) := by
      rw [denC_eq, r34a, hn f.1 (by omega)]
      simp only [SB, Nat.reduceAdd]
      rw [hn f.2.1 (by omega)]
      simp only [SB, Nat.reduceAdd]
      rw [hn f.2.2 (by omega)]
      simp only [SB, Nat.reduceAdd]
      rfl
    simp only [SB, Nat.reduceAdd]
    rw [he]
    simp only [SB, Nat.reduceAdd, cond_true]
    rfl

theorem rsvX_loop {s : Shp} (h : ThinS s) {ms : List Int} (hm : ms.length ≤ 1000) {f : Int × Int × Int} : ∀ (n : Nat) (out p : Int), p = 210 - 10 * (n : Int) → n ≤ 21 →
    lp E (denC E) 18 0 [] 0 { vals := [AV.sl 1 (intsK .i64 ms), AV.int .i64 out, AV.int .i64 p], blks := [Blk.box [AV.int .i64 s.bw, AV.int .i64 s.sn, AV.sl 6 (thK s.ts)], Blk.box [AV.int .i64 f.1, AV.int .i64 f.2.1, AV.int .i64 f.2.2]] } =
      some (Ex.exit 0, { vals := [AV.int .i64 (rsvF (fun p => metX s ms (prtX f p)) n out p)], blks := [] })
  | 0, out, p, hp, hn => by
    have e : leB p 200 = false := by simp only [decide_eq_false_iff_not]; omega
    rw [r18_0, e]
    simp only [SB, Nat.reduceAdd]
    rfl
  | n + 1, out, p, hp, hn => by
    have ih := rsvX_loop h hm (f := f) n p (p + 10) (by omega) (by omega)
    have e : leB p 200 = true := by simp only [decide_eq_true_eq]; omega
    have hP := c_PartX f p
    have hM := c_MeetsX h hm (prtX f p)
    unfold shpC at hM
    unfold tri at hP
    rw [r18_0, e, hP]
    simp only [SB, Nat.reduceAdd]
    rw [hM]
    simp only [SB, Nat.reduceAdd]
    rw [w64 (n := p + 10) (by omega), ih]
    have er : rsvF (fun p => metX s ms (prtX f p)) (n + 1) out p = if metX s ms (prtX f p) = true then rsvF (fun p => metX s ms (prtX f p)) n p (p + 10) else out := rfl
    rw [er]
    cases metX s ms (prtX f p) with
    | false => rfl
    | true => rfl

theorem c_ReserveX {s : Shp} (h : ThinS s) {ms : List Int} (hm : ms.length ≤ 1000) (f : Int × Int × Int) :
    denC E 18 [AV.agg (shpC s), AV.sl 1 (intsK .i64 ms), AV.agg [PV.int .i64 f.1, PV.int .i64 f.2.1, PV.int .i64 f.2.2]] [] = some ([RV.p (PV.int .i64 (rsvX s ms f))], []) := by
  have hv := c_fvalidX f
  have hl := rsvX_loop h hm (f := f) 21 (-1) 0 (by omega) (by omega)
  unfold shpC rsvX
  rw [denC_eq, r18, hv]
  simp only [SB, Nat.reduceAdd]
  cases inL f with
  | false => simp only [SB, Nat.reduceAdd] <;> rfl
  | true =>
    simp only [SB, Nat.reduceAdd]
    rw [hl]
    simp only [SB, Nat.reduceAdd]

end Go.Proofs.YtclplmjlolpfbaaGreat.Vm

/- Capability: the document's functions come to the same. -/
namespace Go.Proofs.YtclplmjlolpfbaaGreat.Vm
set_option linter.unusedVariables false
set_option linter.unusedSimpArgs false

theorem rck_loop : ∀ (l p : List Thr), (∀ t ∈ l, t.fb.length ≤ 1000) → (p ++ l).length ≤ 1000 →
    lp E (denC E) 55 0 [] 0 { vals := [AV.sl 6 (thK (p ++ l)), AV.int .i64 ((p ++ l).length : Int), AV.int .i64 (p.length : Int)], blks := [] } =
      ctl (l.all okT) (some (Ex.exit 0, { vals := [], blks := [] })) (some (Ex.ret, { vals := [AV.int .i64 14], blks := [] }))
  | [], p, hs, h => by
    rw [r55_0, ctl_dec, if_neg (by simp)]
    rfl
  | s :: l, p, hs, h => by
    have ih := rck_loop l (p ++ [s]) (fun t ht => hs t (List.mem_cons_of_mem _ ht)) (by simp at h ⊢; omega)
    simp only [List.length_append, List.length_cons] at h
    have hc := c_RTValid (t := s) (Nat.le_trans (hs s (List.mem_cons_self ..)) (by decide))
    simp only [List.append_assoc, List.cons_append, List.nil_append, List.length_append, List.length_cons, List.length_nil] at ih
    have e0 : (s :: l).all okT = (okT s && l.all okT) := rfl
    unfold thC at hc
    rw [e0, r55_0, ctl_dec, if_pos (by simp; omega), getE_th]
    unfold thC
    simp only [List.length_append, List.length_cons, SB, Nat.reduceAdd]
    rw [hc]
    simp only [SB, Nat.reduceAdd]
    rw [w64 (n := (p.length : Int) + 1) (by omega)]
    have e1 : ((p.length : Int) + 1) = ((p.length + (0 + 1) : Nat) : Int) := by omega
    rw [e1, ih]
    cases okT s <;> simp only [SB, Nat.reduceAdd, Bool.false_and]

theorem c_RCheckX {s : Shp} (h : ThinS s) : denC E 55 [AV.agg (shpC s)] [] = some ([RV.p (PV.int .i64 (chkS s))], []) := by
  obtain ⟨h1, h2⟩ := h
  have hl := rck_loop s.ts [] h2 (by simpa using h1)
  simp only [List.nil_append, List.length_nil] at hl
  have e0 : (((0 : Nat)) : Int) = 0 := rfl
  rw [e0] at hl
  unfold shpC
  rw [denC_eq, r55, thK_length, hl]
  unfold chkS okLev
  cases e1 : ltB 8 (s.ts.length : Int) with
  | true => simp only [SB, Nat.reduceAdd]
  | false =>
    have e5 : (ltB s.bw 0 || ltB 200 s.bw || ltB s.sn 0 || ltB 200 s.sn || IntKind.i64.wrap (s.bw + s.sn) == 0) = !((leB 0 s.bw && (leB s.bw 200 && (leB 0 s.sn && leB s.sn 200))) && !(s.bw == 0 && s.sn == 0)) := by
      by_cases hb : (0 ≤ s.bw ∧ s.bw ≤ 200) ∧ 0 ≤ s.sn ∧ s.sn ≤ 200
      · rw [w64 (n := s.bw + s.sn) (by omega), Bool.eq_iff_iff]
        simp only [Bool.or_eq_true, Bool.and_eq_true, decide_eq_true_eq, Bool.not_eq_true', beq_iff_eq, Bool.and_eq_false_iff, decide_eq_false_iff_not, Bool.not_eq_false']
        omega
      · rw [Bool.eq_iff_iff]
        simp only [Bool.or_eq_true, Bool.and_eq_true, decide_eq_true_eq, Bool.not_eq_true', beq_iff_eq, Bool.and_eq_false_iff, decide_eq_false_iff_not, Bool.not_eq_false']
        omega
    simp only [SB, Nat.reduceAdd, e5]
    cases ((leB 0 s.bw && (leB s.bw 200 && (leB 0 s.sn && leB s.sn 200))) && !(s.bw == 0 && s.sn == 0)) with
    | false => simp only [SB, Nat.reduceAdd, cond_false, cond_true]
    | true =>
      cases s.ts.all okT <;> simp only [SB, Nat.reduceAdd, cond_false, cond_true]

theorem g3_0 {α : Type} (a b c : List PV) (K : List PV → Option α) : getE [a, b, c] 0 K = K a := rfl

theorem g3_1 {α : Type} (a b c : List PV) (K : List PV → Option α) : getE [a, b, c] 1 K = K b := rfl

theorem g3_2 {α : Type} (a b c : List PV) (K : List PV → Option α) : getE [a, b, c] 2 K = K c := rfl

theorem in_or (lo hi x : Int) : (ltB x lo || ltB hi x) = !(leB lo x && leB x hi) := by
  rw [Bool.eq_iff_iff]
  simp only [Bool.or_eq_true, decide_eq_true_eq, Bool.not_eq_true', Bool.and_eq_false_iff, decide_eq_false_iff_not]
  omega

theorem c_Rmod (v : Int × Int × Int) : denC E 57 [AV.agg [PV.int .i64 v.1, PV.int .i64 v.2.1, PV.int .i64 v.2.2]] [] = some ([RV.p (PV.bool (modB v))], []) := by
  have e3 : lp E (denC E) 57 0 [] 0 { vals := [AV.agg [PV.int .i64 v.1, PV.int .i64 v.2.1, PV.int .i64 v.2.2], AV.int .i64 3], blks := [] } = some (Ex.exit 0, { vals := [], blks := [] }) := by
    rw [r57_0, show ltB 3 3 = false from rfl, ctl_false]
  have e2 : lp E (denC E) 57 0 [] 0 { vals := [AV.agg [PV.int .i64 v.1, PV.int .i64 v.2.1, PV.int .i64 v.2.2], AV.int .i64 2], blks := [] } = ctl (leB (-500000) v.2.2 && leB v.2.2 500000) (some (Ex.exit 0, { vals := [], blks := [] })) (some (Ex.ret, { vals := [AV.bool false], blks := [] })) := by
    rw [r57_0, show ltB 2 3 = true from rfl, ctl_true, g3_2]
    simp only [SB, Nat.reduceAdd]
    rw [w64 (n := 2 + 1) (by omega), show (2 : Int) + 1 = 3 from rfl, e3, in_or (-500000) 500000]
    cases (leB (-500000) v.2.2 && leB v.2.2 500000) <;> simp only [SB, Nat.reduceAdd, Bool.false_and]
  have e1 : lp E (denC E) 57 0 [] 0 { vals := [AV.agg [PV.int .i64 v.1, PV.int .i64 v.2.1, PV.int .i64 v.2.2], AV.int .i64 1], blks := [] } = ctl ((leB (-500000) v.2.1 && leB v.2.1 500000) && (leB (-500000) v.2.2 && leB v.2.2 500000)) (some (Ex.exit 0, { vals := [], blks := [] })) (some (Ex.ret, { vals := [AV.bool false], blks := [] })) := by
    rw [r57_0, show ltB 1 3 = true from rfl, ctl_true, g3_1]
    simp only [SB, Nat.reduceAdd]
    rw [w64 (n := 1 + 1) (by omega), show (1 : Int) + 1 = 2 from rfl, e2, in_or (-500000) 500000]
    cases (leB (-500000) v.2.1 && leB v.2.1 500000) <;> simp only [SB, Nat.reduceAdd, Bool.false_and]
  have e0 : lp E (denC E) 57 0 [] 0 { vals := [AV.agg [PV.int .i64 v.1, PV.int .i64 v.2.1, PV.int .i64 v.2.2], AV.int .i64 0], blks := [] } = ctl (modB v) (some (Ex.exit 0, { vals := [], blks := [] })) (some (Ex.ret, { vals := [AV.bool false], blks := [] })) := by
    have e : modB v = ((leB (-500000) v.1 && leB v.1 500000) && ((leB (-500000) v.2.1 && leB v.2.1 500000) && (leB (-500000) v.2.2 && leB v.2.2 500000))) := by
      show ((leB (-500000) v.1 && leB v.1 500000) && ((leB (-500000) v.2.1 && leB v.2.1 500000) && ((leB (-500000) v.2.2 && leB v.2.2 500000) && true))) = _
      rw [Bool.and_true]
    rw [e, r57_0, show ltB 0 3 = true from rfl, ctl_true, g3_0]
    simp only [SB, Nat.reduceAdd]
    rw [w64 (n := 0 + 1) (by omega), show (0 : Int) + 1 = 1 from rfl, e1, in_or (-500000) 500000]
    cases (leB (-500000) v.1 && leB v.1 500000) <;> simp only [SB, Nat.reduceAdd, Bool.false_and]
  rw [denC_eq, r57, e0]
  cases modB v <;> simp only [SB, Nat.reduceAdd]

theorem c_rright (v : Int × Int × Int) : denC E 36 [AV.agg [PV.int .i64 v.1, PV.int .i64 v.2.1, PV.int .i64 v.2.2]] [] = some ([RV.p (PV.bool (inL v))], []) := by
  have e3 : lp E (denC E) 36 0 [] 0 { vals := [AV.agg [PV.int .i64 v.1, PV.int .i64 v.2.1, PV.int .i64 v.2.2], AV.int .i64 3], blks := [] } = some (Ex.exit 0, { vals := [], blks := [] }) := by
    rw [r36_0, show ltB 3 3 = false from rfl, ctl_false]
  have e2 : lp E (denC E) 36 0 [] 0 { vals := [AV.agg [PV.int .i64 v.1, PV.int .i64 v.2.1, PV.int .i64 v.2.2], AV.int .i64 2], blks := [] } = ctl (leB (-1000000) v.2.2 && leB v.2.2 1000000) (some (Ex.exit 0, { vals := [], blks := [] })) (some (Ex.ret, { vals := [AV.bool false], blks := [] })) := by
    rw [r36_0, show ltB 2 3 = true from rfl, ctl_true, g3_2]
    simp only [SB, Nat.reduceAdd]
    rw [w64 (n := 2 + 1) (by omega), show (2 : Int) + 1 = 3 from rfl, e3, in_or (-1000000) 1000000]
    cases (leB (-1000000) v.2.2 && leB v.2.2 1000000) <;> simp only [SB, Nat.reduceAdd, Bool.false_and]
  have e1 : lp E (denC E) 36 0 [] 0 { vals := [AV.agg [PV.int .i64 v.1, PV.int .i64 v.2.1, PV.int .i64 v.2.2], AV.int .i64 1], blks := [] } = ctl ((leB (-1000000) v.2.1 && leB v.2.1 1000000) && (leB (-1000000) v.2.2 && leB v.2.2 1000000)) (some (Ex.exit 0, { vals := [], blks := [] })) (some (Ex.ret, { vals := [AV.bool false], blks := [] })) := by
    rw [r36_0, show ltB 1 3 = true from rfl, ctl_true, g3_1]
    simp only [SB, Nat.reduceAdd]
    rw [w64 (n := 1 + 1) (by omega), show (1 : Int) + 1 = 2 from rfl, e2, in_or (-1000000) 1000000]
    cases (leB (-1000000) v.2.1 && leB v.2.1 1000000) <;> simp only [SB, Nat.reduceAdd, Bool.false_and]
  have e0 : lp E (denC E) 36 0 [] 0 { vals := [AV.agg [PV.int .i64 v.1, PV.int .i64 v.2.1, PV.int .i64 v.2.2], AV.int .i64 0], blks := [] } = ctl (inL v) (some (Ex.exit 0, { vals := [], blks := [] })) (some (Ex.ret, { vals := [AV.bool false], blks := [] })) := by
    have e : inL v = ((leB (-1000000) v.1 && leB v.1 1000000) && ((leB (-1000000) v.2.1 && leB v.2.1 1000000) && (leB (-1000000) v.2.2 && leB v.2.2 1000000))) := by
      show ((leB (-1000000) v.1 && leB v.1 1000000) && ((leB (-1000000) v.2.1 && leB v.2.1 1000000) && ((leB (-1000000) v.2.2 && leB v.2.2 1000000) && true))) = _
      rw [Bool.and_true]
    rw [e, r36_0, show ltB 0 3 = true from rfl, ctl_true, g3_0]
    simp only [SB, Nat.reduceAdd]
    rw [w64 (n := 0 + 1) (by omega), show (0 : Int) + 1 = 1 from rfl, e1, in_or (-1000000) 1000000]
    cases (leB (-1000000) v.1 && leB v.1 1000000) <;> simp only [SB, Nat.reduceAdd, Bool.false_and]
  rw [denC_eq, r36, e0]
  cases inL v <;> simp only [SB, Nat.reduceAdd]

theorem c_RStationsX {s : Shp} (h : ThinS s) (f : Int × Int × Int) (hf : inL f = true) :
    denC E 37 [AV.agg (shpC s), AV.agg [PV.int .i64 (-f.1), PV.int .i64 (-f.2.1), PV.int .i64 (-f.2.2)]] [] = some ([RV.agg (tri (stR s f)), RV.p (PV.int .i64 (stE s f))], []) := by
  have hC := c_RCheckX h
  unfold shpC at hC ⊢
  rw [denC_eq, r37, hC]
  simp only [SB, Nat.reduceAdd]
  unfold stR stE
  cases hc : chkS s == 0 with
  | false =>
    have hc' : (chkS s != 0) = true := by simpa [bne] using hc
    simp only [SB, Nat.reduceAdd, hc, hc', tri, cond_false]
  | true =>
    have hc0 : chkS s = 0 := by simpa using hc
    have hok := (chkS_ok h).1 hc0
    have z0 : ((0 : Int) != 0) = false := rfl
    have e5 : (ltB (-f.1) (-5000) || ltB 5000 (-f.1) || ltB (-f.2.1) (-5000) || ltB 5000 (-f.2.1) || ltB (-f.2.2) (-500000) || ltB 500000 (-f.2.2)) = !rngF f := by
      rw [Bool.eq_iff_iff]
      have := rngF_iff (f := f)
      cases hr : rngF f with
      | true =>
        have := this.1 hr
        simp only [Bool.or_eq_true, decide_eq_true_eq, Bool.not_true, Bool.false_eq_true, iff_false]
        omega
      | false =>
        have hn : ¬ (((-5000 ≤ -f.1 ∧ -f.1 ≤ 5000) ∧ -5000 ≤ -f.2.1 ∧ -f.2.1 ≤ 5000) ∧ -500000 ≤ -f.2.2 ∧ -f.2.2 ≤ 500000) := fun h => by rw [this.2 h] at hr; cases hr
        simp only [Bool.or_eq_true, decide_eq_true_eq, Bool.not_false, iff_true]
        omega
    simp only [hc0, z0, SB, Nat.reduceAdd, e5]
    cases hr : rngF f with
    | false =>
      simp only [SB, Nat.reduceAdd, Bool.false_and, cond_false]
      rfl
    | true =>
      obtain ⟨b1, b2, b3⟩ := half_bow hok hr
      have hf := rngF_iff.1 hr
      have hb : Half (-f.2.2 + -f.2.1 * s.sn) (s.bw + s.sn) = bowF s f := rfl
      have hm := c_Rmod (-f.1, bowF s f, -f.2.1 - bowF s f)
      simp only at hm
      simp only [SB, Nat.reduceAdd]
      rw [w64 (n := -f.2.1 * s.sn) (by omega), w64 (n := -f.2.2 + -f.2.1 * s.sn) (by omega), w64 (n := s.bw + s.sn) (by omega), c_RHalf (by omega) (by omega)]
      simp only [SB, Nat.reduceAdd, hb]
      rw [w64 (n := -f.2.1 - bowF s f) (by omega), hm]
      simp only [SB, Nat.reduceAdd]
      show ctl (!modB (dmdV s f)) _ _ = _
      cases modB (dmdV s f) with
      | false => simp only [SB, Nat.reduceAdd, cond_false] <;> rfl
      | true => simp only [SB, Nat.reduceAdd, cond_true] <;> rfl

theorem c_DemandR {s : Shp} (h : ThinS s) (f : Int × Int × Int) :
    denC E 13 [AV.agg (shpC s), AV.agg [PV.int .i64 f.1, PV.int .i64 f.2.1, PV.int .i64 f.2.2]] [] = some ([RV.agg (tri (dmdR s f)), RV.p (PV.int .i64 (dmdE s f))], []) := by
  have hv := c_rright f
  have hS := c_RStationsX h f
  unfold shpC at hS ⊢
  rw [denC_eq, r13, hv]
  simp only [SB, Nat.reduceAdd]
  unfold dmdR dmdE
  cases hl : inL f with
  | false =>
    simp only [SB, Nat.reduceAdd, cond_false]
    rfl
  | true =>
    have hS := hS hl
    have hf := inL_iff.1 hl
    unfold tri at hS
    have n1 : ∀ x : Int, (0 : Int) - x = -x := fun x => by omega
    simp only [SB, Nat.reduceAdd, n1]
    rw [w64 (n := -f.1) (by omega), w64 (n := -f.2.1) (by omega), w64 (n := -f.2.2) (by omega), hS]
    simp only [SB, Nat.reduceAdd]
    rfl

theorem c_Round {n d : Int} (hd : 1 ≤ d ∧ d ≤ 1000000000) (hn : -1000000000000000000 ≤ n ∧ n ≤ 1000000000000000000) : denC E 43 [AV.int .i64 n, AV.int .i64 d] [] = some ([RV.p (PV.int .i64 (Half n d))], []) := by
  have h := c_QFloor (n := 2 * n + d) (d := 2 * d) (by omega) (by omega)
  have hb : -9000000000000000001 ≤ (2 * n + d) / (2 * d) ∧ (2 * n + d) / (2 * d) ≤ 9000000000000000000 := by
    have h1 := Int.mul_ediv_add_emod (2 * n + d) (2 * d)
    have h3 := Int.emod_nonneg (2 * n + d) (b := 2 * d) (by omega)
    have h4 := Int.emod_lt_of_pos (2 * n + d) (b := 2 * d) (by omega)
    constructor
    · rcases Int.lt_or_le ((2 * n + d) / (2 * d)) (-9000000000000000000) with h | h
      · have h5 : 2 * d * ((2 * n + d) / (2 * d)) ≤ 2 * d * (-9000000000000000001) := Int.mul_le_mul_of_nonneg_left (by omega) (by omega)
        omega
      · omega
    · rcases Int.lt_or_le 9000000000000000000 ((2 * n + d) / (2 * d)) with h | h
      · have h5 : 2 * d * 9000000000000000001 ≤ 2 * d * ((2 * n + d) / (2 * d)) := Int.mul_le_mul_of_nonneg_left (by omega) (by omega)
        omega
      · exact h
  have hf := floor_div (n := 2 * n + d) (d := 2 * d) (by omega)
  have hq : (2 * n + d).tdiv (2 * d) = (2 * n + d) / (2 * d) ∨ (2 * n + d).tdiv (2 * d) = (2 * n + d) / (2 * d) + 1 := by
    split at hf <;> omega
  have hne : neB (2 * d) 0 = true := by simp; omega
  rw [denC_eq, r43, w64 (n := 2 * d) (by omega), w64 (n := 2 * n) (by omega), w64 (n := 2 * n + d) (by omega)]
  simp only [hne, Bool.and_self, ctl_true]
  rw [ctl_dec, w64 (n := (2 * n + d).tdiv (2 * d)) (by omega), w64 (n := (2 * n + d).tdiv (2 * d) - 1) (by omega)]
  unfold Half
  rw [← hf]
  split <;> rfl

theorem c_PartR (f : Int × Int × Int) (p : Int) :
    denC E 22 [AV.agg [PV.int .i64 f.1, PV.int .i64 f.2.1, PV.int .i64 f.2.2], AV.int .i64 p] [] = some ([RV.agg (tri (prtX f p))], []) := by
  have hv := c_rright f
  rw [denC_eq, r22, hv]
  simp only [SB, Nat.reduceAdd]
  unfold prtX
  have e5 : (!inL f || ltB p 0 || ltB 200 p) = !(inL f && (leB 0 p && leB p 200)) := by
    rw [Bool.eq_iff_iff]
    cases inL f <;> simp only [Bool.or_eq_true, decide_eq_true_eq, Bool.not_eq_true', Bool.and_eq_false_iff, decide_eq_false_iff_not, Bool.not_true, Bool.not_false, Bool.true_and, Bool.false_and, Bool.false_or, Bool.true_or, Bool.true_eq_false, true_or, iff_true, false_or, true_iff, Bool.false_eq_true]
    omega
  rw [e5]
  cases hc : (inL f && (leB 0 p && leB p 200)) with
  | false => simp only [SB, Nat.reduceAdd, cond_false] <;> rfl
  | true =>
    simp only [Bool.and_eq_true, decide_eq_true_eq] at hc
    have hf := inL_iff.1 hc.1
    have a := half100 hf.1 hc.2
    have b := half100 hf.2.1 hc.2
    have c := half100 hf.2.2 hc.2
    rw [w64 (n := f.1 * p) (by omega), w64 (n := f.2.1 * p) (by omega), w64 (n := f.2.2 * p) (by omega), c_Round (by omega) (by omega), c_Round (by omega) (by omega), c_Round (by omega) (by omega)]
    simp only [SB, Nat.reduceAdd, cond_true]
    rfl

theorem c_Rdv {l : List Div.Shr} {total : Int} (h : Div.OkL l) (ht : -500000 ≤ total ∧ total ≤ 500000) :
    denC E 65 [AV.sl 3 (Div.shK l), AV.int .i64 total] [] = some ([RV.p (PV.sl 1 (intsK .i64 (dv l total))), RV.p (PV.int .i64 (total - totC l total)), RV.p (PV.int .i64 0)], []) :=
  Div.c_RDivide h ht (dv_isP h ht)

theorem c_RlatF {t : Thr} (h : t.fb.length ≤ maxLen) : denC E 97 [AV.agg (thC t)] [] = some ([RV.p (PV.int .i64 (latF t).1), RV.p (PV.int .i64 (latF t).2)], []) := by
  obtain ⟨a, b, h1, h2⟩ := c_RLateral h
  obtain ⟨e1, e2⟩ := IsLat_uniq h2 (latF_is t)
  rw [h1, e1, e2]

theorem c_RlonF {t : Thr} (h : t.fb.length ≤ maxLen) (y : Int) : denC E 102 [AV.agg (thC t), AV.int .i64 y] [] = some ([RV.p (PV.int .i64 (lonF t y).1), RV.p (PV.int .i64 (lonF t y).2)], []) := by
  obtain ⟨a, b, h1, h2⟩ := c_RLongitudinal h y
  obtain ⟨e1, e2⟩ := IsLon_uniq h2 (lonF_is t y)
  rw [h1, e1, e2]

theorem c_RWith (t : Thr) (m : Int) : denC E 98 [AV.agg (thC t), AV.int .i64 m] [] = some ([RV.agg (thC (withT t m))], []) := by
  have e : minI (maxI 0 m) t.mx = minI (maxI 0 m) t.mx := rfl
  unfold thC
  rw [denC_eq, r98]
  rfl

theorem rlat_loop (k : Int) : ∀ (ts q : List Thr) (ms pm : List Int) (acc : List Div.Shr), (∀ t ∈ ts, t.fb.length ≤ maxLen) → pm.length = q.length → ms.length = ts.length → acc.length = q.length → (q ++ ts).length ≤ 8 →
    lp E (denC E) 64 0 [] 0 { vals := [AV.sl 1 (intsK .i64 (pm ++ ms)), AV.sl 2 [], AV.int .i64 k, AV.sl 6 (thK (q ++ ts)), AV.int .i64 ((q ++ ts).length : Int), AV.int .i64 (q.length : Int)], blks := [Blk.arr 3 (Div.shK acc)] } =
      some (Ex.exit 0, { vals := [], blks := [Blk.arr 3 (Div.shK (acc ++ lats k (Ws ts ms) []))] })
  | [], q, ms, pm, acc, hs, hp, hm, ha, h => by
    rw [r64_0, ctl_dec, if_neg (by simp)]
    simp [Ws, lats]
  | t :: ts, q, [], pm, acc, hs, hp, hm, ha, h => by cases hm
  | t :: ts, q, m :: ms, pm, acc, hs, hp, hm, ha, h => by
    have ht := hs t (List.mem_cons_self ..)
    have ih := rlat_loop k ts (q ++ [t]) ms (pm ++ [m]) (acc ++ [latS k (withT t m) none]) (fun x hx => hs x (List.mem_cons_of_mem _ hx)) (by simp [hp]) (by simpa using hm) (by simp [ha]) (by simp at h ⊢; omega)
    simp only [List.append_assoc, List.cons_append, List.nil_append, List.length_append, List.length_cons, List.length_nil] at ih h
    rw [r64_0, ctl_dec, if_pos (by simp; omega), getE_th]
    have hW := c_RWith t m
    have hL := c_RlatF (t := withT t m) ht
    unfold thC at hW hL
    have hg : ∀ {α : Type} (K : List PV → Option α), getE (intsK .i64 (pm ++ m :: ms)) (q.length : Int) K = K [PV.int .i64 m] := fun K => by rw [← hp]; exact getE_int1 pm m ms K
    have e2 : leN (((Div.shK acc).length + 1) * 24) 140737488355328 = true := by rw [Div.shK_length]; simp only [decide_eq_true_eq]; omega
    have f0 : ltB 0 ((([] : List (List PV)).length : Nat) : Int) = false := rfl
    rw [Div.shK_append] at ih
    unfold thC
    simp only [SB, Nat.reduceAdd, e2, f0]
    rw [w64 (n := (q.length : Int) + 1) (by omega)]
    have e1 : ((q.length : Int) + 1) = ((q.length + (0 + 1) : Nat) : Int) := by omega
    simp only [List.length_append, List.length_cons] at *
    rw [e1]
    by_cases hk : t.st = k
    · have f : (t.st == k) = true := by simpa using hk
      have el : latS k (withT t m) none = ⟨(latF (withT t m)).1, (latF (withT t m)).2, t.ct⟩ := by unfold latS; rw [if_pos (show (withT t m).st = k from hk)]; rfl
      rw [f, ctl_true, hg]
      simp only [SB, Nat.reduceAdd]
      rw [hW]
      simp only [SB, Nat.reduceAdd]
      rw [hL]
      simp only [SB, Nat.reduceAdd]
      rw [el] at ih
      refine Eq.trans ih ?_
      simp only [Ws, lats, List.head?_nil, List.tail_nil, el]
    · have f : (t.st == k) = false := by simpa using hk
      have el : latS k (withT t m) none = ⟨0, 0, t.ct⟩ := by unfold latS; rw [if_neg (show ¬ (withT t m).st = k from hk)]; rfl
      rw [f, ctl_false]
      rw [el] at ih
      refine Eq.trans ih ?_
      simp only [Ws, lats, List.head?_nil, List.tail_nil, el]

theorem rlon_loop : ∀ (ts q : List Thr) (ms pm ys py : List Int) (acc : List Div.Shr), (∀ t ∈ ts, t.fb.length ≤ maxLen) → pm.length = q.length → ms.length = ts.length → py.length = q.length → ys.length = ts.length → acc.length = q.length → (q ++ ts).length ≤ 8 →
    lp E (denC E) 66 0 [] 2 { vals := [AV.sl 1 (intsK .i64 (pm ++ ms)), AV.sl 2 [], AV.sl 1 (intsK .i64 (py ++ ys)), AV.sl 6 (thK (q ++ ts)), AV.int .i64 ((q ++ ts).length : Int), AV.int .i64 (q.length : Int)], blks := [Blk.arr 3 (Div.shK acc)] } =
      some (Ex.exit 2, { vals := [], blks := [Blk.arr 3 (Div.shK (acc ++ lons (Ws ts ms) ys []))] })
  | [], q, ms, pm, ys, py, acc, hs, hp, hm, hp2, hm2, ha, h => by
    rw [r66_2, ctl_dec, if_neg (by simp)]
    simp [Ws, lons]
  | t :: ts, q, [], pm, ys, py, acc, hs, hp, hm, hp2, hm2, ha, h => by cases hm
  | t :: ts, q, m :: ms, pm, [], py, acc, hs, hp, hm, hp2, hm2, ha, h => by cases hm2
  | t :: ts, q, m :: ms, pm, y :: ys, py, acc, hs, hp, hm, hp2, hm2, ha, h => by
    have ht := hs t (List.mem_cons_self ..)
    have el : lonS (withT t m) y none = ⟨(lonF (withT t m) y).1, (lonF (withT t m) y).2, t.ct⟩ := rfl
    have ih := rlon_loop ts (q ++ [t]) ms (pm ++ [m]) ys (py ++ [y]) (acc ++ [lonS (withT t m) y none]) (fun x hx => hs x (List.mem_cons_of_mem _ hx)) (by simp [hp]) (by simpa using hm) (by simp [hp2]) (by simpa using hm2) (by simp [ha]) (by simp at h ⊢; omega)
    simp only [List.append_assoc, List.cons_append, List.nil_append, List.length_append, List.length_cons, List.length_nil] at ih h
    rw [r66_2, ctl_dec, if_pos (by simp; omega), getE_th]
    have hW := c_RWith t m
    have hL := c_RlonF (t := withT t m) ht y
    unfold thC at hW hL
    have hg : ∀ {α : Type} (K : List PV → Option α), getE (intsK .i64 (pm ++ m :: ms)) (q.length : Int) K = K [PV.int .i64 m] := fun K => by rw [← hp]; exact getE_int1 pm m ms K
    have hg2 : ∀ {α : Type} (K : List PV → Option α), getE (intsK .i64 (py ++ y :: ys)) (q.length : Int) K = K [PV.int .i64 y] := fun K => by rw [← hp2]; exact getE_int1 py y ys K
    have e2 : leN (((Div.shK acc).length + 1) * 24) 140737488355328 = true := by rw [Div.shK_length]; simp only [decide_eq_true_eq]; omega
    have f0 : ltB 0 ((([] : List (List PV)).length : Nat) : Int) = false := rfl
    rw [Div.shK_append] at ih
    unfold thC
    simp only [SB, Nat.reduceAdd, e2, f0]
    rw [w64 (n := (q.length : Int) + 1) (by omega)]
    have e1 : ((q.length : Int) + 1) = ((q.length + (0 + 1) : Nat) : Int) := by omega
    simp only [List.length_append, List.length_cons] at *
    rw [e1, hg]
    simp only [SB, Nat.reduceAdd]
    rw [hW]
    simp only [SB, Nat.reduceAdd]
    rw [hg2]
    simp only [SB, Nat.reduceAdd]
    rw [hL]
    simp only [SB, Nat.reduceAdd]
    rw [el] at ih
    refine Eq.trans ih ?_
    simp only [Ws, lons, List.head?_nil, List.tail_nil, el]

theorem ry_loop (s : Shp) (b1 b2 : List (List PV)) (bl : Blk) (hbl : bl = Blk.box [AV.int .i64 s.bw, AV.int .i64 s.sn, AV.sl 6 (thK s.ts)]) : ∀ (l p : List Int), (∀ y ∈ l, -5000 ≤ y ∧ y ≤ 5000) → (p ++ l).length ≤ 1000 → ∀ (Y : List (List PV)),
    lp E (denC E) 66 0 [] 0 { vals := [AV.sl 1 b1, AV.sl 2 b2, AV.sl 1 Y, AV.sl 1 (intsK .i64 (p ++ l)), AV.int .i64 ((p ++ l).length : Int), AV.int .i64 (p.length : Int)], blks := [bl] } =
      some (Ex.exit 0, { vals := [AV.sl 1 b1, AV.sl 2 b2, AV.sl 1 Y], blks := [bl] })
  | [], p, hs, h, Y => by
    rw [hbl, r66_0, ctl_dec, if_neg (by simp)]
  | y :: l, p, hs, h, Y => by
    have h1 := hs y (List.mem_cons_self ..)
    have ih := ry_loop s b1 b2 bl hbl l (p ++ [y]) (fun n hn => hs n (List.mem_cons_of_mem _ hn)) (by simp at h ⊢; omega) Y
    simp only [List.append_assoc, List.cons_append, List.nil_append, List.length_append, List.length_cons, List.length_nil] at ih h
    have e1 : ltB y (-5000) = false := by simp only [decide_eq_false_iff_not]; omega
    have e2 : ltB 5000 y = false := by simp only [decide_eq_false_iff_not]; omega
    rw [hbl] at ih ⊢
    rw [r66_0, ctl_dec, if_pos (by simp; omega), getE_int1]
    simp only [List.length_append, List.length_cons, SB, Nat.reduceAdd, e1, e2]
    rw [w64 (n := (p.length : Int) + 1) (by omega)]
    have e1 : ((p.length : Int) + 1) = ((p.length + (0 + 1) : Nat) : Int) := by omega
    rw [e1, ih]

theorem rlt_loop : ∀ (l p : List Int), (p ++ l).length ≤ 1000 →
    lp E (denC E) 96 0 [] 0 { vals := [AV.sl 2 [], AV.sl 1 (intsK .i64 (p ++ l)), AV.int .i64 ((p ++ l).length : Int), AV.int .i64 (p.length : Int)], blks := [] } =
      ctl (inI 0 5000 l) (some (Ex.exit 0, { vals := [AV.sl 2 []], blks := [] })) (some (Ex.ret, { vals := [AV.bool false], blks := [] }))
  | [], p, h => by
    rw [r96_0, ctl_dec, if_neg (by simp)]
    rfl
  | s :: l, p, h => by
    have ih := rlt_loop l (p ++ [s]) (by simp at h ⊢; omega)
    simp only [List.length_append, List.length_cons] at h
    rw [r96_0, ctl_dec, if_pos (by simp; omega), getE_int1]
    simp only [List.append_assoc, List.cons_append, List.nil_append, List.length_append, List.length_cons, List.length_nil] at ih
    simp only [List.length_append, List.length_cons, SB, Nat.reduceAdd]
    rw [w64 (n := (p.length : Int) + 1) (by omega)]
    have e1 : ((p.length : Int) + 1) = ((p.length + (0 + 1) : Nat) : Int) := by omega
    rw [e1, ih, in_or 0 5000]
    have e0 : inI 0 5000 (s :: l) = ((leB 0 s && leB s 5000) && inI 0 5000 l) := rfl
    rw [e0]
    cases (leB 0 s && leB s 5000) <;> simp only [SB, Nat.reduceAdd, Bool.false_and]

theorem c_Rranged {ms : List Int} (h : ms.length ≤ 1000) : denC E 96 [AV.sl 1 (intsK .i64 ms), AV.sl 2 []] [] = some ([RV.p (PV.bool (inI 0 5000 ms))], []) := by
  have hl := rlt_loop ms [] (by simpa using h)
  simp only [List.nil_append, List.length_nil] at hl
  have e0 : (((0 : Nat)) : Int) = 0 := rfl
  rw [e0] at hl
  rw [denC_eq, r96, intsK_length, hl]
  cases inI 0 5000 ms with
  | false => simp only [SB, Nat.reduceAdd]
  | true =>
    simp only [SB, Nat.reduceAdd]
    rw [r96_2, ctl_dec, if_neg (by simp)]
    simp only [SB, Nat.reduceAdd]

theorem c_Rbefore {s : Shp} (h : ThinS s) (ms : List Int) : denC E 95 [AV.agg (shpC s), AV.sl 1 (intsK .i64 ms), AV.sl 2 []] [] = some ([RV.p (PV.int .i64 (bif chkS s == 0 then (bif (ms.length : Int) != (s.ts.length : Int) then 8 else 0) else chkS s))], []) := by
  have hC := c_RCheckX h
  unfold shpC at hC ⊢
  have f0 : (((([] : List (List PV)).length : Nat) : Int) != 0) = false := rfl
  rw [denC_eq, r95, hC, thK_length, intsK_length]
  simp only [SB, Nat.reduceAdd, f0]
  cases hc : chkS s == 0 with
  | false =>
    have hc' : (chkS s != 0) = true := by simpa [bne] using hc
    simp only [SB, Nat.reduceAdd, hc', cond_false]
  | true =>
    have hc0 : chkS s = 0 := by simpa using hc
    have z0 : ((0 : Int) != 0) = false := rfl
    simp only [SB, Nat.reduceAdd, hc0, z0, cond_true]
    cases ((ms.length : Int) != (s.ts.length : Int)) <;> simp only [SB, Nat.reduceAdd, cond_true, cond_false]

theorem okS_thin {s : Shp} (h : OkShp s) : ThinS s := by
  refine ⟨by have := h.1; omega, fun t ht => ?_⟩
  have := (okT0_iff.1 (okT_iff.1 (h.2.2.2.2.2.2 t ht).1).1)
  omega

theorem okS_chk {s : Shp} (h : OkShp s) : chkS s = 0 := (chkS_ok (okS_thin h)).2 h

theorem c_RLaterals {s : Shp} {ms : List Int} (h : AOk s ms []) {k : Int} (hk : 0 ≤ k ∧ k ≤ 1) : denC E 64 [AV.agg (shpC s), AV.sl 1 (intsK .i64 ms), AV.sl 2 [], AV.int .i64 k] [] = some ([RV.p (PV.sl 3 (Div.shK (lats k (Ws s.ts ms) []))), RV.p (PV.int .i64 0)], []) := by
  have hB := c_Rbefore (okS_thin h.ok) ms
  have h8 := h.ok.1
  have hml := h.ml
  have hR := c_Rranged (ms := ms) (by omega)
  have hi : inI 0 5000 ms = true := inI_iff.2 h.mi
  have hl := rlat_loop k s.ts [] ms [] [] (fun t ht => (h.ok.2.2.2.2.2.2 t ht).2) rfl h.ml rfl (by simpa using h8)
  have e0 : (((0 : Nat)) : Int) = 0 := rfl
  have ea : Div.shK [] = [] := rfl
  simp only [List.nil_append, List.length_nil] at hl
  rw [e0, ea] at hl
  have e1 : ((ms.length : Int) != (s.ts.length : Int)) = false := by simp only [bne_eq_false_iff_eq]; omega
  have z1 : ((0 : Int) == 0) = true := rfl
  rw [okS_chk h.ok, z1, e1, cond_true, cond_false] at hB
  have f1 : ltB k 0 = false := by simp only [decide_eq_false_iff_not]; omega
  have f2 : ltB 1 k = false := by simp only [decide_eq_false_iff_not]; omega
  have z0 : ((0 : Int) != 0) = false := rfl
  unfold shpC at hB ⊢
  rw [denC_eq, r64, hB]
  simp only [SB, Nat.reduceAdd, z0]
  rw [hR]
  simp only [SB, Nat.reduceAdd, hi, f1, f2]
  rw [thK_length, hl]
  simp only [SB, Nat.reduceAdd]

theorem c_RSurges {s : Shp} {ms : List Int} (h : AOk s ms []) {ys : List Int} (hy : ys.length = s.ts.length) (hys : ∀ y ∈ ys, -5000 ≤ y ∧ y ≤ 5000) : denC E 66 [AV.agg (shpC s), AV.sl 1 (intsK .i64 ms), AV.sl 2 [], AV.sl 1 (intsK .i64 ys)] [] = some ([RV.own 3 (Div.shK (lons (Ws s.ts ms) ys [])), RV.p (PV.int .i64 0)], []) := by
  have hB := c_Rbefore (okS_thin h.ok) ms
  have h8 := h.ok.1
  have hml := h.ml
  have hR := c_Rranged (ms := ms) (by omega)
  have hi : inI 0 5000 ms = true := inI_iff.2 h.mi
  have hl0 := ry_loop s (intsK .i64 ms) [] _ rfl ys [] hys (by simp; omega) (intsK .i64 ys)
  have hl := rlon_loop s.ts [] ms [] ys [] [] (fun t ht => (h.ok.2.2.2.2.2.2 t ht).2) rfl h.ml rfl hy rfl (by simpa using h8)
  have e0 : (((0 : Nat)) : Int) = 0 := rfl
  have ea : Div.shK [] = [] := rfl
  simp only [List.nil_append, List.length_nil] at hl hl0
  rw [e0, ea] at hl
  rw [e0] at hl0
  have e1 : ((ms.length : Int) != (s.ts.length : Int)) = false := by simp only [bne_eq_false_iff_eq]; omega
  have e2 : ((ys.length : Int) != (s.ts.length : Int)) = false := by simp only [bne_eq_false_iff_eq]; omega
  have z1 : ((0 : Int) == 0) = true := rfl
  rw [okS_chk h.ok, z1, e1, cond_true, cond_false] at hB
  have z0 : ((0 : Int) != 0) = false := rfl
  unfold shpC at hB ⊢
  rw [denC_eq, r66, hB]
  simp only [SB, Nat.reduceAdd, z0, intsK_length, thK_length, e2]
  rw [hR]
  simp only [SB, Nat.reduceAdd, hi]
  rw [hl0]
  simp only [SB, Nat.reduceAdd, thK_length]
  rw [hl]
  simp only [SB, Nat.reduceAdd]

theorem rright_small {x y : Int} (hx : -5000 ≤ x ∧ x ≤ 5000) (hy : -5000 ≤ y ∧ y ≤ 5000) : denC E 103 [AV.agg [PV.int .i64 x, PV.int .i64 y]] [] = some ([RV.p (PV.bool true)], []) := by
  have f1 : leB (-5000) x = true := by simp only [decide_eq_true_eq]; omega
  have f2 : leB x 5000 = true := by simp only [decide_eq_true_eq]; omega
  have f3 : leB (-5000) y = true := by simp only [decide_eq_true_eq]; omega
  have f4 : leB y 5000 = true := by simp only [decide_eq_true_eq]; omega
  rw [denC_eq, r103, f1, f2, f3, f4]
  simp only [SB, Nat.reduceAdd]

theorem rtot_loop (s : Shp) (N : Nat) (hN : N ≤ 1000) : ∀ (l p : List (Int × Int)) (ts q : List Thr) (a b c : Int), s.ts = q ++ ts → (p ++ l).length = N → p.length = q.length → l.length = ts.length → SmL l 5000 →
    -5000 * (p.length : Int) ≤ a ∧ a ≤ 5000 * (p.length : Int) → -5000 * (p.length : Int) ≤ b ∧ b ≤ 5000 * (p.length : Int) → -5000 * (p.length : Int) ≤ c ∧ c ≤ 5000 * (p.length : Int) →
    lp E (denC E) 67 0 [] 0 { vals := [AV.sl 2 (arcK (p ++ l)), AV.int .i64 N, AV.int .i64 (p.length : Int)], blks := [Blk.box [AV.int .i64 s.bw, AV.int .i64 s.sn, AV.sl 6 (thK s.ts)], Blk.box [AV.int .i64 0, AV.int .i64 0, AV.int .i64 0], Blk.box [AV.int .i64 a, AV.int .i64 b, AV.int .i64 c]] } =
      some (Ex.exit 0, { vals := [], blks := [Blk.box [AV.int .i64 0, AV.int .i64 0, AV.int .i64 0], Blk.box [AV.int .i64 (tot ts l a b c).1, AV.int .i64 (tot ts l a b c).2.1, AV.int .i64 (tot ts l a b c).2.2]] })
  | [], p, ts, q, a, b, c, hs, hN2, hpq, hl, hm, ha, hb, hc => by
    have : ts = [] := by cases ts with | nil => rfl | cons => cases hl
    subst this
    rw [List.append_nil] at hN2
    rw [r67_0, ctl_dec, if_neg (by omega)]
    rfl
  | v :: l, p, [], q, a, b, c, hs, hN2, hpq, hl, hm, ha, hb, hc => by cases hl
  | v :: l, p, t :: ts, q, a, b, c, hs, hN2, hpq, hl, hm, ha, hb, hc => by
    have hv := hm v (List.mem_cons_self ..)
    have ih := fun a b c => rtot_loop s N hN l (p ++ [v]) ts (q ++ [t]) a b c (by rw [hs]; simp) (by rw [← hN2]; simp) (by simp [hpq]) (by simpa using hl) (fun x hx => hm x (List.mem_cons_of_mem _ hx))
    simp only [List.length_append, List.length_cons, List.length_nil] at hN2 ih
    rw [r67_0, ctl_dec, if_pos (by omega), getE_arc]
    have hsm := rright_small (x := v.1) (y := v.2) (by omega) (by omega)
    simp only [arcC, SB, Nat.reduceAdd]
    rw [hsm]
    simp only [SB, Nat.reduceAdd]
    have hg : ∀ {α : Type} (K : List PV → Option α), getE (thK s.ts) (p.length : Int) K = K (thC t) := fun K => by rw [hs, hpq]; exact getE_th q t ts K
    rw [hg]
    unfold thC
    simp only [SB, Nat.reduceAdd]
    rw [w64 (n := (p.length : Int) + 1) (by omega), w64 (n := a + v.1) (by omega), w64 (n := b + v.2) (by omega), w64 (n := c + v.2) (by omega)]
    have e1 : ((p.length : Int) + 1) = ((p.length + (0 + 1) : Nat) : Int) := by omega
    rw [e1]
    simp only [List.append_assoc, List.cons_append, List.nil_append] at ih
    by_cases ht : t.st = 0
    · have e2 : (t.st == 0) = true := by simpa using ht
      rw [e2, ctl_true, ih _ _ _ (by omega) (by omega) (by omega)]
      simp only [tot, if_pos ht]
    · have e2 : (t.st == 0) = false := by simpa using ht
      rw [e2, ctl_false, ih _ _ _ (by omega) (by omega) (by omega)]
      simp only [tot, if_neg ht]

theorem c_RTotal {s : Shp} (h : OkShp s) {l : List (Int × Int)} (hl : l.length = s.ts.length) (hm : SmL l 5000) : denC E 67 [AV.agg (shpC s), AV.sl 2 (arcK l)] [] =
    some ([RV.agg [PV.int .i64 (tot s.ts l 0 0 0).1, PV.int .i64 (tot s.ts l 0 0 0).2.1, PV.int .i64 (tot s.ts l 0 0 0).2.2], RV.p (PV.int .i64 0)], []) := by
  have hC := c_RCheckX (okS_thin h)
  rw [okS_chk h] at hC
  have hlp := rtot_loop s l.length (by have := h.1; omega) l [] s.ts [] 0 0 0 rfl rfl rfl hl hm (by simp) (by simp) (by simp)
  simp only [List.nil_append, List.length_nil] at hlp
  have e0 : (((0 : Nat)) : Int) = 0 := rfl
  rw [e0] at hlp
  unfold shpC at hC ⊢
  rw [denC_eq, r67, hC, arcK_length, thK_length]
  have e1 : ((0 : Int) != 0) = false := rfl
  have e2 : ((l.length : Int) != (s.ts.length : Int)) = false := by simp only [bne_eq_false_iff_eq]; omega
  simp only [SB, Nat.reduceAdd, e1, e2]
  rw [hlp]
  simp only [SB, Nat.reduceAdd]

theorem radd_loop (s : Shp) (d0 d1 d2 : Int) (M : List (List PV)) : ∀ (bs ys pb py acc : List Int), pb.length = py.length → bs.length = ys.length → acc.length = pb.length → (pb ++ bs).length ≤ 8 → (∀ y ∈ ys, -5000 ≤ y ∧ y ≤ 5000) → (∀ y ∈ bs, -5000 ≤ y ∧ y ≤ 5000) →
    lp E (denC E) 39 0 [] 0 { vals := [AV.sl 1 M, AV.sl 2 [], AV.sl 1 (intsK .i64 (pb ++ bs)), AV.sl 1 (intsK .i64 (py ++ ys)), AV.int .i64 ((pb ++ bs).length : Int), AV.int .i64 (pb.length : Int)], blks := [Blk.box [AV.int .i64 s.bw, AV.int .i64 s.sn, AV.sl 6 (thK s.ts)], Blk.box [AV.int .i64 d0, AV.int .i64 d1, AV.int .i64 d2], Blk.box [AV.sl 2 [], AV.int .i64 0, AV.int .i64 0, AV.int .i64 0, AV.int .i64 0, AV.int .i64 0, AV.int .i64 0], Blk.arr 1 (intsK .i64 acc)] } =
      some (Ex.exit 0, { vals := [AV.sl 1 M, AV.sl 2 []], blks := [Blk.box [AV.int .i64 s.bw, AV.int .i64 s.sn, AV.sl 6 (thK s.ts)], Blk.box [AV.int .i64 d0, AV.int .i64 d1, AV.int .i64 d2], Blk.box [AV.sl 2 [], AV.int .i64 0, AV.int .i64 0, AV.int .i64 0, AV.int .i64 0, AV.int .i64 0, AV.int .i64 0], Blk.arr 1 (intsK .i64 (acc ++ addL ys bs))] })
  | [], [], pb, py, acc, hd, hl, ha, h, hy, hb => by
    rw [r39_0, ctl_dec, if_neg (by simp)]
    simp [addL]
  | [], _ :: _, pb, py, acc, hd, hl, ha, h, hy, hb => by cases hl
  | _ :: _, [], pb, py, acc, hd, hl, ha, h, hy, hb => by cases hl
  | b :: bs, y :: ys, pb, py, acc, hd, hl, ha, h, hy, hb => by
    have y1 := hy y (List.mem_cons_self ..)
    have b1 := hb b (List.mem_cons_self ..)
    have ih := radd_loop s d0 d1 d2 M bs ys (pb ++ [b]) (py ++ [y]) (acc ++ [y + b]) (by simp [hd]) (by simpa using hl) (by simp [ha]) (by simp at h ⊢; omega) (fun z hz => hy z (List.mem_cons_of_mem _ hz)) (fun z hz => hb z (List.mem_cons_of_mem _ hz))
    simp only [List.append_assoc, List.cons_append, List.nil_append, List.length_append, List.length_cons, List.length_nil] at ih h
    have hg : ∀ {α : Type} (K : List PV → Option α), getE (intsK .i64 (py ++ y :: ys)) (pb.length : Int) K = K [PV.int .i64 y] := fun K => by rw [hd]; exact getE_int1 py y ys K
    have e2 : leN (((intsK .i64 acc).length + 1) * 8) 140737488355328 = true := by rw [intsK_length]; simp only [decide_eq_true_eq]; omega
    rw [r39_0, ctl_dec, if_pos (by simp; omega), getE_int1]
    simp only [SB, Nat.reduceAdd]
    rw [hg]
    simp only [SB, Nat.reduceAdd, e2]
    rw [w64 (n := b + y) (by omega), w64 (n := (pb.length : Int) + 1) (by omega)]
    have e1 : ((pb.length : Int) + 1) = ((pb.length + (0 + 1) : Nat) : Int) := by omega
    have e4 : intsK .i64 (acc ++ [y + b]) = intsK .i64 acc ++ [[PV.int .i64 (b + y)]] := by rw [Int.add_comm]; simp [intsK]
    simp only [List.length_append, List.length_cons]
    rw [e4] at ih
    rw [e1]
    refine Eq.trans ih ?_
    simp only [addL]

theorem rpair_loop (s : Shp) (d0 d1 d2 : Int) : ∀ (xs ys px py : List Int) (acc : List (Int × Int)), px.length = py.length → xs.length = ys.length → acc.length = px.length → (px ++ xs).length ≤ 8 →
    lp E (denC E) 39 0 [] 2 { vals := [AV.sl 1 (intsK .i64 (px ++ xs)), AV.int .i64 ((py ++ ys).length : Int), AV.int .i64 (px.length : Int)], blks := [Blk.box [AV.int .i64 s.bw, AV.int .i64 s.sn, AV.sl 6 (thK s.ts)], Blk.box [AV.int .i64 d0, AV.int .i64 d1, AV.int .i64 d2], Blk.box [AV.sl 2 [], AV.int .i64 0, AV.int .i64 0, AV.int .i64 0, AV.int .i64 0, AV.int .i64 0, AV.int .i64 0], Blk.arr 1 (intsK .i64 (py ++ ys)), Blk.box [AV.t (TV.hsl 5), AV.int .i64 0, AV.int .i64 0, AV.int .i64 0, AV.int .i64 0, AV.int .i64 0, AV.int .i64 0], Blk.arr 2 (arcK acc)] } =
      some (Ex.exit 2, { vals := [], blks := [Blk.box [AV.int .i64 s.bw, AV.int .i64 s.sn, AV.sl 6 (thK s.ts)], Blk.box [AV.int .i64 d0, AV.int .i64 d1, AV.int .i64 d2], Blk.box [AV.sl 2 [], AV.int .i64 0, AV.int .i64 0, AV.int .i64 0, AV.int .i64 0, AV.int .i64 0, AV.int .i64 0], Blk.box [AV.t (TV.hsl 4), AV.int .i64 0, AV.int .i64 0, AV.int .i64 0, AV.int .i64 0, AV.int .i64 0, AV.int .i64 0], Blk.arr 2 (arcK (acc ++ pairL xs ys))] })
  | [], [], px, py, acc, hp, hl, ha, h => by
    rw [r39_2, ctl_dec, if_neg (by simp; omega)]
    simp [pairL]
  | [], _ :: _, px, py, acc, hp, hl, ha, h => by cases hl
  | _ :: _, [], px, py, acc, hp, hl, ha, h => by cases hl
  | x :: xs, y :: ys, px, py, acc, hp, hl, ha, h => by
    have ih := rpair_loop s d0 d1 d2 xs ys (px ++ [x]) (py ++ [y]) (acc ++ [(x, y)]) (by simp [hp]) (by simpa using hl) (by simp [ha]) (by simp at h ⊢; omega)
    simp only [List.append_assoc, List.cons_append, List.nil_append, List.length_append, List.length_cons, List.length_nil] at ih h hl
    have i0 : leB 0 (px.length : Int) = true := by simp
    have i1 : ltB (px.length : Int) ((intsK .i64 (py ++ y :: ys)).length : Int) = true := by rw [intsK_length]; simp; omega
    have i2 : nth [] (intsK .i64 (py ++ y :: ys)) ((px.length : Int)).toNat = [PV.int .i64 y] := by
      rw [Int.toNat_natCast, hp]; exact Div.nth_mid py y ys
    have i3 : okCs [Sh.int .i64] (List.take 1 (List.drop 0 [PV.int .i64 y])) = true := rfl
    have e2 : leN (((arcK acc).length + 1) * 16) 140737488355328 = true := by rw [arcK_length]; simp only [decide_eq_true_eq]; omega
    rw [r39_2, ctl_dec, if_pos (by simp; omega), getE_int1]
    simp only [SB, Nat.reduceAdd, i0, i1, i2, i3, e2]
    rw [w64 (n := (px.length : Int) + 1) (by omega)]
    have e1 : ((px.length : Int) + 1) = ((px.length + (0 + 1) : Nat) : Int) := by omega
    simp only [List.length_append, List.length_cons]
    rw [e1]
    rw [arcK_append] at ih
    refine Eq.trans ih ?_
    simp only [pairL]

theorem c_Rless (a0 a1 a2 b0 b1 b2 : Int) (ha : Mod3 a0 a1 a2) (hb : Mod3 b0 b1 b2) : denC E 68 [AV.agg [PV.int .i64 a0, PV.int .i64 a1, PV.int .i64 a2], AV.agg [PV.int .i64 b0, PV.int .i64 b1, PV.int .i64 b2]] [] = some ([RV.agg [PV.int .i64 (a0 - b0), PV.int .i64 (a1 - b1), PV.int .i64 (a2 - b2)]], []) := by
  obtain ⟨x, y, z⟩ := ha
  obtain ⟨u, v, w⟩ := hb
  rw [denC_eq, r68, w64 (n := a0 - b0) (by omega), w64 (n := a1 - b1) (by omega), w64 (n := a2 - b2) (by omega)]

theorem c_RADivide {s : Shp} {ms : List Int} (h : AOk s ms []) {d0 d1 d2 : Int} (hd : Mod3 d0 d1 d2) :
    denC E 39 [AV.agg (shpC s), AV.sl 1 (intsK .i64 ms), AV.sl 2 (arcK []), AV.agg [PV.int .i64 d0, PV.int .i64 d1, PV.int .i64 d2]] [] =
      some ([RV.agg [PV.sl 2 (arcK (thA (Ws s.ts ms) [] d0 d1 d2)), PV.int .i64 (gvA s ms [] d0 d1 d2).1, PV.int .i64 (gvA s ms [] d0 d1 d2).2.1, PV.int .i64 (gvA s ms [] d0 d1 d2).2.2,
        PV.int .i64 (d0 - (gvA s ms [] d0 d1 d2).1), PV.int .i64 (d1 - (gvA s ms [] d0 d1 d2).2.1), PV.int .i64 (d2 - (gvA s ms [] d0 d1 d2).2.2)], RV.p (PV.int .i64 0)], []) := by
  obtain ⟨w1, w2, w3, w4, w5⟩ := wsa h
  have c0 := c_RLaterals h (k := 0) (by omega)
  have c1 := c_RLaterals h (k := 1) (by omega)
  have o0 := OkL_lats w2 w3 0 []
  have o1 := OkL_lats w2 w3 1 []
  have v0 := c_Rdv o0 hd.2.1
  have v1 := c_Rdv o1 hd.2.2
  have l0 := dv_length o0 hd.2.1
  have l1 := dv_length o1 hd.2.2
  rw [lats_length] at l0 l1
  have s0 := InR_small o0.2 (dv_in o0 hd.2.1)
  have s1 := InR_small o1.2 (dv_in o1 hd.2.2)
  have hy := ysA_len h hd
  have hx := xsA_len h hd
  have ht := thA_len h hd
  have o2 := OkL_lons w2 w3 (ys := ysA (Ws s.ts ms) [] d1 d2) (by rw [hy.1, w1]) []
  have c2 := c_RSurges h hy.1 hy.2
  have v2 := c_Rdv o2 hd.1
  have la := radd_loop s d0 d1 d2 (intsK .i64 ms) (dv (lats 0 (Ws s.ts ms) []) d1) (dv (lats 1 (Ws s.ts ms) []) d2) [] [] [] rfl (by rw [l0, l1]) rfl (by simpa [l0] using w2) s1 s0
  have hyy : addL (dv (lats 1 (Ws s.ts ms) []) d2) (dv (lats 0 (Ws s.ts ms) []) d1) = ysA (Ws s.ts ms) [] d1 d2 := rfl
  have hxx : dv (lons (Ws s.ts ms) (ysA (Ws s.ts ms) [] d1 d2) []) d0 = xsA (Ws s.ts ms) [] d0 d1 d2 := rfl
  have lb := rpair_loop s d0 d1 d2 (xsA (Ws s.ts ms) [] d0 d1 d2) (ysA (Ws s.ts ms) [] d1 d2) [] [] [] rfl (by rw [hx.1, hy.1]) rfl (by simpa [hx.1] using h.ok.1)
  simp only [List.nil_append, List.length_nil] at la lb
  have e0 : (((0 : Nat)) : Int) = 0 := rfl
  have ea : arcK [] = [] := rfl
  have ei : intsK .i64 [] = [] := rfl
  rw [e0, hyy, ei, l0, w1] at la
  rw [e0, ea, hy.1] at lb
  rw [hxx] at v2
  have hth : pairL (xsA (Ws s.ts ms) [] d0 d1 d2) (ysA (Ws s.ts ms) [] d1 d2) = thA (Ws s.ts ms) [] d0 d1 d2 := rfl
  rw [hth] at lb
  have hT := c_RTotal h.ok (l := thA (Ws s.ts ms) [] d0 d1 d2) ht.1 ht.2
  have hb := tot_bound s.ts (thA (Ws s.ts ms) [] d0 d1 d2) 0 0 0 5000 0 ht.2 (by omega) (by omega) (by omega) (by omega)
  rw [ht.1] at hb
  have h8 := h.ok.1
  have hg : tot s.ts (thA (Ws s.ts ms) [] d0 d1 d2) 0 0 0 = gvA s ms [] d0 d1 d2 := rfl
  rw [hg] at hT hb
  have hls := c_Rless d0 d1 d2 (gvA s ms [] d0 d1 d2).1 (gvA s ms [] d0 d1 d2).2.1 (gvA s ms [] d0 d1 d2).2.2 hd (by unfold Mod3; omega)
  have n1 := Div.nos_shs (lons (Ws s.ts ms) (ysA (Ws s.ts ms) [] d1 d2) [])
  have f0 : ((0 : Int) != 0) = false := rfl
  have hmd := c_Rmod (d0, d1, d2)
  have hmd2 : modB (d0, d1, d2) = true := modB_iff.2 hd
  rw [hmd2] at hmd
  simp only at hmd
  unfold shpC at c0 c1 c2 hT ⊢
  rw [ea, denC_eq, r39, c0]
  simp only [SB, Nat.reduceAdd, f0]
  rw [hmd]
  simp only [SB, Nat.reduceAdd]
  rw [c1]
  simp only [SB, Nat.reduceAdd]
  rw [v0]
  simp only [SB, Nat.reduceAdd]
  rw [v1]
  simp only [SB, Nat.reduceAdd]
  rw [thK_length, la]
  simp only [SB, Nat.reduceAdd]
  rw [c2]
  simp only [SB, Nat.reduceAdd, n1]
  rw [v2]
  simp only [SB, Nat.reduceAdd, thK_length]
  rw [lb]
  simp only [SB, Nat.reduceAdd]
  rw [hT]
  simp only [SB, Nat.reduceAdd]
  rw [hls]
  simp only [SB, Nat.reduceAdd]

theorem c_RDivideE {s : Shp} (h : OkShp s) {ms : List Int} (hm : ms.length ≤ 1000) (hb : ((ms.length : Int) != (s.ts.length : Int) || !inI 0 5000 ms) = true) (d0 d1 d2 : Int) :
    denC E 39 [AV.agg (shpC s), AV.sl 1 (intsK .i64 ms), AV.sl 2 [], AV.agg [PV.int .i64 d0, PV.int .i64 d1, PV.int .i64 d2]] [] =
      some ([RV.agg [PV.nils, PV.int .i64 0, PV.int .i64 0, PV.int .i64 0, PV.int .i64 0, PV.int .i64 0, PV.int .i64 0], RV.p (PV.int .i64 (bif (ms.length : Int) != (s.ts.length : Int) then 8 else 1))], []) := by
  have hB := c_Rbefore (okS_thin h) ms
  have hR := c_Rranged hm
  have z1 : ((0 : Int) == 0) = true := rfl
  rw [okS_chk h, z1, cond_true] at hB
  have z0 : ((0 : Int) != 0) = false := rfl
  have hL : denC E 64 [AV.agg (shpC s), AV.sl 1 (intsK .i64 ms), AV.sl 2 [], AV.int .i64 0] [] = some ([RV.p (PV.sl 3 []), RV.p (PV.int .i64 (bif (ms.length : Int) != (s.ts.length : Int) then 8 else 1))], []) := by
    unfold shpC at hB ⊢
    rw [denC_eq, r64, hB]
    cases hl : ((ms.length : Int) != (s.ts.length : Int)) with
    | true => simp only [SB, Nat.reduceAdd, cond_true] <;> rfl
    | false =>
      rw [hl, Bool.false_or] at hb
      have hb' : inI 0 5000 ms = false := by simpa using hb
      simp only [SB, Nat.reduceAdd, cond_false, z0]
      rw [hR]
      simp only [SB, Nat.reduceAdd, hb', Bool.true_or]
  have g4 : ((bif (ms.length : Int) != (s.ts.length : Int) then (8 : Int) else 1) != 0) = true := by cases ((ms.length : Int) != (s.ts.length : Int)) <;> rfl
  unfold shpC at hL ⊢
  rw [denC_eq, r39, hL]
  simp only [SB, Nat.reduceAdd, g4]

theorem c_MissingR {s : Shp} (h : ThinS s) {ms : List Int} (hm : ms.length ≤ 1000) (f : Int × Int × Int) :
    denC E 15 [AV.agg (shpC s), AV.sl 1 (intsK .i64 ms), AV.agg [PV.int .i64 f.1, PV.int .i64 f.2.1, PV.int .i64 f.2.2]] [] = some ([RV.agg (tri (misR s ms f)), RV.p (PV.int .i64 (misE s ms f))], []) := by
  have hD := c_DemandR h f
  unfold misR misE
  cases he : dmdE s f == 0 with
  | false =>
    have he' : (dmdE s f != 0) = true := by simpa [bne] using he
    unfold shpC tri at hD
    unfold shpC
    rw [denC_eq, r15, hD]
    simp only [SB, Nat.reduceAdd, he', he, cond_false, tri]
  | true =>
    have he0 : dmdE s f = 0 := by simpa using he
    obtain ⟨hok, hd⟩ := dmdE_ok h he0
    have hR : dmdR s f = dmdV s f := by unfold dmdR; rw [he, cond_true]
    rw [hR, he0] at hD
    have z0 : ((0 : Int) != 0) = false := rfl
    cases hb : ((ms.length : Int) != (s.ts.length : Int) || !inI 0 5000 ms) with
    | true =>
      have hE := c_RDivideE hok hm hb (dmdV s f).1 (dmdV s f).2.1 (dmdV s f).2.2
      unfold shpC tri at hD
      unfold shpC at hE ⊢
      rw [denC_eq, r15, hD]
      simp only [SB, Nat.reduceAdd, z0]
      rw [hE]
      simp only [SB, Nat.reduceAdd]
      cases hl : ((ms.length : Int) != (s.ts.length : Int)) with
      | true => simp only [cond_true, SB, Nat.reduceAdd] <;> rfl
      | false =>
        rw [hl, Bool.false_or] at hb
        have hb' : inI 0 5000 ms = false := by simpa using hb
        rw [hb']
        simp only [cond_true, cond_false, SB, Nat.reduceAdd] <;> rfl
    | false =>
      simp only [Bool.or_eq_false_iff, Bool.not_eq_false'] at hb
      have hA := c_RADivide (misE_ok h he0 hb.1 hb.2) hd
      have ea : arcK [] = [] := rfl
      rw [ea] at hA
      unfold shpC tri at hD
      unfold shpC at hA ⊢
      rw [denC_eq, r15, hD]
      simp only [SB, Nat.reduceAdd, z0]
      rw [hA]
      simp only [SB, Nat.reduceAdd, z0, hb.1, hb.2, cond_true, cond_false]
      rfl

theorem c_MeetsR {s : Shp} (h : ThinS s) {ms : List Int} (hm : ms.length ≤ 1000) (f : Int × Int × Int) :
    denC E 17 [AV.agg (shpC s), AV.sl 1 (intsK .i64 ms), AV.agg [PV.int .i64 f.1, PV.int .i64 f.2.1, PV.int .i64 f.2.2]] [] = some ([RV.p (PV.bool (metX s ms f))], []) := by
  have hM := c_MissingR h hm f
  unfold shpC tri at hM
  unfold shpC
  rw [denC_eq, r17, hM]
  simp only [SB, Nat.reduceAdd, Bool.and_true]
  unfold metX
  cases misE s ms f == 0 <;> simp only [SB, Nat.reduceAdd, Bool.false_and, Bool.true_and]

theorem rsvR_loop {s : Shp} (h : ThinS s) {ms : List Int} (hm : ms.length ≤ 1000) {f : Int × Int × Int} : ∀ (n : Nat) (out p : Int), p = 210 - 10 * (n : Int) → n ≤ 21 →
    lp E (denC E) 19 0 [] 0 { vals := [AV.sl 1 (intsK .i64 ms), AV.int .i64 out, AV.int .i64 p], blks := [Blk.box [AV.int .i64 s.bw, AV.int .i64 s.sn, AV.sl 6 (thK s.ts)], Blk.box [AV.int .i64 f.1, AV.int .i64 f.2.1, AV.int .i64 f.2.2]] } =
      some (Ex.exit 0, { vals := [AV.int .i64 (rsvF (fun p => metX s ms (prtX f p)) n out p)], blks := [] })
  | 0, out, p, hp, hn => by
    have e : leB p 200 = false := by simp only [decide_eq_false_iff_not]; omega
    rw [r19_0, e]
    simp only [SB, Nat.reduceAdd]
    rfl
  | n + 1, out, p, hp, hn => by
    have ih := rsvR_loop h hm (f := f) n p (p + 10) (by omega) (by omega)
    have e : leB p 200 = true := by simp only [decide_eq_true_eq]; omega
    have hP := c_PartR f p
    have hM := c_MeetsR h hm (prtX f p)
    unfold shpC at hM
    unfold tri at hP
    rw [r19_0, e, hP]
    simp only [SB, Nat.reduceAdd]
    rw [hM]
    simp only [SB, Nat.reduceAdd]
    rw [w64 (n := p + 10) (by omega), ih]
    have er : rsvF (fun p => metX s ms (prtX f p)) (n + 1) out p = if metX s ms (prtX f p) = true then rsvF (fun p => metX s ms (prtX f p)) n p (p + 10) else out := rfl
    rw [er]
    cases metX s ms (prtX f p) with
    | false => rfl
    | true => rfl

theorem c_ReserveR {s : Shp} (h : ThinS s) {ms : List Int} (hm : ms.length ≤ 1000) (f : Int × Int × Int) :
    denC E 19 [AV.agg (shpC s), AV.sl 1 (intsK .i64 ms), AV.agg [PV.int .i64 f.1, PV.int .i64 f.2.1, PV.int .i64 f.2.2]] [] = some ([RV.p (PV.int .i64 (rsvX s ms f))], []) := by
  have hv := c_rright f
  have hl := rsvR_loop h hm (f := f) 21 (-1) 0 (by omega) (by omega)
  unfold shpC rsvX
  rw [denC_eq, r19, hv]
  simp only [SB, Nat.reduceAdd]
  cases inL f with
  | false => simp only [SB, Nat.reduceAdd] <;> rfl
  | true =>
    simp only [SB, Nat.reduceAdd]
    rw [hl]
    simp only [SB, Nat.reduceAdd]

end Go.Proofs.YtclplmjlolpfbaaGreat.Vm

/- Capability: Polar and Without, of the program and of the document. -/
namespace Go.Proofs.YtclplmjlolpfbaaGreat.Vm
set_option linter.unusedVariables false
set_option linter.unusedSimpArgs false

theorem csX_le : ∀ i : Nat, i < 12 → (-10000 ≤ Cos (300 * (i : Int)) ∧ Cos (300 * (i : Int)) ≤ 10000) ∧ -10000 ≤ Sin (300 * (i : Int)) ∧ Sin (300 * (i : Int)) ≤ 10000 := by decide +kernel

theorem polX_one {k c : Int} (hk : 1 ≤ k ∧ k ≤ 5000) (hc : -10000 ≤ c ∧ c ≤ 10000) : -50000000 ≤ -k * c ∧ -k * c ≤ 50000000 := by
  have m := mul_le (a := -k) (b := c) (m := 5000) (n := 10000) (by omega) hc
  omega

theorem c_polpX {k : Int} (hk : 1 ≤ k ∧ k ≤ 5000) {c : Int} (hc : -10000 ≤ c ∧ c ≤ 10000) : denC E 44 [AV.int .i64 c, AV.t (TV.ptr 0 0)] [Blk.box [AV.int .i64 k]] = some ([RV.p (PV.int .i64 (Half (-k * c) 10000))], [Blk.box [AV.int .i64 k]]) := by
  have a := polX_one hk hc
  have e : (0 : Int) - k = -k := by omega
  rw [denC_eq, r44, w64 (n := 0 - k) (by omega), e, w64 (n := -k * c) (by omega), c_QHalf (by omega) (by omega)]
  simp only [SB, Nat.reduceAdd]

theorem polX_loop {s : Shp} (h : ThinS s) {ms : List Int} (hm : ms.length ≤ 1000) {k : Int} (hk : 1 ≤ k ∧ k ≤ 5000) : ∀ (n i : Nat) (acc : List Int), i + n = 12 → acc.length = i →
    lp E (denC E) 24 0 [] 0 { vals := [AV.sl 1 (intsK .i64 ms), AV.int .i64 (300 * (i : Int))], blks := [Blk.box [AV.int .i64 s.bw, AV.int .i64 s.sn, AV.sl 6 (thK s.ts)], Blk.box [AV.int .i64 k], Blk.arr 1 (intsK .i64 acc)] } =
      some (Ex.exit 0, { vals := [], blks := [Blk.arr 1 (intsK .i64 (acc ++ polX s ms k n i))] })
  | 0, i, acc, hi, ha => by
    have e : ltB (300 * (i : Int)) 3600 = false := by simp only [decide_eq_false_iff_not]; omega
    rw [r24_0, e]
    simp only [SB, Nat.reduceAdd, polX, List.append_nil]
  | n + 1, i, acc, hi, ha => by
    obtain ⟨F, hF⟩ : ∃ F : Int × Int × Int, F = (Half (-k * Cos (300 * (i : Int))) 10000, Half (-k * Sin (300 * (i : Int))) 10000, 0) := ⟨_, rfl⟩
    have ih := polX_loop h hm hk n (i + 1) (acc ++ [rsvX s ms F]) (by omega) (by simp [ha])
    have hc := csX_le i (by omega)
    have hR := c_ReserveX h hm F
    have e : ltB (300 * (i : Int)) 3600 = true := by simp only [decide_eq_true_eq]; omega
    have e2 : leN (((intsK .i64 acc).length + 1) * 8) 140737488355328 = true := by rw [intsK_length]; simp only [decide_eq_true_eq]; omega
    have e5 : polX s ms k (n + 1) i = rsvX s ms F :: polX s ms k n (i + 1) := by rw [hF]; rfl
    have f1 : Half (-k * Cos (300 * (i : Int))) 10000 = F.1 := by rw [hF]
    have f2 : Half (-k * Sin (300 * (i : Int))) 10000 = F.2.1 := by rw [hF]
    have f3 : F.2.2 = 0 := by rw [hF]
    unfold shpC at hR
    rw [f3] at hR
    rw [e5, r24_0, e, c_Cos]
    simp only [SB, Nat.reduceAdd]
    rw [c_polpX hk hc.1]
    simp only [SB, Nat.reduceAdd]
    rw [c_Sin]
    simp only [SB, Nat.reduceAdd]
    rw [c_polpX hk hc.2]
    simp only [SB, Nat.reduceAdd]
    rw [f1, f2, hR]
    have e3 : 300 * (i : Int) + 300 = 300 * ((i + 1 : Nat) : Int) := by omega
    simp only [SB, Nat.reduceAdd, e2]
    rw [w64 (n := 300 * (i : Int) + 300) (by omega), e3]
    have e4 : intsK .i64 (acc ++ [rsvX s ms F]) = intsK .i64 acc ++ [[PV.int .i64 (rsvX s ms F)]] := by simp [intsK]
    rw [e4] at ih
    refine Eq.trans ih ?_
    simp only [List.append_assoc, List.cons_append, List.nil_append]

theorem c_PolarX {s : Shp} (h : ThinS s) {ms : List Int} (hm : ms.length ≤ 1000) (k : Int) :
    denC E 24 [AV.agg (shpC s), AV.sl 1 (intsK .i64 ms), AV.int .i64 k] [] = some ([RV.p (PV.sl 1 (intsK .i64 (polR s ms k)))], []) := by
  unfold shpC polR
  rw [denC_eq, r24]
  simp only [SB, Nat.reduceAdd]
  cases hb : (ltB k 1 || ltB 5000 k) with
  | true => simp only [SB, Nat.reduceAdd] <;> rfl
  | false =>
    simp only [Bool.or_eq_false_iff, decide_eq_false_iff_not] at hb
    have hl := polX_loop h hm (k := k) (by omega) 12 0 [] (by omega) rfl
    have e0 : 300 * (((0 : Nat)) : Int) = 0 := rfl
    have ea : intsK .i64 [] = [] := rfl
    rw [e0, ea] at hl
    simp only [SB, Nat.reduceAdd]
    rw [hl]
    simp only [SB, Nat.reduceAdd, List.nil_append]

theorem polY_loop {s : Shp} (h : ThinS s) {ms : List Int} (hm : ms.length ≤ 1000) {k : Int} (hk : 1 ≤ k ∧ k ≤ 5000) : ∀ (n i : Nat) (acc : List Int), i + n = 12 → acc.length = i →
    lp E (denC E) 25 0 [] 0 { vals := [AV.sl 1 (intsK .i64 ms), AV.int .i64 k, AV.int .i64 (300 * (i : Int))], blks := [Blk.box [AV.int .i64 s.bw, AV.int .i64 s.sn, AV.sl 6 (thK s.ts)], Blk.arr 1 (intsK .i64 acc)] } =
      some (Ex.exit 0, { vals := [], blks := [Blk.arr 1 (intsK .i64 (acc ++ polX s ms k n i))] })
  | 0, i, acc, hi, ha => by
    have e : ltB (300 * (i : Int)) 3600 = false := by simp only [decide_eq_false_iff_not]; omega
    rw [r25_0, e]
    simp only [SB, Nat.reduceAdd, polX, List.append_nil]
  | n + 1, i, acc, hi, ha => by
    obtain ⟨F, hF⟩ : ∃ F : Int × Int × Int, F = (Half (-k * Cos (300 * (i : Int))) 10000, Half (-k * Sin (300 * (i : Int))) 10000, 0) := ⟨_, rfl⟩
    have ih := polY_loop h hm hk n (i + 1) (acc ++ [rsvX s ms F]) (by omega) (by simp [ha])
    have hc := csX_le i (by omega)
    have m1 := polX_one hk hc.1
    have m2 := polX_one hk hc.2
    have hR := c_ReserveR h hm F
    have e : ltB (300 * (i : Int)) 3600 = true := by simp only [decide_eq_true_eq]; omega
    have e2 : leN (((intsK .i64 acc).length + 1) * 8) 140737488355328 = true := by rw [intsK_length]; simp only [decide_eq_true_eq]; omega
    have e5 : polX s ms k (n + 1) i = rsvX s ms F :: polX s ms k n (i + 1) := by rw [hF]; rfl
    have f1 : Half (-k * Cos (300 * (i : Int))) 10000 = F.1 := by rw [hF]
    have f2 : Half (-k * Sin (300 * (i : Int))) 10000 = F.2.1 := by rw [hF]
    have f3 : F.2.2 = 0 := by rw [hF]
    have e6 : (0 : Int) - k = -k := by omega
    unfold shpC at hR
    rw [f3] at hR
    rw [e5, r25_0, e, c_RCos]
    simp only [SB, Nat.reduceAdd]
    rw [w64 (n := 0 - k) (by omega), e6, w64 (n := -k * Cos (300 * (i : Int))) (by omega), c_Round (by omega) (by omega)]
    simp only [SB, Nat.reduceAdd]
    rw [c_RSin]
    simp only [SB, Nat.reduceAdd]
    rw [w64 (n := -k * Sin (300 * (i : Int))) (by omega), c_Round (by omega) (by omega)]
    simp only [SB, Nat.reduceAdd]
    rw [f1, f2, hR]
    have e3 : 300 * (i : Int) + 300 = 300 * ((i + 1 : Nat) : Int) := by omega
    simp only [SB, Nat.reduceAdd, e2]
    rw [w64 (n := 300 * (i : Int) + 300) (by omega), e3]
    have e4 : intsK .i64 (acc ++ [rsvX s ms F]) = intsK .i64 acc ++ [[PV.int .i64 (rsvX s ms F)]] := by simp [intsK]
    rw [e4] at ih
    refine Eq.trans ih ?_
    simp only [List.append_assoc, List.cons_append, List.nil_append]

theorem c_PolarR {s : Shp} (h : ThinS s) {ms : List Int} (hm : ms.length ≤ 1000) (k : Int) :
    denC E 25 [AV.agg (shpC s), AV.sl 1 (intsK .i64 ms), AV.int .i64 k] [] = some ([RV.p (PV.sl 1 (intsK .i64 (polR s ms k)))], []) := by
  unfold shpC polR
  rw [denC_eq, r25]
  simp only [SB, Nat.reduceAdd]
  cases hb : (ltB k 1 || ltB 5000 k) with
  | true => simp only [SB, Nat.reduceAdd] <;> rfl
  | false =>
    simp only [Bool.or_eq_false_iff, decide_eq_false_iff_not] at hb
    have hl := polY_loop h hm (k := k) (by omega) 12 0 [] (by omega) rfl
    have e0 : 300 * (((0 : Nat)) : Int) = 0 := rfl
    have ea : intsK .i64 [] = [] := rfl
    rw [e0, ea] at hl
    simp only [SB, Nat.reduceAdd]
    rw [hl]
    simp only [SB, Nat.reduceAdd, List.nil_append]

theorem polX_length (s : Shp) (ms : List Int) (k : Int) : ∀ n i : Nat, (polX s ms k n i).length = n
  | 0, _ => rfl
  | n + 1, i => by simp [polX, polX_length s ms k n]

theorem polR_length (s : Shp) (ms : List Int) (k : Int) : (polR s ms k).length ≤ 12 := by
  unfold polR
  cases (ltB k 1 || ltB 5000 k) with
  | true => simp
  | false => rw [cond_false, polX_length]; exact Nat.le_refl _

theorem rwo_loop : ∀ (l p a : List Int), (p ++ l).length ≤ 1000 → a.length ≤ 1000 →
    lp E (denC E) 27 0 [] 0 { vals := [AV.sl 1 (intsK .i64 (p ++ l)), AV.int .i64 ((p ++ l).length : Int), AV.int .i64 (p.length : Int)], blks := [Blk.arr 1 (intsK .i64 a)] } =
      some (Ex.exit 0, { vals := [], blks := [Blk.arr 1 (intsK .i64 (wo a l))] })
  | [], p, a, h, ha => by
    rw [r27_0, ctl_dec, if_neg (by simp)]
    rfl
  | i :: l, p, a, h, ha => by
    have ih := fun a ha => rwo_loop l (p ++ [i]) a (by simp at h ⊢; omega) ha
    simp only [List.append_assoc, List.cons_append, List.nil_append, List.length_append, List.length_cons, List.length_nil] at ih h
    rw [r27_0, ctl_dec, if_pos (by simp; omega), getE_int1]
    simp only [SB, Nat.reduceAdd, List.length_append, List.length_cons, intsK_length]
    rw [w64 (n := (p.length : Int) + 1) (by omega)]
    have e1 : ((p.length : Int) + 1) = ((p.length + (0 + 1) : Nat) : Int) := by omega
    rw [e1]
    unfold wo
    by_cases h1 : 0 ≤ i ∧ i < (a.length : Int)
    · have f1 : leB 0 i = true := by simp only [decide_eq_true_eq]; omega
      have f2 : ltB i (a.length : Int) = true := by simp only [decide_eq_true_eq]; omega
      rw [if_pos h1]
      simp only [f1, f2, SB, Nat.reduceAdd]
      rw [Div.setEs_ints (by omega), ih _ (by simpa using ha)]
    · rw [if_neg h1]
      by_cases h2 : 0 ≤ i
      · have f1 : leB 0 i = true := by simp only [decide_eq_true_eq]; omega
        have f2 : ltB i (a.length : Int) = false := by simp only [decide_eq_false_iff_not]; omega
        simp only [f1, f2, SB, Nat.reduceAdd]
        rw [ih _ ha]
      · have f1 : leB 0 i = false := by simp only [decide_eq_false_iff_not]; omega
        simp only [f1, Bool.false_and, SB, Nat.reduceAdd]
        rw [ih _ ha]

theorem c_WithoutR {a l : List Int} (ha : a.length ≤ 1000) (hl : l.length ≤ 1000) :
    denC E 27 [AV.sl 1 (intsK .i64 a), AV.sl 1 (intsK .i64 l)] [] = some ([RV.p (PV.sl 1 (intsK .i64 (wo a l)))], []) := by
  have hw := rwo_loop l [] a (by simpa using hl) ha
  simp only [List.nil_append, List.length_nil] at hw
  have e0 : (((0 : Nat)) : Int) = 0 := rfl
  rw [e0] at hw
  have e : leN ((intsK .i64 a).length * 8) 140737488355328 = true := by rw [intsK_length]; simp only [decide_eq_true_eq]; omega
  rw [denC_eq, r27, e]
  simp only [SB, Nat.reduceAdd, intsK_length]
  rw [hw]
  simp only [SB, Nat.reduceAdd]

end Go.Proofs.YtclplmjlolpfbaaGreat.Vm
