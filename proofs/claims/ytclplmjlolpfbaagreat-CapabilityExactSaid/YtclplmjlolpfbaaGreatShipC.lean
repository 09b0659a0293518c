import Derived.Test.YtclplmjlolpfbaaGreatSectorS
/- Contracts of the functions that say what a force costs and what power permits. -/
namespace Go.Proofs.YtclplmjlolpfbaaGreat.Vm
set_option linter.unusedVariables false
set_option linter.unusedSimpArgs false

def smallT (x y : Int) : Bool := decide (-5000 ≤ x ∧ x ≤ 5000 ∧ -5000 ≤ y ∧ y ≤ 5000)
theorem smallT_iff {x y : Int} : smallT x y = true ↔ -5000 ≤ x ∧ x ≤ 5000 ∧ -5000 ≤ y ∧ y ≤ 5000 := by unfold smallT; simp

theorem c_tsmall (x y : Int) : denC E 94 [AV.agg [PV.int .i64 x, PV.int .i64 y]] [] = some ([RV.p (PV.bool (smallT x y))], []) := by
  rw [denC_eq, r94]
  simp only [SB, Nat.reduceAdd]
  have : (leB (maxI y x) 5000 && leB (-5000) (minI y x)) = smallT x y := by
    rw [Bool.eq_iff_iff, smallT_iff]
    unfold maxI minI
    simp only [Bool.and_eq_true, decide_eq_true_eq]
    split <;> split <;> omega
  rw [this]

def up (n d : Int) : Int := -((-n) / d)
theorem rCl_nil (F : Fun) : funK E F 125 [AV.sl 2 []] [] = both (some ([RV.p (PV.sl 2 [])], [])) (some ([RV.p (PV.sl 2 [])], [])) := by kernel_rfl
theorem rCl_cons (F : Fun) (e : List PV) (l : List (List PV)) : funK E F 125 [AV.sl 2 (e :: l)] [] = ctl (leN ((0 + (e :: l).length) * 16) 140737488355328) (some ([RV.p (PV.sl 2 ([] ++ e :: l))], [])) none := by kernel_rfl

theorem c_Clone {l : List (Int × Int)} (h : l.length ≤ 1000) : denC E 125 [AV.sl 2 (arcK l)] [] = some ([RV.p (PV.sl 2 (arcK l))], []) := by
  rw [denC_eq]
  cases l with
  | nil =>
    have : arcK [] = [] := rfl
    rw [this, rCl_nil, both_same]
  | cons a l =>
    have : arcK (a :: l) = arcC a :: arcK l := rfl
    rw [this, rCl_cons, List.nil_append, Nat.zero_add]
    have e : leN ((arcC a :: arcK l).length * 16) 140737488355328 = true := by
      simp only [List.length_cons, arcK_length, decide_eq_true_eq] at h ⊢
      omega
    rw [e, ctl_true]

def withT (t : Thr) (m : Int) : Thr := { t with mx := minI (maxI 0 m) t.mx }
theorem c_With {t : Thr} (h : t.fb.length ≤ 1000) (m : Int) : denC E 112 [AV.agg (thC t), AV.int .i64 m] [] = some ([RV.agg (thC (withT t m))], []) := by
  unfold thC
  rw [denC_eq, r112, c_Clone h]
  simp only [SB, Nat.reduceAdd]
  rfl
theorem withT_mx {t : Thr} (h : 0 ≤ t.mx) (m : Int) : 0 ≤ (withT t m).mx ∧ (withT t m).mx ≤ t.mx := by
  unfold withT minI maxI
  simp only
  split <;> split <;> omega
theorem withT_ok {t : Thr} (h : okT t = true) (m : Int) : okT (withT t m) = true := by
  have h0 := okT0_iff.1 (okT_iff.1 h).1
  have h1 := withT_mx (t := t) (by omega) m
  refine okT_iff.2 ⟨okT0_iff.2 ?_, (okT_iff.1 h).2⟩
  have e1 : (withT t m).kd = t.kd := rfl
  have e2 : (withT t m).st = t.st := rfl
  have e3 : (withT t m).rt = t.rt := rfl
  have e4 : (withT t m).ct = t.ct := rfl
  have e5 : (withT t m).fb = t.fb := rfl
  rw [e1, e2, e3, e4, e5]
  omega

end Go.Proofs.YtclplmjlolpfbaaGreat.Vm

/- Ships: the source, the check, what the thrusters give together. -/
namespace Go.Proofs.YtclplmjlolpfbaaGreat.Vm
set_option linter.unusedVariables false
set_option linter.unusedSimpArgs false

def thK (l : List Thr) : List (List PV) := l.map thC
theorem thK_length (l : List Thr) : (thK l).length = l.length := by simp [thK]
theorem thK_append (a b : List Thr) : thK (a ++ b) = thK a ++ thK b := by simp [thK]
theorem getE_th {α : Type} (p : List Thr) (s : Thr) (l : List Thr) (K : List PV → Option α) : getE (thK (p ++ s :: l)) (p.length : Int) K = K (thC s) := getE_midG thC p s l K

structure Shp where
  bw : Int
  sn : Int
  ts : List Thr

def shpC (s : Shp) : List PV := [PV.int .i64 s.bw, PV.int .i64 s.sn, PV.sl 6 (thK s.ts)]
def SrcS (s : Shp) (most : Nat) : Prop := 0 ≤ s.bw ∧ s.bw ≤ 60 ∧ 1 ≤ s.sn ∧ s.sn ≤ 40 ∧ s.ts.length ≤ most ∧ ∀ t ∈ s.ts, SrcT t

theorem ship_loop {L : List Int} (hL : L.length ≤ 600) (b1 : Blk) (h1 : b1 = Blk.box [AV.int .i64 0, AV.int .i64 0, AV.sl 6 []]) (c0 c1 : Int) : ∀ (n k : Nat) (acc : List Thr), k ≤ 600 → acc.length + n ≤ 1000 →
    ∃ (l : List Thr) (k' : Nat), lp E (denC E) 8 1 [] 0 { vals := [AV.int .i64 n], blks := [src L k, b1, Blk.box [AV.int .i64 c0, AV.int .i64 c1, AV.t (TV.hsl 3)], Blk.arr 6 (thK acc)] } =
      some (Ex.exit 0, { vals := [], blks := [src L k', b1, Blk.box [AV.int .i64 c0, AV.int .i64 c1, AV.t (TV.hsl 3)], Blk.arr 6 (thK (acc ++ l))] }) ∧ l.length = n ∧ (∀ t ∈ l, SrcT t) ∧ k' ≤ 600
  | 0, k, acc, hk, ha => by
    subst h1
    refine ⟨[], k, ?_, rfl, fun t ht => (by cases ht), hk⟩
    rw [r8_0, ctl_dec, if_neg (by omega), List.append_nil]
  | n + 1, k, acc, hk, ha => by
    obtain ⟨t, k2, hT, hs, hk2⟩ := c_Thruster hL hk
    obtain ⟨l, k', h2, h3, h4, h5⟩ := ship_loop hL b1 h1 c0 c1 n k2 (acc ++ [t]) hk2 (by simp; omega)
    subst h1
    refine ⟨t :: l, k', ?_, by simp [h3], fun x hx => ?_, h5⟩
    · rw [r8_0, ctl_dec, if_pos (by omega), hT]
      unfold thC
      simp only [SB, Nat.reduceAdd]
      have e2 : leN (((thK acc).length + 1) * 64) 140737488355328 = true := by rw [thK_length]; simp only [decide_eq_true_eq]; omega
      rw [e2, w64 (by omega)]
      have e3 : ((n + 1 : Nat) : Int) - 1 = (n : Nat) := by omega
      rw [e3]
      rw [thK_append] at h2
      simp only [ctl_true]
      refine Eq.trans h2 ?_
      simp only [List.append_assoc, List.cons_append, List.nil_append]
    · rcases List.mem_cons.1 hx with rfl | hx
      · exact hs
      · exact h4 x hx

theorem c_Ship {L : List Int} {k : Nat} (hL : L.length ≤ 600) (hk : k ≤ 600) {most : Nat} (hmost : most ≤ 8) :
    ∃ (s : Shp) (k' : Nat), denC E 8 [AV.t (.ptr 0 0), AV.int .i64 (most : Int)] [src L k] = some ([RV.agg (shpC s)], [src L k']) ∧ SrcS s most ∧ k' ≤ 600 := by
  have hk1 := at'_le hL hk
  have hk2 := at'_le hL hk1
  have hk3 := at'_le hL hk2
  have e1 : denC E 28 [AV.t (.ptr 0 0), AV.sl 1 [[PV.int .i64 0], [PV.int .i64 1], [PV.int .i64 30], [PV.int .i64 60]]] _ = _ := c_Pick hL hk (l := [0, 1, 30, 60]) (by decide)
  have e2 : denC E 28 [AV.t (.ptr 0 0), AV.sl 1 [[PV.int .i64 1], [PV.int .i64 25], [PV.int .i64 40]]] _ = _ := c_Pick hL hk1 (l := [1, 25, 40]) (by decide)
  have b1 := vPick_mem L k (l := [0, 1, 30, 60]) (by decide)
  have b2 := vPick_mem L (at' L k) (l := [1, 25, 40]) (by decide)
  have hN := c_N hL hk2 ((most : Int) + 1) (by omega)
  have bN := vN_bounds (L := L) (k := at' L (at' L k)) (n := (most : Int) + 1) (by omega)
  obtain ⟨m, hm⟩ : ∃ m : Nat, vN L (at' L (at' L k)) ((most : Int) + 1) = (m : Int) := ⟨_, (Int.toNat_of_nonneg bN.1).symm⟩
  rw [hm] at hN bN
  obtain ⟨l, k', h1, h2, h3, h4⟩ := ship_loop hL _ rfl (vPick L k [0, 1, 30, 60]) (vPick L (at' L k) [1, 25, 40]) m (at' L (at' L (at' L k))) [] hk3 (by simp; omega)
  have ea : thK [] = [] := rfl
  rw [ea] at h1
  refine ⟨⟨vPick L k [0, 1, 30, 60], vPick L (at' L k) [1, 25, 40], l⟩, k', ?_, ?_, h4⟩
  · rw [denC_eq, r8, e1]
    simp only [SB, Nat.reduceAdd]
    rw [e2]
    simp only [SB, Nat.reduceAdd]
    rw [w64 (n := (most : Int) + 1) (by omega), hN]
    simp only [SB, Nat.reduceAdd]
    rw [h1]
    simp only [SB, Nat.reduceAdd, List.nil_append]
    rfl
  · simp only [List.mem_cons, List.not_mem_nil, or_false] at b1 b2
    exact ⟨by simp only; omega, by simp only; omega, by simp only; omega, by simp only; omega, by simp only; omega, h3⟩

def SmL (l : List (Int × Int)) (m : Int) : Prop := ∀ v ∈ l, -m ≤ v.1 ∧ v.1 ≤ m ∧ -m ≤ v.2 ∧ v.2 ≤ m

def OkShp (s : Shp) : Prop := s.ts.length ≤ 8 ∧ 0 ≤ s.bw ∧ s.bw ≤ 200 ∧ 0 ≤ s.sn ∧ s.sn ≤ 200 ∧ ¬ (s.bw = 0 ∧ s.sn = 0) ∧ ∀ t ∈ s.ts, okT t = true ∧ t.fb.length ≤ maxLen
theorem c_Chk1 {t : Thr} (h : t.fb.length ≤ maxLen) : denC E 73 [AV.agg (thC t)] [] = some ([RV.p (PV.bool (!okT t))], []) := by
  have hV := c_TValid h
  unfold thC at hV ⊢
  rw [denC_eq, r73, hV]
  simp only [SB, Nat.reduceAdd]

theorem ixT_loop : ∀ (l p : List Thr), (∀ t ∈ l, okT t = true ∧ t.fb.length ≤ maxLen) → (p ++ l).length ≤ 1000 →
    lp E (denC E) 104 0 [AV.undef, AV.fn 73 []] 0 { vals := [AV.sl 6 (thK (p ++ l)), AV.int .i64 ((p ++ l).length : Int), AV.int .i64 (p.length : Int)], blks := [] } = some (Ex.exit 0, { vals := [], blks := [] })
  | [], p, hs, h => by
    rw [r104_0a, ctl_dec, if_neg (by simp)]
  | s :: l, p, hs, h => by
    have ih := ixT_loop l (p ++ [s]) (fun t ht => hs t (List.mem_cons_of_mem _ ht)) (by simp at h ⊢; omega)
    simp only [List.length_append, List.length_cons] at h
    obtain ⟨h1, h2⟩ := hs s (List.mem_cons_self ..)
    have hc := c_Chk1 h2
    rw [h1] at hc
    unfold thC at hc
    rw [r104_0a, ctl_dec, if_pos (by simp; omega), getE_th]
    simp only [List.append_assoc, List.cons_append, List.nil_append, List.length_append, List.length_cons, List.length_nil] at ih
    unfold thC
    simp only [List.length_append, List.length_cons, SB, Nat.reduceAdd]
    rw [hc]
    simp only [SB, Nat.reduceAdd]
    rw [w64 (n := (p.length : Int) + 1) (by omega)]
    have e1 : ((p.length : Int) + 1) = ((p.length + (0 + 1) : Nat) : Int) := by omega
    rw [e1, ih]

theorem c_Check {s : Shp} (h : OkShp s) : denC E 52 [AV.agg (shpC s)] [] = some ([RV.p (PV.int .i64 0)], []) := by
  obtain ⟨h1, h2, h3, h4, h5, h6, h7⟩ := h
  have hl := ixT_loop s.ts [] h7 (by simp; omega)
  simp only [List.nil_append, List.length_nil] at hl
  have e0 : (((0 : Nat)) : Int) = 0 := rfl
  rw [e0] at hl
  have hix : denC E 104 [AV.sl 6 (thK s.ts), AV.fn 73 []] [] = some ([RV.p (PV.int .i64 (-1))], []) := by
    rw [denC_eq, r104a, thK_length, hl]
    simp only [SB, Nat.reduceAdd]
  have hcf : denC E 72 [AV.sl 6 (thK s.ts), AV.fn 73 []] [] = some ([RV.p (PV.bool false)], []) := by
    rw [denC_eq, r72a, hix]
    simp only [SB, Nat.reduceAdd]
    rfl
  unfold shpC
  rw [denC_eq, r52, hcf, thK_length]
  have e1 : ltB 8 (s.ts.length : Int) = false := by simp only [decide_eq_false_iff_not]; omega
  have e2 : ltB (minI s.sn s.bw) 0 = false := by simp only [decide_eq_false_iff_not]; unfold minI; split <;> omega
  have e3 : ltB 200 (maxI s.sn s.bw) = false := by simp only [decide_eq_false_iff_not]; unfold maxI; split <;> omega
  have e4 : (s.bw == 0 && s.sn == 0) = false := by simp only [Bool.and_eq_false_iff, beq_eq_false_iff_ne]; omega
  simp only [SB, Nat.reduceAdd, e1, e2, e3, e4]

def tot : List Thr → List (Int × Int) → Int → Int → Int → Int × Int × Int
  | t :: ts, v :: l, a, b, c => if t.st = 0 then tot ts l (a + v.1) (b + v.2) c else tot ts l (a + v.1) b (c + v.2)
  | _, _, a, b, c => (a, b, c)

theorem tot_loop (s : Shp) (N : Nat) (hN : N ≤ 1000) : ∀ (l p : List (Int × Int)) (ts q : List Thr) (a b c : Int), s.ts = q ++ ts → (p ++ l).length = N → p.length = q.length → l.length = ts.length → SmL l 5000 →
    -5000 * (p.length : Int) ≤ a ∧ a ≤ 5000 * (p.length : Int) → -5000 * (p.length : Int) ≤ b ∧ b ≤ 5000 * (p.length : Int) → -5000 * (p.length : Int) ≤ c ∧ c ≤ 5000 * (p.length : Int) →
    lp E (denC E) 62 0 [] 1 { vals := [AV.sl 2 (arcK (p ++ l)), AV.int .i64 N, AV.int .i64 (p.length : Int)], blks := [Blk.box [AV.int .i64 s.bw, AV.int .i64 s.sn, AV.sl 6 (thK s.ts)], Blk.box [AV.int .i64 0, AV.int .i64 0, AV.int .i64 0], Blk.box [AV.int .i64 a, AV.int .i64 b, AV.int .i64 c]] } =
      some (Ex.exit 1, { vals := [], blks := [Blk.box [AV.int .i64 0, AV.int .i64 0, AV.int .i64 0], Blk.box [AV.int .i64 (tot ts l a b c).1, AV.int .i64 (tot ts l a b c).2.1, AV.int .i64 (tot ts l a b c).2.2]] })
  | [], p, ts, q, a, b, c, hs, hN2, hpq, hl, hm, ha, hb, hc => by
    have : ts = [] := by cases ts with | nil => rfl | cons => cases hl
    subst this
    rw [List.append_nil] at hN2
    rw [r62_1, ctl_dec, if_neg (by omega)]
    rfl
  | v :: l, p, [], q, a, b, c, hs, hN2, hpq, hl, hm, ha, hb, hc => by cases hl
  | v :: l, p, t :: ts, q, a, b, c, hs, hN2, hpq, hl, hm, ha, hb, hc => by
    have hv := hm v (List.mem_cons_self ..)
    have ih := fun a b c => tot_loop s N hN l (p ++ [v]) ts (q ++ [t]) a b c (by rw [hs]; simp) (by rw [← hN2]; simp) (by simp [hpq]) (by simpa using hl) (fun x hx => hm x (List.mem_cons_of_mem _ hx))
    simp only [List.length_append, List.length_cons, List.length_nil] at hN2 ih
    rw [r62_1, ctl_dec, if_pos (by omega), getE_arc]
    have hsm : smallT v.1 v.2 = true := smallT_iff.2 (by omega)
    simp only [arcC, SB, Nat.reduceAdd, c_tsmall, hsm]
    have hg : ∀ {α : Type} (K : List PV → Option α), getE (thK s.ts) (p.length : Int) K = K (thC t) := fun K => by rw [hs, hpq]; exact getE_th q t ts K
    rw [hg]
    unfold thC
    simp only [SB, Nat.reduceAdd]
    rw [w64 (n := (p.length : Int) + 1) (by omega), w64 (n := a + v.1) (by omega), w64 (n := b + v.2) (by omega), w64 (n := c + v.2) (by omega)]
    have e1 : ((p.length : Int) + 1) = ((p.length + (0 + 1) : Nat) : Int) := by omega
    rw [e1]
    simp only [List.append_assoc, List.cons_append, List.nil_append] at ih
    by_cases ht : t.st = 0
    · have e2 : (t.st == 0) = true := by simpa using ht
      rw [e2, ctl_true, ih _ _ _ (by omega) (by omega) (by omega)]
      simp only [tot, if_pos ht]
    · have e2 : (t.st == 0) = false := by simpa using ht
      rw [e2, ctl_false, ih _ _ _ (by omega) (by omega) (by omega)]
      simp only [tot, if_neg ht]

theorem tot_bound : ∀ (ts : List Thr) (l : List (Int × Int)) (a b c m : Int) (n : Int), SmL l m → 0 ≤ m → -n ≤ a ∧ a ≤ n → -n ≤ b ∧ b ≤ n → -n ≤ c ∧ c ≤ n →
    -(n + m * l.length) ≤ (tot ts l a b c).1 ∧ (tot ts l a b c).1 ≤ n + m * l.length ∧ -(n + m * l.length) ≤ (tot ts l a b c).2.1 ∧ (tot ts l a b c).2.1 ≤ n + m * l.length ∧ -(n + m * l.length) ≤ (tot ts l a b c).2.2 ∧ (tot ts l a b c).2.2 ≤ n + m * l.length
  | [], l, a, b, c, m, n, hm, h0, ha, hb, hc => by
    have := Int.mul_nonneg h0 (Int.natCast_nonneg l.length)
    unfold tot
    simp only
    omega
  | t :: ts, [], a, b, c, m, n, hm, h0, ha, hb, hc => by
    unfold tot
    simp only [List.length_nil, Int.ofNat_zero, Int.mul_zero, Int.natCast_zero]
    omega
  | t :: ts, v :: l, a, b, c, m, n, hm, h0, ha, hb, hc => by
    have hv := hm v (List.mem_cons_self ..)
    have e : m * ((l.length + 1 : Nat) : Int) = m * l.length + m := by
      have : ((l.length + 1 : Nat) : Int) = (l.length : Int) + 1 := by omega
      rw [this, Int.mul_add, Int.mul_one]
    unfold tot
    simp only [List.length_cons]
    rw [e]
    split
    · have := tot_bound ts l (a + v.1) (b + v.2) c m (n + m) (fun x hx => hm x (List.mem_cons_of_mem _ hx)) h0 (by omega) (by omega) (by omega)
      omega
    · have := tot_bound ts l (a + v.1) b (c + v.2) m (n + m) (fun x hx => hm x (List.mem_cons_of_mem _ hx)) h0 (by omega) (by omega) (by omega)
      omega

theorem c_Total {s : Shp} (h : OkShp s) {l : List (Int × Int)} (hl : l.length = s.ts.length) (hm : SmL l 5000) : denC E 62 [AV.agg (shpC s), AV.sl 2 (arcK l)] [] =
    some ([RV.agg [PV.int .i64 (tot s.ts l 0 0 0).1, PV.int .i64 (tot s.ts l 0 0 0).2.1, PV.int .i64 (tot s.ts l 0 0 0).2.2], RV.p (PV.int .i64 0)], []) := by
  have hC := c_Check h
  have hlp := tot_loop s l.length (by have := h.1; omega) l [] s.ts [] 0 0 0 rfl rfl rfl hl hm (by simp) (by simp) (by simp)
  simp only [List.nil_append, List.length_nil] at hlp
  have e0 : (((0 : Nat)) : Int) = 0 := rfl
  rw [e0] at hlp
  unfold shpC at hC ⊢
  rw [denC_eq, r62, hC, arcK_length, thK_length]
  have e1 : ((0 : Int) != 0) = false := rfl
  have e2 : ((l.length : Int) != (s.ts.length : Int)) = false := by simp only [bne_eq_false_iff_eq]; omega
  simp only [SB, Nat.reduceAdd, e1, e2]
  rw [hlp]
  simp only [SB, Nat.reduceAdd]

end Go.Proofs.YtclplmjlolpfbaaGreat.Vm
