import Derived.Test.YtclplmjlolpfbaaGreatShipC
import Derived.Test.YtclplmjlolpfbaaGreatShareG
/- Allocation: the shares of the thrusters, what is divided: plain part. -/
namespace Go.Proofs.YtclplmjlolpfbaaGreat.Vm
set_option linter.unusedVariables false
set_option linter.unusedSimpArgs false

theorem run_ex' {p : Int → Bool} (h0 : p 0 = true) (hb : ∀ n, p n = true → -5000 ≤ n ∧ n ≤ 5000) : ∃ a b : Int, IsRun p a b := by
  obtain ⟨i, j, _, _, h, _⟩ := run_ex h0 hb
  exact ⟨_, _, h⟩

theorem lat_ex (t : Thr) : ∃ q : Int × Int, IsLat t q.1 q.2 := by
  unfold IsLat
  cases hv : okT t with
  | false => exact ⟨(0, 0), by simp⟩
  | true =>
    have hv' := okT0_iff.1 (okT_iff.1 hv).1
    obtain ⟨a, b, h⟩ := run_ex' (p := fun y => alw t 0 y) (alw_zero (by omega)) (fun n hn => by have := alw_bounds hn; omega)
    exact ⟨(a, b), by simpa using h⟩
theorem lon_ex (t : Thr) (y : Int) : ∃ q : Int × Int, IsLon t y q.1 q.2 := by
  unfold IsLon
  by_cases hc : okT t = true ∧ alw t 0 y = true
  · have hv' := okT0_iff.1 (okT_iff.1 hc.1).1
    obtain ⟨a, b, h⟩ := run_ex' (p := fun x => alw t x y) hc.2 (fun n hn => by have := alw_bounds hn; omega)
    exact ⟨(a, b), by rw [if_pos hc]; exact h⟩
  · exact ⟨(0, 0), by rw [if_neg hc]; exact ⟨rfl, rfl⟩⟩
noncomputable def latF (t : Thr) : Int × Int := Classical.choose (lat_ex t)
noncomputable def lonF (t : Thr) (y : Int) : Int × Int := Classical.choose (lon_ex t y)
theorem latF_is (t : Thr) : IsLat t (latF t).1 (latF t).2 := Classical.choose_spec (lat_ex t)
theorem lonF_is (t : Thr) (y : Int) : IsLon t y (lonF t y).1 (lonF t y).2 := Classical.choose_spec (lon_ex t y)

theorem lat_in {t : Thr} (hv : okT t = true) : -t.mx ≤ (latF t).1 ∧ (latF t).1 ≤ 0 ∧ 0 ≤ (latF t).2 ∧ (latF t).2 ≤ t.mx := by
  have h := latF_is t
  unfold IsLat at h
  rw [if_pos hv] at h
  obtain ⟨h1, h2, h3, _⟩ := h
  have a := alw_bounds (h3 _ (Int.le_refl _) (by omega))
  have b := alw_bounds (h3 _ (by omega) (Int.le_refl _))
  omega
theorem lon_in {t : Thr} (hv : okT t = true) (y : Int) : -t.mx ≤ (lonF t y).1 ∧ (lonF t y).1 ≤ 0 ∧ 0 ≤ (lonF t y).2 ∧ (lonF t y).2 ≤ t.mx := by
  have h := lonF_is t y
  have hv' := okT0_iff.1 (okT_iff.1 hv).1
  unfold IsLon at h
  split at h
  · obtain ⟨h1, h2, h3, _⟩ := h
    have a := alw_bounds (h3 _ (Int.le_refl _) (by omega))
    have b := alw_bounds (h3 _ (by omega) (Int.le_refl _))
    omega
  · omega

theorem ratedF_in {lo hi last rate : Int} (h : lo ≤ hi) : lo ≤ (ratedF lo hi last rate).1 ∧ (ratedF lo hi last rate).1 ≤ (ratedF lo hi last rate).2 ∧ (ratedF lo hi last rate).2 ≤ hi := by
  unfold ratedF
  split
  · exact ⟨Int.le_refl _, h, Int.le_refl _⟩
  · have ha : lo ≤ maxI (last - rate) lo := by unfold maxI; split <;> omega
    have hc : minI (last + rate) hi ≤ hi := by unfold minI; split <;> omega
    split
    · exact ⟨ha, by assumption, hc⟩
    · split
      · exact ⟨Int.le_refl _, Int.le_refl _, h⟩
      · exact ⟨h, Int.le_refl _, Int.le_refl _⟩

def Ws : List Thr → List Int → List Thr
  | t :: ts, m :: ms => withT t m :: Ws ts ms
  | _, _ => []
theorem Ws_length : ∀ {ts : List Thr} {ms : List Int}, ms.length = ts.length → (Ws ts ms).length = ts.length
  | [], _, _ => by simp [Ws]
  | t :: ts, [], h => by cases h
  | t :: ts, m :: ms, h => by simp [Ws, Ws_length (ts := ts) (ms := ms) (by simpa using h)]
theorem Ws_ok : ∀ {ts : List Thr} {ms : List Int}, (∀ t ∈ ts, okT t = true) → ∀ w ∈ Ws ts ms, okT w = true
  | [], _, _, w, hw => by cases hw
  | t :: ts, [], h, w, hw => by cases hw
  | t :: ts, m :: ms, h, w, hw => by
    rcases List.mem_cons.1 hw with rfl | hw
    · exact withT_ok (h t (List.mem_cons_self ..)) m
    · exact Ws_ok (fun x hx => h x (List.mem_cons_of_mem _ hx)) w hw

def ratS (t : Thr) (q : Int × Int) (v : Option Int) : Div.Shr := match v with
  | none => ⟨q.1, q.2, t.ct⟩
  | some l => ⟨(ratedF q.1 q.2 l t.rt).1, (ratedF q.1 q.2 l t.rt).2, t.ct⟩
noncomputable def latS (k : Int) (t : Thr) (v : Option (Int × Int)) : Div.Shr := if t.st = k then ratS t (latF t) (v.map Prod.snd) else ⟨0, 0, t.ct⟩
noncomputable def lonS (t : Thr) (y : Int) (v : Option (Int × Int)) : Div.Shr := ratS t (lonF t y) (v.map Prod.fst)
noncomputable def lats (k : Int) : List Thr → List (Int × Int) → List Div.Shr
  | [], _ => []
  | t :: ts, ls => latS k t ls.head? :: lats k ts ls.tail
noncomputable def lons : List Thr → List Int → List (Int × Int) → List Div.Shr
  | t :: ts, y :: ys, ls => lonS t y ls.head? :: lons ts ys ls.tail
  | _, _, _ => []
theorem lats_length (k : Int) : ∀ (ts : List Thr) (ls : List (Int × Int)), (lats k ts ls).length = ts.length
  | [], _ => rfl
  | t :: ts, ls => by simp [lats, lats_length k ts]
theorem lons_length : ∀ (ts : List Thr) (ys : List Int) (ls : List (Int × Int)), ys.length = ts.length → (lons ts ys ls).length = ts.length
  | [], _, _, _ => by simp [lons]
  | t :: ts, [], _, h => by cases h
  | t :: ts, y :: ys, ls, h => by simp [lons, lons_length ts ys ls.tail (by simpa using h)]

theorem ratS_ok {t : Thr} (hv : okT t = true) {q : Int × Int} (hq : -t.mx ≤ q.1 ∧ q.1 ≤ q.2 ∧ q.2 ≤ t.mx) (v : Option Int) : Div.OkS (ratS t q v) ∧ q.1 ≤ (ratS t q v).lo ∧ (ratS t q v).hi ≤ q.2 := by
  have hv' := okT0_iff.1 (okT_iff.1 hv).1
  unfold ratS Div.OkS
  cases v with
  | none => simp only; omega
  | some l =>
    have := ratedF_in (last := l) (rate := t.rt) hq.2.1
    simp only; omega

theorem latS_ok {t : Thr} (hv : okT t = true) (k : Int) (v : Option (Int × Int)) : Div.OkS (latS k t v) := by
  have h := lat_in hv
  unfold latS
  split
  · exact (ratS_ok hv (by omega) _).1
  · have hv' := okT0_iff.1 (okT_iff.1 hv).1
    unfold Div.OkS
    simp only; omega
theorem lonS_ok {t : Thr} (hv : okT t = true) (y : Int) (v : Option (Int × Int)) : Div.OkS (lonS t y v) := by
  have h := lon_in hv y
  unfold lonS
  exact (ratS_ok hv (by omega) _).1

theorem lats_ok (k : Int) : ∀ {ts : List Thr} (ls : List (Int × Int)), (∀ t ∈ ts, okT t = true) → ∀ s ∈ lats k ts ls, Div.OkS s
  | [], _, _, s, hs => by cases hs
  | t :: ts, ls, h, s, hs => by
    rcases List.mem_cons.1 hs with rfl | hs
    · exact latS_ok (h t (List.mem_cons_self ..)) k _
    · exact lats_ok k ls.tail (fun x hx => h x (List.mem_cons_of_mem _ hx)) s hs
theorem lons_ok : ∀ {ts : List Thr} (ys : List Int) (ls : List (Int × Int)), (∀ t ∈ ts, okT t = true) → ∀ s ∈ lons ts ys ls, Div.OkS s
  | [], _, _, _, s, hs => by cases hs
  | t :: ts, [], _, _, s, hs => by cases hs
  | t :: ts, y :: ys, ls, h, s, hs => by
    rcases List.mem_cons.1 hs with rfl | hs
    · exact lonS_ok (h t (List.mem_cons_self ..)) y _
    · exact lons_ok ys ls.tail (fun x hx => h x (List.mem_cons_of_mem _ hx)) s hs

theorem OkL_lats {ts : List Thr} (hl : ts.length ≤ 8) (h : ∀ t ∈ ts, okT t = true) (k : Int) (ls : List (Int × Int)) : Div.OkL (lats k ts ls) := ⟨by rw [lats_length]; exact hl, lats_ok k ls h⟩
theorem OkL_lons {ts : List Thr} (hl : ts.length ≤ 8) (h : ∀ t ∈ ts, okT t = true) {ys : List Int} (hy : ys.length = ts.length) (ls : List (Int × Int)) : Div.OkL (lons ts ys ls) := ⟨by rw [lons_length _ _ _ hy]; exact hl, lons_ok ys ls h⟩

def InR : List Div.Shr → List Int → Prop
  | [], [] => True
  | s :: l, x :: xs => (s.lo ≤ x ∧ x ≤ s.hi) ∧ InR l xs
  | _, _ => False
theorem Up_InR : ∀ {l : List Div.Shr} {xs ys : List Int}, Div.Up l xs ys → InR l xs
  | [], [], [], _ => trivial
  | [], [], _ :: _, h => h.elim
  | [], _ :: _, _, h => h.elim
  | _ :: _, [], _, h => h.elim
  | _ :: _, _ :: _, [], h => h.elim
  | s :: l, x :: xs, y :: ys, h => ⟨by have := h.1; omega, Up_InR h.2⟩
theorem InR_length : ∀ {l : List Div.Shr} {xs : List Int}, InR l xs → xs.length = l.length
  | [], [], _ => rfl
  | [], _ :: _, h => h.elim
  | _ :: _, [], h => h.elim
  | s :: l, x :: xs, h => by simp [InR_length h.2]

def totC (l : List Div.Shr) (total : Int) : Int := Div.clamp total (Div.lows l) (Div.highs l)
theorem dv_ex (l : List Div.Shr) (total : Int) : ∃ r : Int, Div.OkL l → -500000 ≤ total ∧ total ≤ 500000 → Div.IsP l (totC l total) r ∧
    denC E 59 [AV.sl 3 (Div.shK l), AV.int .i64 total] [] = some ([RV.own 1 (intsK .i64 (Div.divL l (totC l total) r)), RV.p (PV.int .i64 (total - totC l total)), RV.p (PV.int .i64 0)], []) := by
  by_cases h : Div.OkL l ∧ -500000 ≤ total ∧ total ≤ 500000
  · obtain ⟨r, h1, h2⟩ := Div.c_Divide h.1 h.2
    exact ⟨r, fun _ _ => ⟨h1, h2⟩⟩
  · exact ⟨0, fun h1 h2 => absurd ⟨h1, h2⟩ h⟩
noncomputable def prF (l : List Div.Shr) (total : Int) : Int := Classical.choose (dv_ex l total)
noncomputable def dv (l : List Div.Shr) (total : Int) : List Int := Div.divL l (totC l total) (prF l total)
theorem dv_isP {l : List Div.Shr} {total : Int} (h : Div.OkL l) (ht : -500000 ≤ total ∧ total ≤ 500000) : Div.IsP l (totC l total) (prF l total) := (Classical.choose_spec (dv_ex l total) h ht).1
theorem c_dv {l : List Div.Shr} {total : Int} (h : Div.OkL l) (ht : -500000 ≤ total ∧ total ≤ 500000) :
    denC E 59 [AV.sl 3 (Div.shK l), AV.int .i64 total] [] = some ([RV.own 1 (intsK .i64 (dv l total)), RV.p (PV.int .i64 (total - totC l total)), RV.p (PV.int .i64 0)], []) := (Classical.choose_spec (dv_ex l total) h ht).2
theorem totC_in {l : List Div.Shr} (h : Div.OkL l) (total : Int) : Div.lows l ≤ totC l total ∧ totC l total ≤ Div.highs l := Div.clamp_in (Div.ends_in h.2).2.1
theorem dv_sum {l : List Div.Shr} {total : Int} (h : Div.OkL l) (ht : -500000 ≤ total ∧ total ≤ 500000) : Div.sumI (dv l total) = totC l total := Div.divL_sum h (totC_in h total) (dv_isP h ht)
theorem dv_up {l : List Div.Shr} {a b : Int} (h : Div.OkL l) (ha : -500000 ≤ a ∧ a ≤ 500000) (hb : -500000 ≤ b ∧ b ≤ 500000) (hab : a ≤ b) : Div.Up l (dv l a) (dv l b) :=
  Div.divL_up h (totC_in h a) (totC_in h b) (by unfold totC; exact Div.clamp_mono hab) (dv_isP h ha) (dv_isP h hb)
theorem dv_in {l : List Div.Shr} {a : Int} (h : Div.OkL l) (ha : -500000 ≤ a ∧ a ≤ 500000) : InR l (dv l a) := Up_InR (dv_up h ha ha (Int.le_refl _))
theorem dv_length {l : List Div.Shr} {a : Int} (h : Div.OkL l) (ha : -500000 ≤ a ∧ a ≤ 500000) : (dv l a).length = l.length := InR_length (dv_in h ha)

def addL : List Int → List Int → List Int
  | y :: ys, b :: bs => (y + b) :: addL ys bs
  | _, _ => []
def pairL : List Int → List Int → List (Int × Int)
  | x :: xs, y :: ys => (x, y) :: pairL xs ys
  | _, _ => []
theorem addL_length : ∀ {a b : List Int}, a.length = b.length → (addL a b).length = a.length
  | [], _, _ => by simp [addL]
  | _ :: _, [], h => by cases h
  | x :: a, y :: b, h => by simp [addL, addL_length (a := a) (b := b) (by simpa using h)]
theorem pairL_length : ∀ {a b : List Int}, a.length = b.length → (pairL a b).length = a.length
  | [], _, _ => by simp [pairL]
  | _ :: _, [], h => by cases h
  | x :: a, y :: b, h => by simp [pairL, pairL_length (a := a) (b := b) (by simpa using h)]

noncomputable def ysA (W : List Thr) (ls : List (Int × Int)) (bow stern : Int) : List Int := addL (dv (lats 1 W ls) stern) (dv (lats 0 W ls) bow)
noncomputable def xsA (W : List Thr) (ls : List (Int × Int)) (surge bow stern : Int) : List Int := dv (lons W (ysA W ls bow stern) ls) surge
noncomputable def thA (W : List Thr) (ls : List (Int × Int)) (surge bow stern : Int) : List (Int × Int) := pairL (xsA W ls surge bow stern) (ysA W ls bow stern)

theorem ys_small : ∀ {ts : List Thr} {ls : List (Int × Int)} {a b : List Int}, (∀ t ∈ ts, okT t = true) → InR (lats 1 ts ls) a → InR (lats 0 ts ls) b → ∀ y ∈ addL a b, -5000 ≤ y ∧ y ≤ 5000
  | [], _, [], _, _, _, _, y, hy => by cases hy
  | [], _, _ :: _, _, _, h, _, _, _ => h.elim
  | t :: ts, _, [], _, _, h, _, _, _ => h.elim
  | t :: ts, _, _ :: _, [], _, _, h, _, _ => h.elim
  | t :: ts, ls, x :: a, z :: b, hv, ha, hb, y, hy => by
    have hv1 := hv t (List.mem_cons_self ..)
    have o1 := latS_ok hv1 1 ls.head?
    have o0 := latS_ok hv1 0 ls.head?
    have ha1 := ha.1
    have hb1 := hb.1
    rcases List.mem_cons.1 hy with rfl | hy
    · unfold Div.OkS at o1 o0
      unfold latS at ha1 hb1 o1 o0
      by_cases h1 : t.st = 1
      · rw [if_pos h1] at ha1 o1
        rw [if_neg (by omega)] at hb1
        simp only at hb1
        omega
      · rw [if_neg h1] at ha1
        simp only at ha1
        by_cases h0 : t.st = 0
        · rw [if_pos h0] at hb1 o0
          omega
        · rw [if_neg h0] at hb1
          simp only at hb1
          omega
    · exact ys_small (fun x hx => hv x (List.mem_cons_of_mem _ hx)) ha.2 hb.2 y hy

theorem InR_small : ∀ {l : List Div.Shr} {xs : List Int}, (∀ s ∈ l, Div.OkS s) → InR l xs → ∀ x ∈ xs, -5000 ≤ x ∧ x ≤ 5000
  | [], [], _, _, x, hx => by cases hx
  | [], _ :: _, _, h, _, _ => h.elim
  | _ :: _, [], _, h, _, _ => h.elim
  | s :: l, y :: xs, hs, h, x, hx => by
    rcases List.mem_cons.1 hx with rfl | hx
    · have := hs s (List.mem_cons_self ..)
      have := h.1
      unfold Div.OkS at *
      omega
    · exact InR_small (fun z hz => hs z (List.mem_cons_of_mem _ hz)) h.2 x hx

theorem pair_small : ∀ {xs ys : List Int}, (∀ x ∈ xs, -5000 ≤ x ∧ x ≤ 5000) → (∀ y ∈ ys, -5000 ≤ y ∧ y ≤ 5000) → SmL (pairL xs ys) 5000
  | [], _, _, _, v, hv => by cases hv
  | _ :: _, [], _, _, v, hv => by cases hv
  | x :: xs, y :: ys, h1, h2, v, hv => by
    rcases List.mem_cons.1 hv with rfl | hv
    · have a := h1 x (List.mem_cons_self ..)
      have b := h2 y (List.mem_cons_self ..)
      simp only
      omega
    · exact pair_small (fun z hz => h1 z (List.mem_cons_of_mem _ hz)) (fun z hz => h2 z (List.mem_cons_of_mem _ hz)) v hv

end Go.Proofs.YtclplmjlolpfbaaGreat.Vm

/- Allocation: contracts. -/
namespace Go.Proofs.YtclplmjlolpfbaaGreat.Vm
set_option linter.unusedVariables false
set_option linter.unusedSimpArgs false

theorem getE_int1 {α : Type} (p : List Int) (x : Int) (l : List Int) (K : List PV → Option α) : getE (intsK .i64 (p ++ x :: l)) (p.length : Int) K = K [PV.int .i64 x] := getE_midG (fun n => [PV.int .i64 n]) p x l K
theorem reps_ints : ∀ n : Nat, reps [PV.int .i64 0] n = intsK .i64 (List.replicate n 0)
  | 0 => rfl
  | n + 1 => by
    show [PV.int .i64 0] :: reps [PV.int .i64 0] n = _
    rw [reps_ints n]
    rfl

theorem wi_loop (lo hi : Int) : ∀ (l p : List Int), (∀ n ∈ l, lo ≤ n ∧ n ≤ hi) → (p ++ l).length ≤ 10000 →
    lp E (denC E) 109 2 [AV.undef, AV.fn 76 [TV.ptr 0 0, TV.ptr 1 0]] 0 { vals := [AV.sl 1 (intsK .i64 (p ++ l)), AV.int .i64 ((p ++ l).length : Int), AV.int .i64 (p.length : Int)], blks := [Blk.box [AV.int .i64 lo], Blk.box [AV.int .i64 hi]] } =
      some (Ex.exit 0, { vals := [], blks := [Blk.box [AV.int .i64 lo], Blk.box [AV.int .i64 hi]] })
  | [], p, hs, h => by
    rw [r109_0a, ctl_dec, if_neg (by simp)]
  | s :: l, p, hs, h => by
    have h1 := hs s (List.mem_cons_self ..)
    have ih := wi_loop lo hi l (p ++ [s]) (fun n hn => hs n (List.mem_cons_of_mem _ hn)) (by simp at h ⊢; omega)
    simp only [List.length_append, List.length_cons] at h
    rw [r109_0a, ctl_dec, if_pos (by simp; omega), getE_int1]
    simp only [List.append_assoc, List.cons_append, List.nil_append, List.length_append, List.length_cons, List.length_nil] at ih
    have hw : denC E 76 [AV.int .i64 s, AV.t (.ptr 0 0), AV.t (.ptr 1 0)] [Blk.box [AV.int .i64 lo], Blk.box [AV.int .i64 hi]] = some ([RV.p (PV.bool false)], [Blk.box [AV.int .i64 lo], Blk.box [AV.int .i64 hi]]) := by
      rw [denC_eq, r76]
      have e1 : ltB s lo = false := by simp only [decide_eq_false_iff_not]; omega
      have e2 : ltB hi s = false := by simp only [decide_eq_false_iff_not]; omega
      simp only [SB, Nat.reduceAdd, e1, e2]
    simp only [List.length_append, List.length_cons, SB, Nat.reduceAdd]
    rw [hw]
    simp only [SB, Nat.reduceAdd]
    rw [w64 (n := (p.length : Int) + 1) (by omega)]
    have e1 : ((p.length : Int) + 1) = ((p.length + (0 + 1) : Nat) : Int) := by omega
    rw [e1, ih]

theorem c_within {l : List Int} {lo hi : Int} (hs : ∀ n ∈ l, lo ≤ n ∧ n ≤ hi) (h : l.length ≤ 10000) : denC E 53 [AV.sl 1 (intsK .i64 l), AV.int .i64 lo, AV.int .i64 hi] [] = some ([RV.p (PV.bool true)], []) := by
  have hl := wi_loop lo hi l [] hs (by simpa using h)
  simp only [List.nil_append, List.length_nil] at hl
  have e0 : (((0 : Nat)) : Int) = 0 := rfl
  rw [e0] at hl
  have hix : denC E 109 [AV.sl 1 (intsK .i64 l), AV.fn 76 [TV.ptr 0 0, TV.ptr 1 0]] [Blk.box [AV.int .i64 lo], Blk.box [AV.int .i64 hi]] = some ([RV.p (PV.int .i64 (-1))], [Blk.box [AV.int .i64 lo], Blk.box [AV.int .i64 hi]]) := by
    rw [denC_eq, r109a, intsK_length, hl]
    simp only [SB, Nat.reduceAdd]
  have hcf : denC E 75 [AV.sl 1 (intsK .i64 l), AV.fn 76 [TV.ptr 0 0, TV.ptr 1 0]] [Blk.box [AV.int .i64 lo], Blk.box [AV.int .i64 hi]] = some ([RV.p (PV.bool false)], [Blk.box [AV.int .i64 lo], Blk.box [AV.int .i64 hi]]) := by
    rw [denC_eq, r75a, hix]
    simp only [SB, Nat.reduceAdd]
    rfl
  rw [denC_eq, r53, hcf]
  simp only [SB, Nat.reduceAdd]

structure AOk (s : Shp) (ms : List Int) (ls : List (Int × Int)) : Prop where
  ok : OkShp s
  ml : ms.length = s.ts.length
  mi : ∀ m ∈ ms, 0 ≤ m ∧ m ≤ 5000
  ll : ls = [] ∨ ls.length = s.ts.length
  li : SmL ls 5000

theorem beg1_loop (ls b11 : List (List PV)) : ∀ (ts q : List Thr) (ms pm : List Int) (acc : List Thr), (∀ t ∈ ts, okT t = true) → pm.length = q.length → ms.length = ts.length → acc.length = q.length → (q ++ ts).length ≤ 8 →
    lp E (denC E) 83 0 [] 1 { vals := [AV.sl 1 (intsK .i64 (pm ++ ms)), AV.sl 2 ls, AV.sl 6 (thK (q ++ ts)), AV.int .i64 ((q ++ ts).length : Int), AV.int .i64 (q.length : Int)], blks := [Blk.box [AV.sl 6 [], AV.sl 2 []], Blk.box [AV.t (TV.hsl 2), AV.sl 2 b11], Blk.arr 6 (thK acc)] } =
      some (Ex.exit 1, { vals := [AV.sl 2 ls], blks := [Blk.box [AV.sl 6 [], AV.sl 2 []], Blk.box [AV.t (TV.hsl 2), AV.sl 2 b11], Blk.arr 6 (thK (acc ++ Ws ts ms))] })
  | [], q, ms, pm, acc, hs, hp, hm, ha, h => by
    rw [r83_1, ctl_dec, if_neg (by simp)]
    simp [Ws]
  | t :: ts, q, [], pm, acc, hs, hp, hm, ha, h => by cases hm
  | t :: ts, q, m :: ms, pm, acc, hs, hp, hm, ha, h => by
    have ht := hs t (List.mem_cons_self ..)
    have ht4 := (okT0_iff.1 (okT_iff.1 ht).1)
    have ih := beg1_loop ls b11 ts (q ++ [t]) ms (pm ++ [m]) (acc ++ [withT t m]) (fun x hx => hs x (List.mem_cons_of_mem _ hx)) (by simp [hp]) (by simpa using hm) (by simp [ha]) (by simp at h ⊢; omega)
    simp only [List.append_assoc, List.cons_append, List.nil_append, List.length_append, List.length_cons, List.length_nil] at ih h
    rw [r83_1, ctl_dec, if_pos (by simp; omega), getE_th]
    have hW := c_With (t := t) (by omega) m
    unfold thC at hW
    have hg : ∀ {α : Type} (K : List PV → Option α), getE (intsK .i64 (pm ++ m :: ms)) (q.length : Int) K = K [PV.int .i64 m] := fun K => by rw [← hp]; exact getE_int1 pm m ms K
    rw [hg]
    unfold thC
    simp only [SB, Nat.reduceAdd]
    rw [hW]
    have e2 : leN (((thK acc).length + 1) * 64) 140737488355328 = true := by rw [thK_length]; simp only [decide_eq_true_eq]; omega
    simp only [SB, Nat.reduceAdd, e2]
    rw [w64 (n := (q.length : Int) + 1) (by omega)]
    have e1 : ((q.length : Int) + 1) = ((q.length + (0 + 1) : Nat) : Int) := by omega
    simp only [List.length_append, List.length_cons]
    rw [e1]
    have e3 : thK (acc ++ [withT t m]) = thK acc ++ [thC (withT t m)] := thK_append acc [withT t m]
    rw [e3] at ih
    refine Eq.trans ih ?_
    simp only [Ws]

theorem beg3_loop (b00 b01 b11 : List (List PV)) (c2 : List (List PV)) : ∀ (l p : List (Int × Int)), SmL l 5000 → (p ++ l).length ≤ 8 →
    lp E (denC E) 83 0 [] 3 { vals := [AV.sl 2 (arcK (p ++ l)), AV.int .i64 ((p ++ l).length : Int), AV.int .i64 (p.length : Int)], blks := [Blk.box [AV.sl 6 b00, AV.sl 2 b01], Blk.box [AV.t (TV.hsl 2), AV.sl 2 b11], Blk.arr 6 c2] } =
      some (Ex.exit 3, { vals := [], blks := [Blk.box [AV.sl 6 b00, AV.sl 2 b01], Blk.box [AV.t (TV.hsl 2), AV.sl 2 b11], Blk.arr 6 c2] })
  | [], p, hs, h => by
    rw [r83_3, ctl_dec, if_neg (by simp)]
  | v :: l, p, hs, h => by
    have hv := hs v (List.mem_cons_self ..)
    have ih := beg3_loop b00 b01 b11 c2 l (p ++ [v]) (fun x hx => hs x (List.mem_cons_of_mem _ hx)) (by simp at h ⊢; omega)
    simp only [List.append_assoc, List.cons_append, List.nil_append, List.length_append, List.length_cons, List.length_nil] at ih h
    have hw : denC E 53 [AV.sl 1 [[PV.int .i64 v.1], [PV.int .i64 v.2]], AV.int .i64 (-5000), AV.int .i64 5000] [] = some ([RV.p (PV.bool true)], []) := c_within (l := [v.1, v.2]) (fun n hn => by
      simp only [List.mem_cons, List.not_mem_nil, or_false] at hn
      rcases hn with rfl | rfl <;> omega) (by simp)
    rw [r83_3, ctl_dec, if_pos (by simp; omega), getE_arc]
    simp only [arcC, SB, Nat.reduceAdd, List.length_append, List.length_cons]
    rw [hw]
    simp only [SB, Nat.reduceAdd]
    rw [w64 (n := (p.length : Int) + 1) (by omega)]
    have e1 : ((p.length : Int) + 1) = ((p.length + (0 + 1) : Nat) : Int) := by omega
    rw [e1, ih]

theorem c_begin {s : Shp} {ms : List Int} {ls : List (Int × Int)} (h : AOk s ms ls) {ns : List Int} (hn : ns.length = s.ts.length) (hni : ∀ n ∈ ns, -5000 ≤ n ∧ n ≤ 5000) :
    denC E 83 [AV.agg (shpC s), AV.sl 1 (intsK .i64 ms), AV.sl 2 (arcK ls), AV.sl 1 (intsK .i64 ns)] [] = some ([RV.agg [PV.sl 6 (thK (Ws s.ts ms)), PV.sl 2 (arcK ls)], RV.p (PV.int .i64 0)], []) := by
  have hC := c_Check h.ok
  have h8 := h.ok.1
  have hml := h.ml
  have w1 := c_within (l := ms) h.mi (by omega)
  have w2 := c_within (l := ns) hni (by omega)
  have hll : ls.length ≤ 8 := by
    rcases h.ll with e | e
    · rw [e]; simp
    · omega
  have l1 := beg1_loop (arcK ls) (arcK ls) s.ts [] ms [] [] (fun t ht => (h.ok.2.2.2.2.2.2 t ht).1) rfl h.ml rfl (by simpa using h8)
  have l3 := beg3_loop [] [] (arcK ls) (thK (Ws s.ts ms)) ls [] h.li (by simpa using hll)
  simp only [List.nil_append, List.length_nil] at l1 l3
  have e0 : (((0 : Nat)) : Int) = 0 := rfl
  have ea : thK [] = [] := rfl
  rw [e0, ea] at l1
  rw [e0] at l3
  unfold shpC at hC ⊢
  rw [denC_eq, r83, hC, w1, w2]
  simp only [SB, Nat.reduceAdd, intsK_length, thK_length, arcK_length]
  have f0 : ((0 : Int) != 0) = false := rfl
  have f1 : ((ms.length : Int) != (s.ts.length : Int)) = false := by simp only [bne_eq_false_iff_eq]; omega
  have f2 : (ltB 0 (ls.length : Int) && (ls.length : Int) != (s.ts.length : Int)) = false := by
    rcases h.ll with e | e
    · rw [e]; rfl
    · rw [e]; simp
  have f3 : ((ns.length : Int) != (s.ts.length : Int)) = false := by simp only [bne_eq_false_iff_eq]; omega
  rw [f0, f1, f2, f3]
  simp only [SB, Nat.reduceAdd]
  rw [l1]
  simp only [SB, Nat.reduceAdd, arcK_length]
  rw [l3]
  simp only [SB, Nat.reduceAdd]

theorem c_open {s : Shp} {ms : List Int} {ls : List (Int × Int)} (h : AOk s ms ls) {d0 d1 d2 : Int} (hd : (-500000 ≤ d0 ∧ d0 ≤ 500000) ∧ (-500000 ≤ d1 ∧ d1 ≤ 500000) ∧ -500000 ≤ d2 ∧ d2 ≤ 500000) :
    denC E 58 [AV.agg (shpC s), AV.sl 1 (intsK .i64 ms), AV.sl 2 (arcK ls), AV.agg [PV.int .i64 d0, PV.int .i64 d1, PV.int .i64 d2]] [] = some ([RV.agg [PV.sl 6 (thK (Ws s.ts ms)), PV.sl 2 (arcK ls)], RV.p (PV.int .i64 0)], []) := by
  have hb := c_begin h (ns := List.replicate s.ts.length 0) (by simp) (fun n hn => by
    have := List.eq_of_mem_replicate hn
    omega)
  have h8 := h.ok.1
  have hw : denC E 53 [AV.sl 1 [[PV.int .i64 d0], [PV.int .i64 d1], [PV.int .i64 d2]], AV.int .i64 (-500000), AV.int .i64 500000] [] = some ([RV.p (PV.bool true)], []) := c_within (l := [d0, d1, d2]) (fun n hn => by
    simp only [List.mem_cons, List.not_mem_nil, or_false] at hn
    rcases hn with rfl | rfl | rfl <;> omega) (by simp)
  unfold shpC at hb ⊢
  rw [denC_eq, r58, thK_length, Int.toNat_natCast, reps_ints, hb]
  have g1 : leB (s.ts.length : Int) (s.ts.length : Int) = true := by simp
  have g2 : leB (s.ts.length : Int) 9223372036854775807 = true := by simp only [decide_eq_true_eq]; omega
  have g3 : leB ((s.ts.length : Int) * 8) 140737488355328 = true := by simp only [decide_eq_true_eq]; omega
  simp only [SB, Nat.reduceAdd, g1, g2, g3, beq_self_eq_true]
  rw [hw]
  simp only [SB, Nat.reduceAdd]

theorem c_latF {t : Thr} (h : t.fb.length ≤ maxLen) : denC E 89 [AV.agg (thC t)] [] = some ([RV.p (PV.int .i64 (latF t).1), RV.p (PV.int .i64 (latF t).2)], []) := by
  obtain ⟨a, b, h1, h2, _⟩ := c_Lateral h
  obtain ⟨e1, e2⟩ := IsLat_uniq h2 (latF_is t)
  rw [h1, e1, e2]
theorem c_lonF {t : Thr} (h : t.fb.length ≤ maxLen) (y : Int) : denC E 92 [AV.agg (thC t), AV.int .i64 y] [] = some ([RV.p (PV.int .i64 (lonF t y).1), RV.p (PV.int .i64 (lonF t y).2)], []) := by
  obtain ⟨a, b, h1, h2, _⟩ := c_Longitudinal h y
  obtain ⟨e1, e2⟩ := IsLon_uniq h2 (lonF_is t y)
  rw [h1, e1, e2]

def Rest (L0 ls : List (Int × Int)) (i n : Nat) : Prop := (L0 = [] ∧ ls = []) ∨ ∃ p, L0 = p ++ ls ∧ p.length = i ∧ ls.length = n
theorem Rest_step {L0 ls : List (Int × Int)} {i n : Nat} (h : Rest L0 ls i (n + 1)) : Rest L0 ls.tail (i + 1) n := by
  rcases h with ⟨h1, h2⟩ | ⟨p, h1, h2, h3⟩
  · exact .inl ⟨h1, by rw [h2]; rfl⟩
  · cases ls with
    | nil => cases h3
    | cons v l => exact .inr ⟨p ++ [v], by simp [h1], by simp [h2], by simpa using h3⟩

theorem c_ratedA {t : Thr} {q ts : List Thr} {L0 ls : List (Int × Int)} (h : Rest L0 ls q.length (ts.length + 1)) (lo hi : Int) :
    denC E 90 [AV.agg [PV.sl 6 (thK (q ++ t :: ts)), PV.sl 2 (arcK L0)], AV.int .i64 (q.length : Int), AV.int .i64 lo, AV.int .i64 hi, AV.fn 91 []] [] = some ([RV.agg (Div.shC (ratS t (lo, hi) (ls.head?.map Prod.snd)))], []) := by
  rw [denC_eq, r90a, getE_th, arcK_length]
  unfold thC
  rcases h with ⟨rfl, rfl⟩ | ⟨p, h1, h2, h3⟩
  · simp only [SB, Nat.reduceAdd, List.length_nil, List.head?_nil, Option.map_none, ratS]
    rfl
  · cases ls with
    | nil => cases h3
    | cons v l =>
      have e1 : ltB 0 (L0.length : Int) = true := by rw [h1]; simp; omega
      have hg : ∀ {α : Type} (K : List PV → Option α), getE (arcK L0) (q.length : Int) K = K (arcC v) := fun K => by rw [h1, ← h2]; exact getE_arc p v l K
      have hv : denC E 91 [AV.agg [PV.int .i64 v.1, PV.int .i64 v.2]] [] = some ([RV.p (PV.int .i64 v.2)], []) := by
        rw [denC_eq, r91]
      rw [e1, hg]
      simp only [arcC, SB, Nat.reduceAdd]
      rw [hv]
      simp only [SB, Nat.reduceAdd, c_Rated]
      rfl

theorem c_ratedB {t : Thr} {q ts : List Thr} {L0 ls : List (Int × Int)} (h : Rest L0 ls q.length (ts.length + 1)) (lo hi : Int) :
    denC E 90 [AV.agg [PV.sl 6 (thK (q ++ t :: ts)), PV.sl 2 (arcK L0)], AV.int .i64 (q.length : Int), AV.int .i64 lo, AV.int .i64 hi, AV.fn 93 []] [] = some ([RV.agg (Div.shC (ratS t (lo, hi) (ls.head?.map Prod.fst)))], []) := by
  rw [denC_eq, r90b, getE_th, arcK_length]
  unfold thC
  rcases h with ⟨rfl, rfl⟩ | ⟨p, h1, h2, h3⟩
  · simp only [SB, Nat.reduceAdd, List.length_nil, List.head?_nil, Option.map_none, ratS]
    rfl
  · cases ls with
    | nil => cases h3
    | cons v l =>
      have e1 : ltB 0 (L0.length : Int) = true := by rw [h1]; simp; omega
      have hg : ∀ {α : Type} (K : List PV → Option α), getE (arcK L0) (q.length : Int) K = K (arcC v) := fun K => by rw [h1, ← h2]; exact getE_arc p v l K
      have hv : denC E 93 [AV.agg [PV.int .i64 v.1, PV.int .i64 v.2]] [] = some ([RV.p (PV.int .i64 v.1)], []) := by
        rw [denC_eq, r93]
      rw [e1, hg]
      simp only [arcC, SB, Nat.reduceAdd]
      rw [hv]
      simp only [SB, Nat.reduceAdd, c_Rated]
      rfl

theorem lat_loop (k : Int) (L0 : List (Int × Int)) : ∀ (ts q : List Thr) (ls : List (Int × Int)) (acc : List Div.Shr), (∀ t ∈ ts, t.fb.length ≤ maxLen) → Rest L0 ls q.length ts.length → acc.length = q.length → (q ++ ts).length ≤ 8 →
    lp E (denC E) 60 0 [] 0 { vals := [AV.int .i64 k, AV.sl 6 (thK (q ++ ts)), AV.int .i64 ((q ++ ts).length : Int), AV.int .i64 (q.length : Int)], blks := [Blk.box [AV.sl 6 (thK (q ++ ts)), AV.sl 2 (arcK L0)], Blk.arr 3 (Div.shK acc)] } =
      some (Ex.exit 0, { vals := [], blks := [Blk.arr 3 (Div.shK (acc ++ lats k ts ls))] })
  | [], q, ls, acc, hs, hr, ha, h => by
    rw [r60_0, ctl_dec, if_neg (by simp)]
    simp [lats]
  | t :: ts, q, ls, acc, hs, hr, ha, h => by
    have ih := lat_loop k L0 ts (q ++ [t]) ls.tail (acc ++ [latS k t ls.head?]) (fun x hx => hs x (List.mem_cons_of_mem _ hx)) (by simpa using Rest_step hr) (by simp [ha]) (by simp at h ⊢; omega)
    simp only [List.append_assoc, List.cons_append, List.nil_append, List.length_append, List.length_cons, List.length_nil] at ih h
    rw [r60_0, ctl_dec, if_pos (by simp; omega), getE_th]
    have hL := c_latF (hs t (List.mem_cons_self ..))
    have hR := c_ratedA (t := t) hr (latF t).1 (latF t).2
    have e2 : leN (((Div.shK acc).length + 1) * 24) 140737488355328 = true := by rw [Div.shK_length]; simp only [decide_eq_true_eq]; omega
    unfold thC at hL
    unfold thC
    simp only [SB, Nat.reduceAdd, e2]
    rw [w64 (n := (q.length : Int) + 1) (by omega)]
    have e1 : ((q.length : Int) + 1) = ((q.length + (0 + 1) : Nat) : Int) := by omega
    simp only [List.length_append, List.length_cons] at *
    rw [e1]
    rw [Div.shK_append] at ih
    by_cases hk : t.st = k
    · have f : (t.st != k) = false := by simpa using hk
      have el : latS k t ls.head? = ratS t ((latF t).1, (latF t).2) (ls.head?.map Prod.snd) := by unfold latS; rw [if_pos hk]
      rw [f, ctl_false, hL]
      simp only [SB, Nat.reduceAdd]
      rw [hR]
      unfold Div.shC
      simp only [SB, Nat.reduceAdd]
      rw [el] at ih
      refine Eq.trans ih ?_
      simp only [lats, el]
    · have f : (t.st != k) = true := by simpa using hk
      have el : latS k t ls.head? = ⟨0, 0, t.ct⟩ := by unfold latS; rw [if_neg hk]
      rw [f, ctl_true]
      rw [el] at ih
      refine Eq.trans ih ?_
      simp only [lats, el]

theorem c_laterals {W : List Thr} (hW : W.length ≤ 8) (hs : ∀ t ∈ W, t.fb.length ≤ maxLen) {ls : List (Int × Int)} (hl : ls = [] ∨ ls.length = W.length) (k : Int) :
    denC E 60 [AV.agg [PV.sl 6 (thK W), PV.sl 2 (arcK ls)], AV.int .i64 k] [] = some ([RV.p (PV.sl 3 (Div.shK (lats k W ls)))], []) := by
  have l1 := lat_loop k ls W [] ls [] hs (by rcases hl with h | h; exact .inl ⟨h, h⟩; exact .inr ⟨[], rfl, rfl, h⟩) rfl (by simpa using hW)
  simp only [List.nil_append, List.length_nil] at l1
  have e0 : (((0 : Nat)) : Int) = 0 := rfl
  have ea : Div.shK [] = [] := rfl
  rw [e0, ea] at l1
  rw [denC_eq, r60, thK_length, l1]
  simp only [SB, Nat.reduceAdd]

theorem lon_loop (L0 : List (Int × Int)) : ∀ (ts q : List Thr) (ys py : List Int) (ls : List (Int × Int)) (acc : List Div.Shr), (∀ t ∈ ts, t.fb.length ≤ maxLen) → Rest L0 ls q.length ts.length → acc.length = q.length → py.length = q.length → ys.length = ts.length → (q ++ ts).length ≤ 8 →
    lp E (denC E) 61 0 [] 0 { vals := [AV.sl 1 (intsK .i64 (py ++ ys)), AV.sl 6 (thK (q ++ ts)), AV.int .i64 ((q ++ ts).length : Int), AV.int .i64 (q.length : Int)], blks := [Blk.box [AV.sl 6 (thK (q ++ ts)), AV.sl 2 (arcK L0)], Blk.arr 3 (Div.shK acc)] } =
      some (Ex.exit 0, { vals := [], blks := [Blk.arr 3 (Div.shK (acc ++ lons ts ys ls))] })
  | [], q, ys, py, ls, acc, hs, hr, ha, hp, hy, h => by
    rw [r61_0, ctl_dec, if_neg (by simp)]
    simp [lons]
  | t :: ts, q, [], py, ls, acc, hs, hr, ha, hp, hy, h => by cases hy
  | t :: ts, q, y :: ys, py, ls, acc, hs, hr, ha, hp, hy, h => by
    have ih := lon_loop L0 ts (q ++ [t]) ys (py ++ [y]) ls.tail (acc ++ [lonS t y ls.head?]) (fun x hx => hs x (List.mem_cons_of_mem _ hx)) (by simpa using Rest_step hr) (by simp [ha]) (by simp [hp]) (by simpa using hy) (by simp at h ⊢; omega)
    simp only [List.append_assoc, List.cons_append, List.nil_append, List.length_append, List.length_cons, List.length_nil] at ih h
    have hg : ∀ {α : Type} (K : List PV → Option α), getE (intsK .i64 (py ++ y :: ys)) (q.length : Int) K = K [PV.int .i64 y] := fun K => by rw [← hp]; exact getE_int1 py y ys K
    rw [r61_0, ctl_dec, if_pos (by simp; omega), getE_th, hg]
    have hL := c_lonF (hs t (List.mem_cons_self ..)) y
    have hR := c_ratedB (t := t) hr (lonF t y).1 (lonF t y).2
    have e2 : leN (((Div.shK acc).length + 1) * 24) 140737488355328 = true := by rw [Div.shK_length]; simp only [decide_eq_true_eq]; omega
    unfold thC at hL
    unfold thC
    simp only [SB, Nat.reduceAdd, e2]
    rw [w64 (n := (q.length : Int) + 1) (by omega)]
    have e1 : ((q.length : Int) + 1) = ((q.length + (0 + 1) : Nat) : Int) := by omega
    simp only [List.length_append, List.length_cons] at *
    rw [e1]
    rw [Div.shK_append] at ih
    have el : lonS t y ls.head? = ratS t ((lonF t y).1, (lonF t y).2) (ls.head?.map Prod.fst) := rfl
    rw [hL]
    simp only [SB, Nat.reduceAdd]
    rw [hR]
    unfold Div.shC
    simp only [SB, Nat.reduceAdd]
    rw [el] at ih
    refine Eq.trans ih ?_
    simp only [lons, el]

theorem c_surges {W : List Thr} (hW : W.length ≤ 8) (hs : ∀ t ∈ W, t.fb.length ≤ maxLen) {ls : List (Int × Int)} (hl : ls = [] ∨ ls.length = W.length) {ys : List Int} (hy : ys.length = W.length) :
    denC E 61 [AV.agg [PV.sl 6 (thK W), PV.sl 2 (arcK ls)], AV.sl 1 (intsK .i64 ys)] [] = some ([RV.own 3 (Div.shK (lons W ys ls))], []) := by
  have l1 := lon_loop ls W [] ys [] ls [] hs (by rcases hl with h | h; exact .inl ⟨h, h⟩; exact .inr ⟨[], rfl, rfl, h⟩) rfl rfl hy (by simpa using hW)
  simp only [List.nil_append, List.length_nil] at l1
  have e0 : (((0 : Nat)) : Int) = 0 := rfl
  have ea : Div.shK [] = [] := rfl
  rw [e0, ea] at l1
  rw [denC_eq, r61, thK_length, l1]
  simp only [SB, Nat.reduceAdd]

theorem add_loop (s : Shp) (d0 d1 d2 : Int) (W0 W1 : List (List PV)) : ∀ (ys bs dn pb : List Int), dn.length = pb.length → ys.length = bs.length → (dn ++ ys).length ≤ 8 → (∀ y ∈ ys, -5000 ≤ y ∧ y ≤ 5000) → (∀ y ∈ bs, -5000 ≤ y ∧ y ≤ 5000) →
    lp E (denC E) 38 0 [] 0 { vals := [AV.sl 1 (intsK .i64 (pb ++ bs)), AV.int .i64 ((dn ++ ys).length : Int), AV.int .i64 (dn.length : Int)], blks := [Blk.box [AV.int .i64 s.bw, AV.int .i64 s.sn, AV.sl 6 (thK s.ts)], Blk.box [AV.int .i64 d0, AV.int .i64 d1, AV.int .i64 d2], Blk.box [AV.sl 2 [], AV.int .i64 0, AV.int .i64 0, AV.int .i64 0, AV.int .i64 0, AV.int .i64 0, AV.int .i64 0], Blk.box [AV.sl 6 W0, AV.sl 2 W1], Blk.arr 1 (intsK .i64 (dn ++ ys))] } =
      some (Ex.exit 0, { vals := [], blks := [Blk.box [AV.int .i64 s.bw, AV.int .i64 s.sn, AV.sl 6 (thK s.ts)], Blk.box [AV.int .i64 d0, AV.int .i64 d1, AV.int .i64 d2], Blk.box [AV.sl 2 [], AV.int .i64 0, AV.int .i64 0, AV.int .i64 0, AV.int .i64 0, AV.int .i64 0, AV.int .i64 0], Blk.box [AV.sl 6 W0, AV.sl 2 W1], Blk.arr 1 (intsK .i64 (dn ++ addL ys bs))] })
  | [], bs, dn, pb, hd, hl, h, hy, hb => by
    rw [r38_0, ctl_dec, if_neg (by simp)]
    simp [addL]
  | _ :: _, [], dn, pb, hd, hl, h, hy, hb => by cases hl
  | y :: ys, b :: bs, dn, pb, hd, hl, h, hy, hb => by
    have y1 := hy y (List.mem_cons_self ..)
    have b1 := hb b (List.mem_cons_self ..)
    have ih := add_loop s d0 d1 d2 W0 W1 ys bs (dn ++ [y + b]) (pb ++ [b]) (by simp [hd]) (by simpa using hl) (by simp at h ⊢; omega) (fun z hz => hy z (List.mem_cons_of_mem _ hz)) (fun z hz => hb z (List.mem_cons_of_mem _ hz))
    simp only [List.append_assoc, List.cons_append, List.nil_append, List.length_append, List.length_cons, List.length_nil] at ih h
    have hg : ∀ {α : Type} (K : List PV → Option α), getE (intsK .i64 (pb ++ b :: bs)) (dn.length : Int) K = K [PV.int .i64 b] := fun K => by rw [hd]; exact getE_int1 pb b bs K
    have i0 : leB 0 (dn.length : Int) = true := by simp
    have i1 : ltB (dn.length : Int) ((intsK .i64 (dn ++ y :: ys)).length : Int) = true := by rw [intsK_length]; simp; omega
    have i2 : nth [] (intsK .i64 (dn ++ y :: ys)) ((dn.length : Int)).toNat = [PV.int .i64 y] := by
      rw [Int.toNat_natCast]; exact Div.nth_mid dn y ys
    have i3 : okCs [Sh.int .i64] (List.take 1 (List.drop 0 [PV.int .i64 y])) = true := rfl
    rw [r38_0, ctl_dec, if_pos (by simp; omega)]
    simp only [SB, Nat.reduceAdd, i0, i1, i2, i3]
    rw [hg]
    simp only [SB, Nat.reduceAdd]
    rw [w64 (n := y + b) (by omega), w64 (n := (dn.length : Int) + 1) (by omega), Int.toNat_natCast, Div.setEs_ints (by simp)]
    have eset : (dn ++ y :: ys).set dn.length (y + b) = dn ++ (y + b) :: ys := by
      rw [List.set_append_right _ _ (Nat.le_refl _)]; simp
    have e1 : ((dn.length : Int) + 1) = ((dn.length + (0 + 1) : Nat) : Int) := by omega
    simp only [List.length_append, List.length_cons]
    rw [eset, e1, ih]
    simp only [addL]

theorem pair_loop (s : Shp) (d0 d1 d2 : Int) : ∀ (xs ys px py : List Int) (acc : List (Int × Int)), px.length = py.length → xs.length = ys.length → acc.length = px.length → (px ++ xs).length ≤ 8 →
    lp E (denC E) 38 0 [] 2 { vals := [AV.sl 1 (intsK .i64 (px ++ xs)), AV.int .i64 ((py ++ ys).length : Int), AV.int .i64 (px.length : Int)], blks := [Blk.box [AV.int .i64 s.bw, AV.int .i64 s.sn, AV.sl 6 (thK s.ts)], Blk.box [AV.int .i64 d0, AV.int .i64 d1, AV.int .i64 d2], Blk.box [AV.sl 2 [], AV.int .i64 0, AV.int .i64 0, AV.int .i64 0, AV.int .i64 0, AV.int .i64 0, AV.int .i64 0], Blk.arr 1 (intsK .i64 (py ++ ys)), Blk.box [AV.t (TV.hsl 5), AV.int .i64 0, AV.int .i64 0, AV.int .i64 0, AV.int .i64 0, AV.int .i64 0, AV.int .i64 0], Blk.arr 2 (arcK acc)] } =
      some (Ex.exit 2, { vals := [], blks := [Blk.box [AV.int .i64 s.bw, AV.int .i64 s.sn, AV.sl 6 (thK s.ts)], Blk.box [AV.int .i64 d0, AV.int .i64 d1, AV.int .i64 d2], Blk.box [AV.sl 2 [], AV.int .i64 0, AV.int .i64 0, AV.int .i64 0, AV.int .i64 0, AV.int .i64 0, AV.int .i64 0], Blk.box [AV.t (TV.hsl 4), AV.int .i64 0, AV.int .i64 0, AV.int .i64 0, AV.int .i64 0, AV.int .i64 0, AV.int .i64 0], Blk.arr 2 (arcK (acc ++ pairL xs ys))] })
  | [], [], px, py, acc, hp, hl, ha, h => by
    rw [r38_2, ctl_dec, if_neg (by simp; omega)]
    simp [pairL]
  | [], _ :: _, px, py, acc, hp, hl, ha, h => by cases hl
  | _ :: _, [], px, py, acc, hp, hl, ha, h => by cases hl
  | x :: xs, y :: ys, px, py, acc, hp, hl, ha, h => by
    have ih := pair_loop s d0 d1 d2 xs ys (px ++ [x]) (py ++ [y]) (acc ++ [(x, y)]) (by simp [hp]) (by simpa using hl) (by simp [ha]) (by simp at h ⊢; omega)
    simp only [List.append_assoc, List.cons_append, List.nil_append, List.length_append, List.length_cons, List.length_nil] at ih h hl
    have i0 : leB 0 (px.length : Int) = true := by simp
    have i1 : ltB (px.length : Int) ((intsK .i64 (py ++ y :: ys)).length : Int) = true := by rw [intsK_length]; simp; omega
    have i2 : nth [] (intsK .i64 (py ++ y :: ys)) ((px.length : Int)).toNat = [PV.int .i64 y] := by
      rw [Int.toNat_natCast, hp]; exact Div.nth_mid py y ys
    have i3 : okCs [Sh.int .i64] (List.take 1 (List.drop 0 [PV.int .i64 y])) = true := rfl
    have e2 : leN (((arcK acc).length + 1) * 16) 140737488355328 = true := by rw [arcK_length]; simp only [decide_eq_true_eq]; omega
    rw [r38_2, ctl_dec, if_pos (by simp; omega), getE_int1]
    simp only [SB, Nat.reduceAdd, i0, i1, i2, i3, e2]
    rw [w64 (n := (px.length : Int) + 1) (by omega)]
    have e1 : ((px.length : Int) + 1) = ((px.length + (0 + 1) : Nat) : Int) := by omega
    simp only [List.length_append, List.length_cons]
    rw [e1]
    rw [arcK_append] at ih
    refine Eq.trans ih ?_
    simp only [pairL]

noncomputable def gvA (s : Shp) (ms : List Int) (ls : List (Int × Int)) (d0 d1 d2 : Int) : Int × Int × Int := tot s.ts (thA (Ws s.ts ms) ls d0 d1 d2) 0 0 0

theorem wsa {s : Shp} {ms : List Int} {ls : List (Int × Int)} (h : AOk s ms ls) : (Ws s.ts ms).length = s.ts.length ∧ (Ws s.ts ms).length ≤ 8 ∧ (∀ w ∈ Ws s.ts ms, okT w = true) ∧ (∀ w ∈ Ws s.ts ms, w.fb.length ≤ maxLen) ∧ (ls = [] ∨ ls.length = (Ws s.ts ms).length) := by
  have h1 := Ws_length h.ml
  have h2 := Ws_ok (ts := s.ts) (ms := ms) fun t ht => (h.ok.2.2.2.2.2.2 t ht).1
  refine ⟨h1, by rw [h1]; exact h.ok.1, h2, fun w hw => ?_, by rw [h1]; exact h.ll⟩
  have h3 := okT0_iff.1 (okT_iff.1 (h2 w hw)).1
  exact Nat.le_trans h3.2.2.2.2.2.2.2.2.2.2 (by decide)

def Mod3 (d0 d1 d2 : Int) : Prop := (-500000 ≤ d0 ∧ d0 ≤ 500000) ∧ (-500000 ≤ d1 ∧ d1 ≤ 500000) ∧ -500000 ≤ d2 ∧ d2 ≤ 500000

theorem ysA_len {s : Shp} {ms : List Int} {ls : List (Int × Int)} (h : AOk s ms ls) {d0 d1 d2 : Int} (hd : Mod3 d0 d1 d2) : (ysA (Ws s.ts ms) ls d1 d2).length = s.ts.length ∧ ∀ y ∈ ysA (Ws s.ts ms) ls d1 d2, -5000 ≤ y ∧ y ≤ 5000 := by
  obtain ⟨w1, w2, w3, w4, w5⟩ := wsa h
  have o0 := OkL_lats w2 w3 0 ls
  have o1 := OkL_lats w2 w3 1 ls
  have l0 := dv_length o0 hd.2.1
  have l1 := dv_length o1 hd.2.2
  rw [lats_length] at l0 l1
  refine ⟨?_, ys_small w3 (dv_in o1 hd.2.2) (dv_in o0 hd.2.1)⟩
  unfold ysA
  rw [addL_length (by rw [l0, l1]), l1, w1]

theorem xsA_len {s : Shp} {ms : List Int} {ls : List (Int × Int)} (h : AOk s ms ls) {d0 d1 d2 : Int} (hd : Mod3 d0 d1 d2) : (xsA (Ws s.ts ms) ls d0 d1 d2).length = s.ts.length ∧ ∀ y ∈ xsA (Ws s.ts ms) ls d0 d1 d2, -5000 ≤ y ∧ y ≤ 5000 := by
  obtain ⟨w1, w2, w3, w4, w5⟩ := wsa h
  have hy := ysA_len h hd
  have o := OkL_lons w2 w3 (ys := ysA (Ws s.ts ms) ls d1 d2) (by rw [hy.1, w1]) ls
  have l := dv_length o hd.1
  rw [lons_length _ _ _ (by rw [hy.1, w1]), w1] at l
  exact ⟨l, InR_small o.2 (dv_in o hd.1)⟩

theorem thA_len {s : Shp} {ms : List Int} {ls : List (Int × Int)} (h : AOk s ms ls) {d0 d1 d2 : Int} (hd : Mod3 d0 d1 d2) : (thA (Ws s.ts ms) ls d0 d1 d2).length = s.ts.length ∧ SmL (thA (Ws s.ts ms) ls d0 d1 d2) 5000 := by
  have hx := xsA_len h hd
  have hy := ysA_len h hd
  unfold thA
  exact ⟨by rw [pairL_length (by rw [hx.1, hy.1]), hx.1], pair_small hx.2 hy.2⟩

theorem c_less (a0 a1 a2 b0 b1 b2 : Int) (ha : Mod3 a0 a1 a2) (hb : Mod3 b0 b1 b2) : denC E 63 [AV.agg [PV.int .i64 a0, PV.int .i64 a1, PV.int .i64 a2], AV.agg [PV.int .i64 b0, PV.int .i64 b1, PV.int .i64 b2]] [] = some ([RV.agg [PV.int .i64 (a0 - b0), PV.int .i64 (a1 - b1), PV.int .i64 (a2 - b2)]], []) := by
  obtain ⟨x, y, z⟩ := ha
  obtain ⟨u, v, w⟩ := hb
  rw [denC_eq, r63, w64 (n := a0 - b0) (by omega), w64 (n := a1 - b1) (by omega), w64 (n := a2 - b2) (by omega)]

theorem c_ADivide {s : Shp} {ms : List Int} {ls : List (Int × Int)} (h : AOk s ms ls) {d0 d1 d2 : Int} (hd : Mod3 d0 d1 d2) :
    denC E 38 [AV.agg (shpC s), AV.sl 1 (intsK .i64 ms), AV.sl 2 (arcK ls), AV.agg [PV.int .i64 d0, PV.int .i64 d1, PV.int .i64 d2]] [] =
      some ([RV.agg [PV.sl 2 (arcK (thA (Ws s.ts ms) ls d0 d1 d2)), PV.int .i64 (gvA s ms ls d0 d1 d2).1, PV.int .i64 (gvA s ms ls d0 d1 d2).2.1, PV.int .i64 (gvA s ms ls d0 d1 d2).2.2,
        PV.int .i64 (d0 - (gvA s ms ls d0 d1 d2).1), PV.int .i64 (d1 - (gvA s ms ls d0 d1 d2).2.1), PV.int .i64 (d2 - (gvA s ms ls d0 d1 d2).2.2)], RV.p (PV.int .i64 0)], []) := by
  have hO := c_open h hd
  obtain ⟨w1, w2, w3, w4, w5⟩ := wsa h
  have c0 := c_laterals w2 w4 w5 0
  have c1 := c_laterals w2 w4 w5 1
  have o0 := OkL_lats w2 w3 0 ls
  have o1 := OkL_lats w2 w3 1 ls
  have v0 := c_dv o0 hd.2.1
  have v1 := c_dv o1 hd.2.2
  have l0 := dv_length o0 hd.2.1
  have l1 := dv_length o1 hd.2.2
  rw [lats_length] at l0 l1
  have s0 := InR_small o0.2 (dv_in o0 hd.2.1)
  have s1 := InR_small o1.2 (dv_in o1 hd.2.2)
  have hy := ysA_len h hd
  have hx := xsA_len h hd
  have ht := thA_len h hd
  have o2 := OkL_lons w2 w3 (ys := ysA (Ws s.ts ms) ls d1 d2) (by rw [hy.1, w1]) ls
  have c2 := c_surges w2 w4 w5 (ys := ysA (Ws s.ts ms) ls d1 d2) (by rw [hy.1, w1])
  have v2 := c_dv o2 hd.1
  have la := add_loop s d0 d1 d2 (thK (Ws s.ts ms)) (arcK ls) (dv (lats 1 (Ws s.ts ms) ls) d2) (dv (lats 0 (Ws s.ts ms) ls) d1) [] [] rfl (by rw [l0, l1]) (by simpa [l1] using w2) s1 s0
  have hyy : addL (dv (lats 1 (Ws s.ts ms) ls) d2) (dv (lats 0 (Ws s.ts ms) ls) d1) = ysA (Ws s.ts ms) ls d1 d2 := rfl
  have hxx : dv (lons (Ws s.ts ms) (ysA (Ws s.ts ms) ls d1 d2) ls) d0 = xsA (Ws s.ts ms) ls d0 d1 d2 := rfl
  have lb := pair_loop s d0 d1 d2 (xsA (Ws s.ts ms) ls d0 d1 d2) (ysA (Ws s.ts ms) ls d1 d2) [] [] [] rfl (by rw [hx.1, hy.1]) rfl (by simpa [hx.1] using h.ok.1)
  simp only [List.nil_append, List.length_nil] at la lb
  have e0 : (((0 : Nat)) : Int) = 0 := rfl
  have ea : arcK [] = [] := rfl
  rw [e0, hyy] at la
  rw [e0, ea] at lb
  rw [hxx] at v2
  have hth : pairL (xsA (Ws s.ts ms) ls d0 d1 d2) (ysA (Ws s.ts ms) ls d1 d2) = thA (Ws s.ts ms) ls d0 d1 d2 := rfl
  rw [hth] at lb
  have hT := c_Total h.ok (l := thA (Ws s.ts ms) ls d0 d1 d2) ht.1 ht.2
  have hb := tot_bound s.ts (thA (Ws s.ts ms) ls d0 d1 d2) 0 0 0 5000 0 ht.2 (by omega) (by omega) (by omega) (by omega)
  rw [ht.1] at hb
  have h8 := h.ok.1
  have hg : tot s.ts (thA (Ws s.ts ms) ls d0 d1 d2) 0 0 0 = gvA s ms ls d0 d1 d2 := rfl
  rw [hg] at hT hb
  have hls := c_less d0 d1 d2 (gvA s ms ls d0 d1 d2).1 (gvA s ms ls d0 d1 d2).2.1 (gvA s ms ls d0 d1 d2).2.2 hd (by unfold Mod3; omega)
  have n0 : ∀ l : List Int, ((intsK .i64 l).all fun e => e.all noslP) = true := Div.nos_ints
  have n1 := Div.nos_shs (lons (Ws s.ts ms) (ysA (Ws s.ts ms) ls d1 d2) ls)
  have f0 : ((0 : Int) != 0) = false := rfl
  unfold shpC at hO hT ⊢
  rw [denC_eq, r38, hO]
  simp only [SB, Nat.reduceAdd, f0]
  rw [c0]
  simp only [SB, Nat.reduceAdd]
  rw [v0]
  simp only [SB, Nat.reduceAdd, n0]
  rw [c1]
  simp only [SB, Nat.reduceAdd]
  rw [v1]
  simp only [SB, Nat.reduceAdd, n0]
  rw [intsK_length, la]
  simp only [SB, Nat.reduceAdd]
  rw [c2]
  simp only [SB, Nat.reduceAdd, n1]
  rw [v2]
  simp only [SB, Nat.reduceAdd, n0]
  rw [intsK_length, lb]
  simp only [SB, Nat.reduceAdd]
  rw [hT]
  simp only [SB, Nat.reduceAdd]
  rw [hls]
  simp only [SB, Nat.reduceAdd]

end Go.Proofs.YtclplmjlolpfbaaGreat.Vm

/- Allocation: the source, the stations, the example. -/
namespace Go.Proofs.YtclplmjlolpfbaaGreat.Vm
set_option linter.unusedVariables false
set_option linter.unusedSimpArgs false

theorem most_loop {L : List Int} (hL : L.length ≤ 600) (N : Nat) (hN : N ≤ 1000) : ∀ (n : Nat) (i : Nat) (k : Nat) (acc : List Int), k ≤ 600 → i + n = N → acc.length = i →
    ∃ (l : List Int) (k' : Nat), lp E (denC E) 10 1 [] 0 { vals := [AV.int .i64 N, AV.int .i64 i], blks := [src L k, Blk.arr 1 (intsK .i64 acc)] } =
      some (Ex.exit 0, { vals := [], blks := [src L k', Blk.arr 1 (intsK .i64 (acc ++ l))] }) ∧ l.length = n ∧ (∀ m ∈ l, 0 ≤ m ∧ m ≤ 5000) ∧ k' ≤ 600
  | 0, i, k, acc, hk, hi, ha => by
    refine ⟨[], k, ?_, rfl, fun t ht => (by cases ht), hk⟩
    rw [r10_0, ctl_dec, if_neg (by omega), List.append_nil]
  | n + 1, i, k, acc, hk, hi, ha => by
    have hk1 := at'_le hL hk
    have e1 : denC E 28 [AV.t (.ptr 0 0), AV.sl 1 [[PV.int .i64 0], [PV.int .i64 3], [PV.int .i64 10], [PV.int .i64 50], [PV.int .i64 5000]]] _ = _ := c_Pick hL hk (l := [0, 3, 10, 50, 5000]) (by decide)
    have b1 := vPick_mem L k (l := [0, 3, 10, 50, 5000]) (by decide)
    generalize vPick L k [0, 3, 10, 50, 5000] = x at *
    obtain ⟨l, k', h2, h3, h4, h5⟩ := most_loop hL N hN n (i + 1) (at' L k) (acc ++ [x]) hk1 (by omega) (by simp [ha])
    refine ⟨x :: l, k', ?_, by simp [h3], fun v hv => ?_, h5⟩
    · rw [r10_0, ctl_dec, if_pos (by omega), e1]
      simp only [SB, Nat.reduceAdd]
      have e2 : leN (((intsK .i64 acc).length + 1) * 8) 140737488355328 = true := by rw [intsK_length]; simp only [decide_eq_true_eq]; omega
      rw [e2, w64 (by omega)]
      have e3 : (i : Int) + 1 = ((i + 1 : Nat) : Int) := by omega
      have e4 : intsK .i64 (acc ++ [x]) = intsK .i64 acc ++ [[PV.int .i64 x]] := by simp [intsK]
      rw [e3]
      rw [e4] at h2
      simp only [ctl_true]
      refine Eq.trans h2 ?_
      simp only [List.append_assoc, List.cons_append, List.nil_append]
    · rcases List.mem_cons.1 hv with rfl | hv
      · simp only [List.mem_cons, List.not_mem_nil, or_false] at b1; omega
      · exact h4 v hv

theorem c_MostL {L : List Int} {k : Nat} (hL : L.length ≤ 600) (hk : k ≤ 600) (s : Shp) (hs : s.ts.length ≤ 1000) :
    ∃ (l : List Int) (k' : Nat), denC E 10 [AV.t (.ptr 0 0), AV.agg (shpC s)] [src L k] = some ([RV.p (PV.sl 1 (intsK .i64 l))], [src L k']) ∧ l.length = s.ts.length ∧ (∀ m ∈ l, 0 ≤ m ∧ m ≤ 5000) ∧ k' ≤ 600 := by
  obtain ⟨l, k', h1, h2, h3, h4⟩ := most_loop hL s.ts.length hs s.ts.length 0 k [] hk (by omega) rfl
  refine ⟨l, k', ?_, h2, h3, h4⟩
  unfold shpC
  rw [denC_eq, r10, thK_length]
  have ea : intsK .i64 [] = [] := rfl
  have e0 : (((0 : Nat)) : Int) = 0 := rfl
  rw [ea, e0] at h1
  rw [h1]
  simp only [SB, Nat.reduceAdd, List.nil_append]

theorem half_spec {n d : Int} (hd : 0 < d) : -d ≤ 2 * (d * Half n d - n) ∧ 2 * (d * Half n d - n) ≤ d := by
  unfold Half
  have h1 := Int.mul_ediv_add_emod (2 * n + d) (2 * d)
  have h2 := Int.emod_nonneg (2 * n + d) (b := 2 * d) (by omega)
  have h3 := Int.emod_lt_of_pos (2 * n + d) (b := 2 * d) (by omega)
  generalize (2 * n + d) / (2 * d) = q at *
  generalize (2 * n + d) % (2 * d) = r at *
  rw [Int.mul_assoc] at h1
  generalize d * q = z at *
  omega

theorem c_Stations {s : Shp} (h : OkShp s) {f0 f1 f2 : Int} (h0 : -5000 ≤ f0 ∧ f0 ≤ 5000) (h1 : -5000 ≤ f1 ∧ f1 ≤ 5000) (h2 : -400000 ≤ f2 ∧ f2 ≤ 400000) (hb : -494000 ≤ Half (f2 + f1 * s.sn) (s.bw + s.sn) ∧ Half (f2 + f1 * s.sn) (s.bw + s.sn) ≤ 494000) :
    denC E 33 [AV.agg (shpC s), AV.agg [PV.int .i64 f0, PV.int .i64 f1, PV.int .i64 f2]] [] =
      some ([RV.agg [PV.int .i64 f0, PV.int .i64 (Half (f2 + f1 * s.sn) (s.bw + s.sn)), PV.int .i64 (f1 - Half (f2 + f1 * s.sn) (s.bw + s.sn))], RV.p (PV.int .i64 0)], []) := by
  have hC := c_Check h
  obtain ⟨g1, g2, g3, g4, g5, g6, g7⟩ := h
  have m1 := mul_le (a := f1) (b := s.sn) (m := 5000) (n := 200) h1 (by omega)
  have w1 : denC E 53 [AV.sl 1 [[PV.int .i64 f0], [PV.int .i64 f1]], AV.int .i64 (-5000), AV.int .i64 5000] [] = some ([RV.p (PV.bool true)], []) := c_within (l := [f0, f1]) (fun n hn => by
    simp only [List.mem_cons, List.not_mem_nil, or_false] at hn
    rcases hn with rfl | rfl <;> omega) (by simp)
  have w2 : denC E 53 [AV.sl 1 [[PV.int .i64 f2]], AV.int .i64 (-500000), AV.int .i64 500000] [] = some ([RV.p (PV.bool true)], []) := c_within (l := [f2]) (fun n hn => by
    simp only [List.mem_cons, List.not_mem_nil, or_false] at hn
    rcases hn with rfl; omega) (by simp)
  have hH := c_Half (n := f2 + f1 * s.sn) (d := s.bw + s.sn) (by omega) (by omega)
  generalize Half (f2 + f1 * s.sn) (s.bw + s.sn) = b at *
  have w3 : denC E 53 [AV.sl 1 [[PV.int .i64 b], [PV.int .i64 (f1 - b)]], AV.int .i64 (-500000), AV.int .i64 500000] [] = some ([RV.p (PV.bool true)], []) := c_within (l := [b, f1 - b]) (fun n hn => by
    simp only [List.mem_cons, List.not_mem_nil, or_false] at hn
    rcases hn with rfl | rfl <;> omega) (by simp)
  have e0 : ((0 : Int) != 0) = false := rfl
  unfold shpC at *
  rw [denC_eq, r33, hC]
  simp only [SB, Nat.reduceAdd, e0]
  rw [w1]
  simp only [SB, Nat.reduceAdd]
  rw [w2]
  simp only [SB, Nat.reduceAdd]
  rw [w64 (n := f1 * s.sn) (by omega), w64 (n := f2 + f1 * s.sn) (by omega), w64 (n := s.bw + s.sn) (by omega), hH]
  simp only [SB, Nat.reduceAdd]
  rw [w64 (n := f1 - b) (by omega), w3]
  simp only [SB, Nat.reduceAdd]

def sumAt (k : Int) : List Thr → List Int → Int
  | t :: ts, x :: xs => (if t.st = k then x else 0) + sumAt k ts xs
  | _, _ => 0

theorem tot_eq : ∀ (ts : List Thr) (xs ys : List Int) (a b c : Int), (∀ t ∈ ts, t.st = 0 ∨ t.st = 1) → xs.length = ts.length → ys.length = ts.length →
    tot ts (pairL xs ys) a b c = (a + Div.sumI xs, b + sumAt 0 ts ys, c + sumAt 1 ts ys)
  | [], xs, ys, a, b, c, hs, hx, hy => by
    have e1 : xs = [] := by cases xs with | nil => rfl | cons => cases hx
    have e2 : ys = [] := by cases ys with | nil => rfl | cons => cases hy
    subst e1; subst e2
    simp [tot, pairL, Div.sumI, sumAt]
  | t :: ts, [], ys, a, b, c, hs, hx, hy => by cases hx
  | t :: ts, _ :: _, [], a, b, c, hs, hx, hy => by cases hy
  | t :: ts, x :: xs, y :: ys, a, b, c, hs, hx, hy => by
    have ih := fun a b c => tot_eq ts xs ys a b c (fun z hz => hs z (List.mem_cons_of_mem _ hz)) (by simpa using hx) (by simpa using hy)
    have ht := hs t (List.mem_cons_self ..)
    simp only [pairL, tot, Div.sumI, sumAt]
    by_cases h0 : t.st = 0
    · rw [if_pos h0, ih, if_pos h0, if_neg (by omega)]
      simp only [Int.add_assoc, Int.zero_add]
    · rw [if_neg h0, ih, if_neg h0, if_pos (by omega)]
      simp only [Int.add_assoc, Int.zero_add]

theorem sumAt_add (k : Int) : ∀ (ts : List Thr) (ls : List (Int × Int)) (a b : List Int), (∀ t ∈ ts, okT t = true) → InR (lats 1 ts ls) a → InR (lats 0 ts ls) b → (k = 0 ∨ k = 1) →
    sumAt k ts (addL a b) = if k = 0 then Div.sumI b else Div.sumI a
  | [], _, [], [], hv, ha, hb, hk => by simp [sumAt, addL, Div.sumI]
  | [], _, _ :: _, _, _, h, _, _ => h.elim
  | [], _, [], _ :: _, _, _, h, _ => h.elim
  | t :: ts, _, [], _, _, h, _, _ => h.elim
  | t :: ts, _, _ :: _, [], _, _, h, _ => h.elim
  | t :: ts, ls, x :: a, z :: b, hv, ha, hb, hk => by
    have ih := sumAt_add k ts ls.tail a b (fun x hx => hv x (List.mem_cons_of_mem _ hx)) ha.2 hb.2 hk
    have hv1 := okT0_iff.1 (okT_iff.1 (hv t (List.mem_cons_self ..))).1
    have ha1 := ha.1
    have hb1 := hb.1
    unfold latS at ha1 hb1
    simp only [addL, sumAt, Div.sumI]
    rw [ih]
    by_cases h0 : t.st = 0
    · rw [if_neg (by omega)] at ha1
      simp only at ha1
      rcases hk with rfl | rfl
      · rw [if_pos h0, if_pos rfl, if_pos rfl]; omega
      · rw [if_neg (by omega), if_neg (by omega), if_neg (by omega)]; omega
    · rw [if_neg h0] at hb1
      simp only at hb1
      rcases hk with rfl | rfl
      · rw [if_neg h0, if_pos rfl, if_pos rfl]; omega
      · rw [if_pos (by omega), if_neg (by omega), if_neg (by omega)]; omega

theorem Ws_st : ∀ {ts : List Thr} {ms : List Int} (k : Int) (xs : List Int), ms.length = ts.length → sumAt k (Ws ts ms) xs = sumAt k ts xs
  | [], _, k, xs, _ => by simp [Ws]
  | t :: ts, [], k, xs, h => by cases h
  | t :: ts, m :: ms, k, [], h => by simp [Ws, sumAt]
  | t :: ts, m :: ms, k, x :: xs, h => by
    have e : (withT t m).st = t.st := rfl
    simp only [Ws, sumAt, e]
    rw [Ws_st k xs (by simpa using h)]

theorem gvA_eq {s : Shp} {ms : List Int} {ls : List (Int × Int)} (h : AOk s ms ls) {d0 d1 d2 : Int} (hd : Mod3 d0 d1 d2) :
    gvA s ms ls d0 d1 d2 = (totC (lons (Ws s.ts ms) (ysA (Ws s.ts ms) ls d1 d2) ls) d0, totC (lats 0 (Ws s.ts ms) ls) d1, totC (lats 1 (Ws s.ts ms) ls) d2) := by
  obtain ⟨w1, w2, w3, w4, w5⟩ := wsa h
  have o0 := OkL_lats w2 w3 0 ls
  have o1 := OkL_lats w2 w3 1 ls
  have hy := ysA_len h hd
  have hx := xsA_len h hd
  have o2 := OkL_lons w2 w3 (ys := ysA (Ws s.ts ms) ls d1 d2) (by rw [hy.1, w1]) ls
  have hst : ∀ t ∈ s.ts, t.st = 0 ∨ t.st = 1 := fun t ht => by
    have := okT0_iff.1 (okT_iff.1 (h.ok.2.2.2.2.2.2 t ht).1).1
    omega
  have e := tot_eq s.ts (xsA (Ws s.ts ms) ls d0 d1 d2) (ysA (Ws s.ts ms) ls d1 d2) 0 0 0 hst hx.1 hy.1
  have e0 := sumAt_add 0 (Ws s.ts ms) ls (dv (lats 1 (Ws s.ts ms) ls) d2) (dv (lats 0 (Ws s.ts ms) ls) d1) w3 (dv_in o1 hd.2.2) (dv_in o0 hd.2.1) (.inl rfl)
  have e1 := sumAt_add 1 (Ws s.ts ms) ls (dv (lats 1 (Ws s.ts ms) ls) d2) (dv (lats 0 (Ws s.ts ms) ls) d1) w3 (dv_in o1 hd.2.2) (dv_in o0 hd.2.1) (.inr rfl)
  have hyy : addL (dv (lats 1 (Ws s.ts ms) ls) d2) (dv (lats 0 (Ws s.ts ms) ls) d1) = ysA (Ws s.ts ms) ls d1 d2 := rfl
  rw [hyy, Ws_st _ _ h.ml] at e0 e1
  rw [if_pos rfl, dv_sum o0 hd.2.1] at e0
  rw [if_neg (by omega), dv_sum o1 hd.2.2] at e1
  have e2 : Div.sumI (xsA (Ws s.ts ms) ls d0 d1 d2) = totC (lons (Ws s.ts ms) (ysA (Ws s.ts ms) ls d1 d2) ls) d0 := dv_sum o2 hd.1
  unfold gvA thA
  rw [e, e0, e1, e2]
  simp only [Int.zero_add]

end Go.Proofs.YtclplmjlolpfbaaGreat.Vm

/- Allocation: the example, what is not divided. -/
namespace Go.Proofs.YtclplmjlolpfbaaGreat.Vm
set_option linter.unusedVariables false
set_option linter.unusedSimpArgs false

theorem noarc_lat {u : Thr} (hu : okT u = true) (hf : u.fb = []) : IsLat u (if u.kd = 2 then 0 else -u.mx) (if u.kd = 2 then 0 else u.mx) := by
  have hv := okT0_iff.1 (okT_iff.1 hu).1
  have hz : alw u 0 0 = true := alw_zero (by omega)
  have mm := sq_le (a := u.mx) (m := u.mx) (by omega)
  have key : ∀ x y, alw u x y = true ↔ (-u.mx ≤ x ∧ x ≤ u.mx ∧ -u.mx ≤ y ∧ y ≤ u.mx ∧ x * x + y * y ≤ u.mx * u.mx ∧ (u.kd = 1 → x = 0) ∧ (u.kd = 2 → y = 0)) := by
    intro x y
    rw [alw_iff, alw0_iff, hf]
    simp only [free, List.all_nil, and_true]
  have nkey : ∀ x y, ¬ (-u.mx ≤ x ∧ x ≤ u.mx ∧ -u.mx ≤ y ∧ y ≤ u.mx ∧ x * x + y * y ≤ u.mx * u.mx ∧ (u.kd = 1 → x = 0) ∧ (u.kd = 2 → y = 0)) → alw u x y = false := by
    intro x y hn
    cases hh : alw u x y with
    | false => rfl
    | true => exact absurd ((key x y).1 hh) hn
  unfold IsLat
  rw [if_pos hu]
  by_cases hk : u.kd = 2
  · rw [if_pos hk, if_pos hk]
    refine ⟨by omega, by omega, fun n h1 h2 => ?_, nkey _ _ (by omega), nkey _ _ (by omega)⟩
    have : n = 0 := by omega
    rw [this]; exact hz
  · rw [if_neg hk, if_neg hk]
    refine ⟨by omega, by omega, fun n h1 h2 => (key _ _).2 ?_, nkey _ _ (by omega), nkey _ _ (by omega)⟩
    have := sq_le (a := n) (m := u.mx) (by omega)
    omega

theorem noarc_lon {u : Thr} (hu : okT u = true) (hf : u.fb = []) (hk : u.kd ≠ 1) : lonF u 0 = (-u.mx, u.mx) := by
  have hv := okT0_iff.1 (okT_iff.1 hu).1
  have hz : alw u 0 0 = true := alw_zero (by omega)
  have h := lonF_is u 0
  unfold IsLon at h
  rw [if_pos ⟨hu, hz⟩] at h
  have key : ∀ x, alw u x 0 = true ↔ (-u.mx ≤ x ∧ x ≤ u.mx ∧ x * x ≤ u.mx * u.mx) := by
    intro x
    rw [alw_iff, alw0_iff, hf]
    simp only [free, List.all_nil, and_true, Int.mul_zero, Int.add_zero]
    constructor
    · rintro ⟨a, b, _, _, e, _, _⟩; exact ⟨a, b, e⟩
    · rintro ⟨a, b, e⟩; exact ⟨a, b, by omega, by omega, e, fun h => absurd h hk, fun _ => trivial⟩
  have nkey : ∀ x, ¬ (-u.mx ≤ x ∧ x ≤ u.mx ∧ x * x ≤ u.mx * u.mx) → alw u x 0 = false := by
    intro x hn
    cases hh : alw u x 0 with
    | false => rfl
    | true => exact absurd ((key x).1 hh) hn
  have h2 : IsRun (fun x => alw u x 0) (-u.mx) u.mx := ⟨by omega, by omega, fun n a b => (key n).2 (by have := sq_le (a := n) (m := u.mx) (by omega); omega), nkey _ (by omega), nkey _ (by omega)⟩
  obtain ⟨e1, e2⟩ := IsRun_uniq h h2
  exact Prod.ext e1 e2

theorem nP_zero {s : Div.Shr} (h : Div.OkS s) (h0 : s.lo ≤ 0 ∧ 0 ≤ s.hi) : Div.nP 0 s = 0 := by
  unfold Div.OkS at h
  unfold Div.nP
  have e : (0 + s.c) / (2 * s.c) = 0 := Int.ediv_eq_zero_of_lt (by omega) (by omega)
  rw [e, Div.clamp_eq]
  split <;> split <;> omega

theorem fillK_sign {r : Int} : ∀ {l : List Div.Shr} (k : Int), (∀ s ∈ l, Div.OkS s ∧ s.lo ≤ 0 ∧ 0 ≤ s.hi) → (r ≤ 0 → ∀ x ∈ Div.fillK r l k, x ≤ 0) ∧ (1 ≤ r → ∀ x ∈ Div.fillK r l k, 0 ≤ x)
  | [], k, _ => ⟨fun _ x hx => (by cases hx), fun _ x hx => (by cases hx)⟩
  | s :: l, k, hs => by
    have h1 := hs s (List.mem_cons_self ..)
    obtain ⟨x, m, e1, a1, a2, _⟩ := Div.fillK_at r h1.1 k
    obtain ⟨i1, i2⟩ := fillK_sign (r := r) (l := l) m (fun z hz => hs z (List.mem_cons_of_mem _ hz))
    have z := nP_zero h1.1 h1.2
    rw [e1]
    refine ⟨fun hr y hy => ?_, fun hr y hy => ?_⟩
    · rcases List.mem_cons.1 hy with rfl | hy
      · have := Div.nP_mono h1.1 (show r ≤ 0 by omega)
        omega
      · exact i1 hr y hy
    · rcases List.mem_cons.1 hy with rfl | hy
      · have := Div.nP_mono h1.1 (show 0 ≤ r - 1 by omega)
        omega
      · exact i2 hr y hy

theorem zeros_of_le : ∀ {l : List Int}, (∀ x ∈ l, x ≤ 0) → Div.sumI l ≤ 0 ∧ (Div.sumI l = 0 → ∀ x ∈ l, x = 0)
  | [], _ => ⟨Int.le_refl _, fun _ x hx => (by cases hx)⟩
  | y :: l, h => by
    obtain ⟨i1, i2⟩ := zeros_of_le (l := l) fun x hx => h x (List.mem_cons_of_mem _ hx)
    have hy := h y (List.mem_cons_self ..)
    simp only [Div.sumI]
    refine ⟨by omega, fun h0 x hx => ?_⟩
    rcases List.mem_cons.1 hx with rfl | hx
    · omega
    · exact i2 (by omega) x hx
theorem zeros_of_ge : ∀ {l : List Int}, (∀ x ∈ l, 0 ≤ x) → 0 ≤ Div.sumI l ∧ (Div.sumI l = 0 → ∀ x ∈ l, x = 0)
  | [], _ => ⟨Int.le_refl _, fun _ x hx => (by cases hx)⟩
  | y :: l, h => by
    obtain ⟨i1, i2⟩ := zeros_of_ge (l := l) fun x hx => h x (List.mem_cons_of_mem _ hx)
    have hy := h y (List.mem_cons_self ..)
    simp only [Div.sumI]
    refine ⟨by omega, fun h0 x hx => ?_⟩
    rcases List.mem_cons.1 hx with rfl | hx
    · omega
    · exact i2 (by omega) x hx

theorem ends_zero : ∀ {l : List Div.Shr}, (∀ s ∈ l, s.lo ≤ 0 ∧ 0 ≤ s.hi) → Div.lows l ≤ 0 ∧ 0 ≤ Div.highs l
  | [], _ => ⟨Int.le_refl _, Int.le_refl _⟩
  | s :: l, h => by
    have := ends_zero (l := l) fun x hx => h x (List.mem_cons_of_mem _ hx)
    have := h s (List.mem_cons_self ..)
    simp only [Div.lows, Div.highs]
    omega
theorem totC_zero {l : List Div.Shr} (h : ∀ s ∈ l, s.lo ≤ 0 ∧ 0 ≤ s.hi) : totC l 0 = 0 := by
  have := ends_zero h
  unfold totC
  rw [Div.clamp_eq]
  split <;> split <;> omega

theorem dv_zero {l : List Div.Shr} (h : Div.OkL l) (h0 : ∀ s ∈ l, s.lo ≤ 0 ∧ 0 ≤ s.hi) : ∀ x ∈ dv l 0, x = 0 := by
  have hs := dv_sum h (total := 0) (by omega)
  rw [totC_zero h0] at hs
  have hk := fillK_sign (r := prF l 0) (l := l) (totC l 0 - Div.SP l (prF l 0 - 1)) (fun s hs => ⟨h.2 s hs, h0 s hs⟩)
  have hd : dv l 0 = Div.fillK (prF l 0) l (totC l 0 - Div.SP l (prF l 0 - 1)) := Div.divL_eq h _ _
  rw [← hd] at hk
  rcases Int.lt_or_le 0 (prF l 0) with hr | hr
  · exact (zeros_of_ge (hk.2 hr)).2 hs
  · exact (zeros_of_le (hk.1 hr)).2 hs

theorem lats_zero (k : Int) : ∀ {ts : List Thr}, (∀ t ∈ ts, okT t = true) → ∀ s ∈ lats k ts [], s.lo ≤ 0 ∧ 0 ≤ s.hi
  | [], _, s, hs => by cases hs
  | t :: ts, h, s, hs => by
    rcases List.mem_cons.1 hs with rfl | hs
    · have h1 := lat_in (h t (List.mem_cons_self ..))
      unfold latS
      split
      · simp only [List.head?_nil, Option.map_none, ratS]; omega
      · simp only; omega
    · exact lats_zero k (fun x hx => h x (List.mem_cons_of_mem _ hx)) s hs
theorem lons_zero : ∀ {ts : List Thr} (ys : List Int), (∀ t ∈ ts, okT t = true) → ∀ s ∈ lons ts ys [], s.lo ≤ 0 ∧ 0 ≤ s.hi
  | [], _, _, s, hs => by cases hs
  | t :: ts, [], _, s, hs => by cases hs
  | t :: ts, y :: ys, h, s, hs => by
    rcases List.mem_cons.1 hs with rfl | hs
    · have h1 := lon_in (h t (List.mem_cons_self ..)) y
      unfold lonS
      simp only [List.head?_nil, Option.map_none, ratS]; omega
    · exact lons_zero ys (fun x hx => h x (List.mem_cons_of_mem _ hx)) s hs

theorem addL_zero : ∀ {a b : List Int}, (∀ x ∈ a, x = 0) → (∀ x ∈ b, x = 0) → ∀ x ∈ addL a b, x = 0
  | [], _, _, _, x, hx => by cases hx
  | _ :: _, [], _, _, x, hx => by cases hx
  | y :: a, z :: b, ha, hb, x, hx => by
    rcases List.mem_cons.1 hx with rfl | hx
    · have := ha y (List.mem_cons_self ..)
      have := hb z (List.mem_cons_self ..)
      omega
    · exact addL_zero (fun w hw => ha w (List.mem_cons_of_mem _ hw)) (fun w hw => hb w (List.mem_cons_of_mem _ hw)) x hx
theorem pairL_zero : ∀ {a b : List Int}, (∀ x ∈ a, x = 0) → (∀ x ∈ b, x = 0) → ∀ v ∈ pairL a b, v = (0, 0)
  | [], _, _, _, x, hx => by cases hx
  | _ :: _, [], _, _, x, hx => by cases hx
  | y :: a, z :: b, ha, hb, x, hx => by
    rcases List.mem_cons.1 hx with rfl | hx
    · have h1 := ha y (List.mem_cons_self ..)
      have h2 := hb z (List.mem_cons_self ..)
      rw [h1, h2]
    · exact pairL_zero (fun w hw => ha w (List.mem_cons_of_mem _ hw)) (fun w hw => hb w (List.mem_cons_of_mem _ hw)) x hx

theorem thA_zero {s : Shp} {ms : List Int} (h : AOk s ms []) : (∀ v ∈ thA (Ws s.ts ms) [] 0 0 0, v = (0, 0)) ∧ gvA s ms [] 0 0 0 = (0, 0, 0) := by
  obtain ⟨w1, w2, w3, w4, w5⟩ := wsa h
  have hd : Mod3 0 0 0 := by unfold Mod3; omega
  have hy := ysA_len h hd
  have o0 := OkL_lats w2 w3 0 []
  have o1 := OkL_lats w2 w3 1 []
  have o2 := OkL_lons w2 w3 (ys := ysA (Ws s.ts ms) [] 0 0) (by rw [hy.1, w1]) []
  have z0 := dv_zero o0 (lats_zero 0 w3)
  have z1 := dv_zero o1 (lats_zero 1 w3)
  have z2 := dv_zero o2 (lons_zero _ w3)
  have zy := addL_zero z1 z0
  refine ⟨pairL_zero z2 zy, ?_⟩
  rw [gvA_eq h hd, totC_zero (lats_zero 0 w3), totC_zero (lats_zero 1 w3), totC_zero (lons_zero _ w3)]

end Go.Proofs.YtclplmjlolpfbaaGreat.Vm

/- Capability: contracts. -/
namespace Go.Proofs.YtclplmjlolpfbaaGreat.Vm
set_option linter.unusedVariables false
set_option linter.unusedSimpArgs false

theorem ints_loop : ∀ (a b p q : List Int), p.length = q.length → a.length = b.length → (p ++ a).length ≤ 1000000000000 →
    lp E (denC E) 23 0 [] 0 { vals := [AV.sl 1 (intsK .i64 (p ++ a)), AV.sl 1 (intsK .i64 (q ++ b)), AV.int .i64 ((p ++ a).length : Int), AV.int .i64 (p.length : Int)], blks := [] } =
      if a = b then some (Ex.exit 0, { vals := [], blks := [] }) else some (Ex.ret, { vals := [AV.bool false], blks := [] })
  | [], [], p, q, hpq, _, hl => by
    rw [r23_0, ctl_dec, if_neg (by simp)]
    rfl
  | x :: a, y :: b, p, q, hpq, hab, hl => by
    simp only [List.length_append, List.length_cons] at hl
    simp only [List.length_cons] at hab
    rw [r23_0, ctl_dec, if_pos (by simp; omega), getE_ints (by simp; omega), getE_ints (by simp; omega)]
    have hx : (p ++ x :: a).getD ((p.length : Int)).toNat 0 = x := by simp [List.getD]
    have hy : (q ++ y :: b).getD ((p.length : Int)).toNat 0 = y := by simp [List.getD, hpq]
    rw [hx, hy]
    simp only [SB, Nat.reduceAdd]
    by_cases h : x = y
    · have hz : (x != y) = false := by simp [h]
      rw [hz, ctl_false, w64 (by omega)]
      have ih := ints_loop a b (p ++ [x]) (q ++ [y]) (by simp [hpq]) (by omega) (by simp; omega)
      simp only [List.append_assoc, List.cons_append, List.nil_append, List.length_append, List.length_cons, List.length_nil] at ih
      simp only [List.length_append, List.length_cons]
      have e1 : ((p.length : Int) + 1) = ((p.length + (0 + 1) : Nat) : Int) := by omega
      rw [e1, ih]
      simp [h]
    · have hz : (x != y) = true := by simp [h]
      rw [hz, ctl_true]
      simp [h]
  | [], _ :: _, _, _, _, h, _ => by simp at h
  | _ :: _, [], _, _, _, h, _ => by simp at h

theorem c_Ints (a b : List Int) (ha : a.length ≤ 1000000000000) : denC E 23 [AV.sl 1 (intsK .i64 a), AV.sl 1 (intsK .i64 b)] [] = some ([RV.p (PV.bool (decide (a = b)))], []) := by
  rw [denC_eq, r23, intsK_length, intsK_length]
  by_cases h : a.length = b.length
  · have hz : ((a.length : Int) != (b.length : Int)) = false := by simp [h]
    rw [hz, ctl_false]
    have hl := ints_loop a b [] [] rfl h (by simpa using ha)
    simp only [List.nil_append, List.length_nil] at hl
    have e0 : (((0 : Nat)) : Int) = 0 := rfl
    rw [e0] at hl
    rw [hl]
    by_cases hab : a = b
    · rw [if_pos hab]
      simp only [SB, Nat.reduceAdd]
      simp [hab]
    · rw [if_neg hab]
      simp only [SB, Nat.reduceAdd]
      simp [hab]
  · have hz : ((a.length : Int) != (b.length : Int)) = true := by simp; omega
    rw [hz, ctl_true]
    have : a ≠ b := fun e => h (by rw [e])
    simp [this]

theorem c_QFloor {n d : Int} (hd : 0 < d) (hn : -9000000000000000000 ≤ n ∧ n ≤ 9000000000000000000) : denC E 69 [AV.int .i64 n, AV.int .i64 d] [] = some ([RV.p (PV.int .i64 (n / d))], []) := by
  rw [denC_eq, r69]
  have hb : -9000000000000000001 ≤ n / d ∧ n / d ≤ 9000000000000000000 := by
    have h1 := Int.mul_ediv_add_emod n d
    have h3 := Int.emod_nonneg n (Int.ne_of_gt hd)
    have h4 := Int.emod_lt_of_pos n hd
    constructor
    · rcases Int.lt_or_le (n / d) (-9000000000000000000) with h | h
      · have h5 : d * (n / d) ≤ d * (-9000000000000000001) := Int.mul_le_mul_of_nonneg_left (by omega) (by omega)
        omega
      · omega
    · rcases Int.lt_or_le 9000000000000000000 (n / d) with h | h
      · have h5 : d * 9000000000000000001 ≤ d * (n / d) := Int.mul_le_mul_of_nonneg_left (by omega) (by omega)
        omega
      · exact h
  have hf := floor_div (n := n) hd
  have hq : n.tdiv d = n / d ∨ n.tdiv d = n / d + 1 := by
    split at hf <;> omega
  have hne : neB d 0 = true := by simp; omega
  simp only [hne, Bool.and_self, ctl_true]
  rw [ctl_dec, w64 (n := n.tdiv d) (by omega), w64 (by omega), ← hf]
  split <;> rfl

theorem c_QHalf {n d : Int} (hd : 1 ≤ d ∧ d ≤ 1000000000) (hn : -1000000000000000000 ≤ n ∧ n ≤ 1000000000000000000) : denC E 42 [AV.int .i64 n, AV.int .i64 d] [] = some ([RV.p (PV.int .i64 (Half n d))], []) := by
  rw [denC_eq, r42, c_QFloor (by omega) (by omega)]
  have h1 := Int.mul_ediv_add_emod n d
  have h2 := Int.emod_nonneg n (b := d) (by omega)
  have h3 := Int.emod_lt_of_pos n (b := d) (by omega)
  have hb := Int.ediv_le_self (a := n) d
  have hs := half_spec (n := n) (d := d) (by omega)
  have hq : -1000000000000000001 ≤ n / d ∧ n / d ≤ 1000000000000000000 := by
    constructor
    · rcases Int.lt_or_le (n / d) (-1000000000000000000) with h | h
      · have h5 : d * (n / d) ≤ d * (-1000000000000000001) := Int.mul_le_mul_of_nonneg_left (by omega) (by omega)
        omega
      · omega
    · rcases Int.lt_or_le 1000000000000000000 (n / d) with h | h
      · have h5 : d * 1000000000000000001 ≤ d * (n / d) := Int.mul_le_mul_of_nonneg_left (by omega) (by omega)
        omega
      · exact h
  have e : n / d * d = d * (n / d) := Int.mul_comm ..
  have key : Half n d = if d - n % d ≤ n % d then n / d + 1 else n / d := by
    have hd2 : 0 < 2 * d := by omega
    unfold Half
    split
    · have : 2 * n + d = (2 * (n % d) - d) + (n / d + 1) * (2 * d) := by
        have e1 : (n / d + 1) * (2 * d) = 2 * (d * (n / d)) + 2 * d := by
          rw [Int.add_mul, Int.one_mul, ← Int.mul_assoc, Int.mul_comm (n / d) 2, Int.mul_assoc, e]
        omega
      rw [this, Int.add_mul_ediv_right _ _ (by omega), Int.ediv_eq_zero_of_lt (by omega) (by omega), Int.zero_add]
    · have : 2 * n + d = (2 * (n % d) + d) + (n / d) * (2 * d) := by
        have e1 : (n / d) * (2 * d) = 2 * (d * (n / d)) := by
          rw [← Int.mul_assoc, Int.mul_comm (n / d) 2, Int.mul_assoc, e]
        omega
      rw [this, Int.add_mul_ediv_right _ _ (by omega), Int.ediv_eq_zero_of_lt (by omega) (by omega), Int.zero_add]
  simp only [SB, Nat.reduceAdd]
  rw [e, w64 (n := d * (n / d)) (by omega)]
  have e2 : n - d * (n / d) = n % d := by omega
  rw [e2, w64 (n := n % d) (by omega), w64 (n := d - n % d) (by omega), w64 (n := n / d + 1) (by omega), key, ctl_dec]
  split <;> rfl

theorem half_le {n d N : Int} (hd : 1 ≤ d) (h0 : 0 ≤ N) (h : -N ≤ n ∧ n ≤ N) : -(N + 1) ≤ Half n d ∧ Half n d ≤ N + 1 := by
  have hs := half_spec (n := n) (d := d) (by omega)
  generalize Half n d = x at *
  constructor
  · rcases Int.lt_or_le x (-(N + 1)) with hx | hx
    · have h1 : d * x ≤ d * (-(N + 2)) := Int.mul_le_mul_of_nonneg_left (by omega) (by omega)
      have h2 : 1 * (N + 2) ≤ d * (N + 2) := Int.mul_le_mul_of_nonneg_right hd (by omega)
      have h3 : d * N ≥ 0 := Int.mul_nonneg (by omega) h0
      have h4 : 1 * N ≤ d * N := Int.mul_le_mul_of_nonneg_right hd h0
      have h5 : d * (-(N + 2)) = -(d * N) - 2 * d := by rw [Int.mul_neg, Int.mul_add]; omega
      omega
    · exact hx
  · rcases Int.lt_or_le (N + 1) x with hx | hx
    · have h1 : d * (N + 2) ≤ d * x := Int.mul_le_mul_of_nonneg_left (by omega) (by omega)
      have h4 : 1 * N ≤ d * N := Int.mul_le_mul_of_nonneg_right hd h0
      have h5 : d * (N + 2) = d * N + 2 * d := by rw [Int.mul_add]; omega
      omega
    · exact hx

theorem qw_loop (m : Int) (hm : 0 ≤ m ∧ m ≤ 1000000000) : ∀ (l p : List Int), (∀ n ∈ l, -m ≤ n ∧ n ≤ m) → (p ++ l).length ≤ 1000 →
    lp E (denC E) 51 0 [] 0 { vals := [AV.int .i64 m, AV.sl 1 (intsK .i64 (p ++ l)), AV.int .i64 ((p ++ l).length : Int), AV.int .i64 (p.length : Int)], blks := [] } = some (Ex.exit 0, { vals := [], blks := [] })
  | [], p, hs, h => by
    rw [r51_0, ctl_dec, if_neg (by simp)]
  | s :: l, p, hs, h => by
    have h1 := hs s (List.mem_cons_self ..)
    have ih := qw_loop m hm l (p ++ [s]) (fun n hn => hs n (List.mem_cons_of_mem _ hn)) (by simp at h ⊢; omega)
    simp only [List.length_append, List.length_cons] at h
    rw [r51_0, ctl_dec, if_pos (by simp; omega), getE_int1]
    simp only [List.append_assoc, List.cons_append, List.nil_append, List.length_append, List.length_cons, List.length_nil] at ih
    have e1 : ltB s (-m) = false := by simp only [decide_eq_false_iff_not]; omega
    have e2 : ltB m s = false := by simp only [decide_eq_false_iff_not]; omega
    have e3 : (0 : Int) - m = -m := by omega
    simp only [List.length_append, List.length_cons, SB, Nat.reduceAdd]
    rw [w64 (n := 0 - m) (by omega), e3, w64 (n := (p.length : Int) + 1) (by omega)]
    simp only [e1, e2, SB, Nat.reduceAdd]
    have e1 : ((p.length : Int) + 1) = ((p.length + (0 + 1) : Nat) : Int) := by omega
    rw [e1, ih]

def Sml (m : Int) (f : Int × Int × Int) : Prop := (-m ≤ f.1 ∧ f.1 ≤ m) ∧ (-m ≤ f.2.1 ∧ f.2.1 ≤ m) ∧ -(10 * m) ≤ f.2.2 ∧ f.2.2 ≤ 10 * m
theorem Sml_mono {m k : Int} {f : Int × Int × Int} (h : Sml m f) (hk : m ≤ k) : Sml k f := by unfold Sml at *; omega
theorem c_fvalid {f : Int × Int × Int} (h : Sml 1000 f) : denC E 32 [AV.agg [PV.int .i64 f.1, PV.int .i64 f.2.1, PV.int .i64 f.2.2]] [] = some ([RV.p (PV.bool true)], []) := by
  unfold Sml at h
  have hl := qw_loop 1000000 (by omega) [f.1, f.2.1, f.2.2] [] (fun n hn => by
    simp only [List.mem_cons, List.not_mem_nil, or_false] at hn
    rcases hn with rfl | rfl | rfl <;> omega) (by simp)
  simp only [List.nil_append, List.length_nil] at hl
  have hw : denC E 51 [AV.int .i64 1000000, AV.sl 1 [[PV.int .i64 f.1], [PV.int .i64 f.2.1], [PV.int .i64 f.2.2]]] [] = some ([RV.p (PV.bool true)], []) := by
    rw [denC_eq, r51]
    have e : lp E (denC E) 51 0 [] 0 { vals := [AV.int .i64 1000000, AV.sl 1 [[PV.int .i64 f.1], [PV.int .i64 f.2.1], [PV.int .i64 f.2.2]], AV.int .i64 (([[PV.int .i64 f.1], [PV.int .i64 f.2.1], [PV.int .i64 f.2.2]] : List (List PV)).length : Int), AV.int .i64 0], blks := [] } = _ := hl
    rw [e]
    simp only [SB, Nat.reduceAdd]
  rw [denC_eq, r32, hw]
  simp only [SB, Nat.reduceAdd]

theorem c_eachN {f : Int × Int × Int} (h : Sml 1000 f) : denC E 34 [AV.agg [PV.int .i64 f.1, PV.int .i64 f.2.1, PV.int .i64 f.2.2], AV.fn 35 []] [] = some ([RV.agg [PV.int .i64 (-f.1), PV.int .i64 (-f.2.1), PV.int .i64 (-f.2.2)]], []) := by
  unfold Sml at h
  have hn : ∀ x : Int, -10000 ≤ x ∧ x ≤ 10000 → denC E 35 [AV.int .i64 x] [] = some ([RV.p (PV.int .i64 (-x))], []) := fun x hx => by
    rw [denC_eq, r35, w64 (n := 0 - x) (by omega)]
    have : (0 : Int) - x = -x := by omega
    rw [this]
  rw [denC_eq, r34b, hn f.1 (by omega), hn f.2.1 (by omega), hn f.2.2 (by omega)]
  simp only [SB, Nat.reduceAdd]

def bowF (s : Shp) (f : Int × Int × Int) : Int := Half (-f.2.2 + -f.2.1 * s.sn) (s.bw + s.sn)
theorem bowF_le {s : Shp} (h : OkShp s) {f : Int × Int × Int} (hf : Sml 1000 f) : -300000 ≤ bowF s f ∧ bowF s f ≤ 300000 := by
  obtain ⟨g1, g2, g3, g4, g5, g6, g7⟩ := h
  unfold Sml at hf
  have m1 := mul_le (a := -f.2.1) (b := s.sn) (m := 1000) (n := 200) (by omega) (by omega)
  have := half_le (n := -f.2.2 + -f.2.1 * s.sn) (d := s.bw + s.sn) (N := 210000) (by omega) (by omega) (by omega)
  unfold bowF
  omega
theorem c_CDemand {s : Shp} (h : OkShp s) {f : Int × Int × Int} (hf : Sml 1000 f) :
    denC E 12 [AV.agg (shpC s), AV.agg [PV.int .i64 f.1, PV.int .i64 f.2.1, PV.int .i64 f.2.2]] [] = some ([RV.agg [PV.int .i64 (-f.1), PV.int .i64 (bowF s f), PV.int .i64 (-f.2.1 - bowF s f)], RV.p (PV.int .i64 0)], []) := by
  have hv := c_fvalid hf
  have he := c_eachN hf
  have hb := bowF_le h hf
  have hS := c_Stations h (f0 := -f.1) (f1 := -f.2.1) (f2 := -f.2.2) (by unfold Sml at hf; omega) (by unfold Sml at hf; omega) (by unfold Sml at hf; omega) (by unfold bowF at hb; omega)
  unfold shpC at *
  rw [denC_eq, r12, hv]
  simp only [SB, Nat.reduceAdd]
  rw [he]
  simp only [SB, Nat.reduceAdd]
  rw [hS]
  simp only [SB, Nat.reduceAdd]
  rfl

theorem dmd_mod {s : Shp} (h : OkShp s) {f : Int × Int × Int} (hf : Sml 1000 f) : Mod3 (-f.1) (bowF s f) (-f.2.1 - bowF s f) := by
  have := bowF_le h hf
  unfold Sml at hf
  unfold Mod3
  omega

noncomputable def gvL (s : Shp) (ms : List Int) (f : Int × Int × Int) : Int × Int × Int := gvA s ms [] (-f.1) (bowF s f) (-f.2.1 - bowF s f)
noncomputable def mis (s : Shp) (ms : List Int) (f : Int × Int × Int) : Int × Int × Int := (-f.1 - (gvL s ms f).1, bowF s f - (gvL s ms f).2.1, -f.2.1 - bowF s f - (gvL s ms f).2.2)
theorem c_Missing {s : Shp} {ms : List Int} (h : AOk s ms []) {f : Int × Int × Int} (hf : Sml 1000 f) :
    denC E 14 [AV.agg (shpC s), AV.sl 1 (intsK .i64 ms), AV.agg [PV.int .i64 f.1, PV.int .i64 f.2.1, PV.int .i64 f.2.2]] [] = some ([RV.agg [PV.int .i64 (mis s ms f).1, PV.int .i64 (mis s ms f).2.1, PV.int .i64 (mis s ms f).2.2], RV.p (PV.int .i64 0)], []) := by
  have hD := c_CDemand h.ok hf
  have hA := c_ADivide h (dmd_mod h.ok hf)
  have ea : arcK [] = [] := rfl
  have n0 : ((0 : Int) != 0) = false := rfl
  rw [ea] at hA
  unfold shpC at *
  rw [denC_eq, r14, hD]
  simp only [SB, Nat.reduceAdd, n0]
  rw [hA]
  simp only [SB, Nat.reduceAdd, n0]
  rfl

noncomputable def metB (s : Shp) (ms : List Int) (f : Int × Int × Int) : Bool := (mis s ms f).1 == 0 && ((mis s ms f).2.1 == 0 && (mis s ms f).2.2 == 0)
theorem metB_iff {s : Shp} {ms : List Int} {f : Int × Int × Int} : metB s ms f = true ↔ mis s ms f = (0, 0, 0) := by
  unfold metB
  simp only [Bool.and_eq_true, beq_iff_eq]
  constructor
  · rintro ⟨a, b, c⟩; exact Prod.ext a (Prod.ext b c)
  · intro h; rw [h]; exact ⟨rfl, rfl, rfl⟩
theorem c_Meets {s : Shp} {ms : List Int} (h : AOk s ms []) {f : Int × Int × Int} (hf : Sml 1000 f) :
    denC E 16 [AV.agg (shpC s), AV.sl 1 (intsK .i64 ms), AV.agg [PV.int .i64 f.1, PV.int .i64 f.2.1, PV.int .i64 f.2.2]] [] = some ([RV.p (PV.bool (metB s ms f))], []) := by
  have hM := c_Missing h hf
  unfold shpC at *
  rw [denC_eq, r16, hM]
  simp only [SB, Nat.reduceAdd, beq_self_eq_true]
  rfl

def prt (f : Int × Int × Int) (p : Int) : Int × Int × Int := (Half (f.1 * p) 100, Half (f.2.1 * p) 100, Half (f.2.2 * p) 100)
theorem prt_one {x p m : Int} (hm : 0 ≤ m ∧ m ≤ 10000) (hx : -m ≤ x ∧ x ≤ m) (hp : 0 ≤ p ∧ p ≤ 200) : (-(m * 200) ≤ x * p ∧ x * p ≤ m * 200) ∧ -(2 * m) ≤ Half (x * p) 100 ∧ Half (x * p) 100 ≤ 2 * m := by
  have m1 := mul_le (a := x) (b := p) (m := m) (n := 200) hx (by omega)
  refine ⟨by omega, ?_⟩
  unfold Half
  omega
theorem prt_sml {f : Int × Int × Int} {p : Int} (h : Sml 400 f) (hp : 0 ≤ p ∧ p ≤ 200) : Sml 1000 (prt f p) := by
  unfold Sml at *
  have a := prt_one (m := 400) (by omega) h.1 hp
  have b := prt_one (m := 400) (by omega) h.2.1 hp
  have c := prt_one (m := 4000) (by omega) h.2.2 hp
  unfold prt
  simp only
  omega
theorem prt_0 {f : Int × Int × Int} : prt f 0 = (0, 0, 0) := by
  unfold prt Half
  refine Prod.ext ?_ (Prod.ext ?_ ?_) <;> simp only <;> omega
theorem c_Part {f : Int × Int × Int} {p : Int} (h : Sml 400 f) (hp : 0 ≤ p ∧ p ≤ 200) :
    denC E 21 [AV.agg [PV.int .i64 f.1, PV.int .i64 f.2.1, PV.int .i64 f.2.2], AV.int .i64 p] [] = some ([RV.agg [PV.int .i64 (prt f p).1, PV.int .i64 (prt f p).2.1, PV.int .i64 (prt f p).2.2]], []) := by
  have hv := c_fvalid (Sml_mono h (show (400 : Int) ≤ 1000 by omega))
  have hn : ∀ x : Int, -4000 ≤ x ∧ x ≤ 4000 → denC E 41 [AV.int .i64 x, AV.t (TV.ptr 0 0)] [Blk.box [AV.int .i64 p]] = some ([RV.p (PV.int .i64 (Half (x * p) 100))], [Blk.box [AV.int .i64 p]]) := fun x hx => by
    have a := prt_one (m := 4000) (by omega) hx hp
    rw [denC_eq, r41, w64 (n := x * p) (by omega), c_QHalf (by omega) (by omega)]
    simp only [SB, Nat.reduceAdd]
  have he : denC E 34 [AV.agg [PV.int .i64 f.1, PV.int .i64 f.2.1, PV.int .i64 f.2.2], AV.fn 41 [TV.ptr 0 0]] [Blk.box [AV.int .i64 p]] = some ([RV.agg [PV.int .i64 (prt f p).1, PV.int .i64 (prt f p).2.1, PV.int .i64 (prt f p).2.2]], [Blk.box [AV.int .i64 p]]) := by
    unfold Sml at h
    rw [denC_eq, r34a, hn f.1 (by omega)]
    simp only [SB, Nat.reduceAdd]
    rw [hn f.2.1 (by omega)]
    simp only [SB, Nat.reduceAdd]
    rw [hn f.2.2 (by omega)]
    simp only [SB, Nat.reduceAdd]
    rfl
  have f1 : ltB p 0 = false := by simp only [decide_eq_false_iff_not]; omega
  have f2 : ltB 200 p = false := by simp only [decide_eq_false_iff_not]; omega
  rw [denC_eq, r21, hv]
  simp only [SB, Nat.reduceAdd, f1, f2]
  rw [he]
  simp only [SB, Nat.reduceAdd]

def rsvF (M : Int → Bool) : Nat → Int → Int → Int
  | 0, out, _ => out
  | n + 1, out, p => if M p = true then rsvF M n p (p + 10) else out
theorem rsvF_spec (M : Int → Bool) : ∀ (n : Nat) (out p : Int), (rsvF M n out p = out ∧ (n = 0 ∨ M p = false)) ∨ ∃ j : Nat, rsvF M n out p = p + 10 * (j : Int) ∧ j < n ∧ (∀ i : Nat, i ≤ j → M (p + 10 * (i : Int)) = true) ∧ (j + 1 = n ∨ M (p + 10 * (j : Int) + 10) = false)
  | 0, out, p => .inl ⟨rfl, .inl rfl⟩
  | n + 1, out, p => by
    unfold rsvF
    cases hM : M p with
    | false => exact .inl ⟨by rw [if_neg (by simp)], .inr rfl⟩
    | true =>
      rw [if_pos rfl]
      refine .inr ?_
      rcases rsvF_spec M n p (p + 10) with ⟨h1, h2⟩ | ⟨j, h1, h2, h3, h4⟩
      · refine ⟨0, by rw [h1]; omega, by omega, fun i hi => ?_, ?_⟩
        · have : i = 0 := by omega
          subst this
          have e : p + 10 * ((0 : Nat) : Int) = p := by omega
          rw [e, hM]
        · rcases h2 with h2 | h2
          · left; omega
          · right
            have e : p + 10 * ((0 : Nat) : Int) + 10 = p + 10 := by omega
            rw [e, h2]
      · refine ⟨j + 1, by rw [h1]; omega, by omega, fun i hi => ?_, ?_⟩
        · cases i with
          | zero =>
            have e : p + 10 * ((0 : Nat) : Int) = p := by omega
            rw [e, hM]
          | succ i =>
            have e : p + 10 * ((i + 1 : Nat) : Int) = p + 10 + 10 * (i : Int) := by omega
            rw [e, h3 i (by omega)]
        · rcases h4 with h4 | h4
          · left; omega
          · right
            have e : p + 10 * ((j + 1 : Nat) : Int) + 10 = p + 10 + 10 * (j : Int) + 10 := by omega
            rw [e, h4]

noncomputable def rsv (s : Shp) (ms : List Int) (f : Int × Int × Int) : Int := rsvF (fun p => metB s ms (prt f p)) 21 (-1) 0
theorem rsv_loop {s : Shp} {ms : List Int} (h : AOk s ms []) {f : Int × Int × Int} (hf : Sml 400 f) : ∀ (n : Nat) (out p : Int), p = 210 - 10 * (n : Int) → n ≤ 21 →
    lp E (denC E) 18 0 [] 0 { vals := [AV.sl 1 (intsK .i64 ms), AV.int .i64 out, AV.int .i64 p], blks := [Blk.box [AV.int .i64 s.bw, AV.int .i64 s.sn, AV.sl 6 (thK s.ts)], Blk.box [AV.int .i64 f.1, AV.int .i64 f.2.1, AV.int .i64 f.2.2]] } =
      some (Ex.exit 0, { vals := [AV.int .i64 (rsvF (fun p => metB s ms (prt f p)) n out p)], blks := [] })
  | 0, out, p, hp, hn => by
    have e : leB p 200 = false := by simp only [decide_eq_false_iff_not]; omega
    rw [r18_0, e]
    simp only [SB, Nat.reduceAdd]
    rfl
  | n + 1, out, p, hp, hn => by
    have ih := rsv_loop h hf n p (p + 10) (by omega) (by omega)
    have e : leB p 200 = true := by simp only [decide_eq_true_eq]; omega
    have hP := c_Part hf (p := p) (by omega)
    have hM := c_Meets h (prt_sml hf (p := p) (by omega))
    unfold shpC at hM
    rw [r18_0, e, hP]
    simp only [SB, Nat.reduceAdd]
    rw [hM]
    simp only [SB, Nat.reduceAdd]
    rw [w64 (n := p + 10) (by omega), ih]
    have er : rsvF (fun p => metB s ms (prt f p)) (n + 1) out p = if metB s ms (prt f p) = true then rsvF (fun p => metB s ms (prt f p)) n p (p + 10) else out := rfl
    rw [er]
    cases metB s ms (prt f p) with
    | false => rfl
    | true => rfl

theorem c_Reserve {s : Shp} {ms : List Int} (h : AOk s ms []) {f : Int × Int × Int} (hf : Sml 400 f) :
    denC E 18 [AV.agg (shpC s), AV.sl 1 (intsK .i64 ms), AV.agg [PV.int .i64 f.1, PV.int .i64 f.2.1, PV.int .i64 f.2.2]] [] = some ([RV.p (PV.int .i64 (rsv s ms f))], []) := by
  have hv := c_fvalid (Sml_mono hf (show (400 : Int) ≤ 1000 by omega))
  have hl := rsv_loop h hf 21 (-1) 0 (by omega) (by omega)
  unfold shpC
  rw [denC_eq, r18, hv]
  simp only [SB, Nat.reduceAdd]
  rw [hl]
  simp only [SB, Nat.reduceAdd]
  rfl

theorem gvA_zero {s : Shp} {ms : List Int} (h : AOk s ms []) : metB s ms (0, 0, 0) = true := by
  have hz := (thA_zero h).2
  have hb : bowF s (0, 0, 0) = 0 := by
    obtain ⟨g1, g2, g3, g4, g5, g6, g7⟩ := h.ok
    unfold bowF Half
    have e : 2 * (-(0 : Int) + -(0 : Int) * s.sn) + (s.bw + s.sn) = s.bw + s.sn := by simp
    simp only at e ⊢
    rw [e]
    exact Int.ediv_eq_zero_of_lt (by omega) (by omega)
  rw [metB_iff]
  unfold mis gvL
  rw [hb]
  have e1 : -(0 : Int) = 0 := rfl
  have e2 : (0 : Int) - 0 = 0 := rfl
  simp only [e1, e2, hz]

theorem rsv_spec {s : Shp} {ms : List Int} (h : AOk s ms []) (f : Int × Int × Int) : ∃ j : Nat, rsv s ms f = 10 * (j : Int) ∧ j ≤ 20 ∧ (∀ i : Nat, i ≤ j → metB s ms (prt f (10 * (i : Int))) = true) ∧ (j = 20 ∨ metB s ms (prt f (10 * (j : Int) + 10)) = false) := by
  have h0 : metB s ms (prt f 0) = true := by rw [prt_0]; exact gvA_zero h
  rcases rsvF_spec (fun p => metB s ms (prt f p)) 21 (-1) 0 with ⟨_, h2⟩ | ⟨j, h1, h2, h3, h4⟩
  · rcases h2 with h2 | h2
    · cases h2
    · rw [h0] at h2; cases h2
  · simp only [Int.zero_add] at h1 h3 h4
    exact ⟨j, h1, by omega, h3, by rcases h4 with h | h; (left; omega); exact .inr h⟩

def wo : List Int → List Int → List Int
  | a, [] => a
  | a, i :: l => wo (if 0 ≤ i ∧ i < (a.length : Int) then a.set i.toNat 0 else a) l
theorem wo_length : ∀ (l a : List Int), (wo a l).length = a.length
  | [], a => rfl
  | i :: l, a => by
    unfold wo
    rw [wo_length l]
    split <;> simp
theorem wo_loop : ∀ (l p a : List Int), (p ++ l).length ≤ 1000 → a.length ≤ 1000 →
    lp E (denC E) 26 0 [] 0 { vals := [AV.sl 1 (intsK .i64 (p ++ l)), AV.int .i64 ((p ++ l).length : Int), AV.int .i64 (p.length : Int)], blks := [Blk.arr 1 (intsK .i64 a)] } =
      some (Ex.exit 0, { vals := [], blks := [Blk.arr 1 (intsK .i64 (wo a l))] })
  | [], p, a, h, ha => by
    rw [r26_0, ctl_dec, if_neg (by simp)]
    rfl
  | i :: l, p, a, h, ha => by
    have ih := fun a ha => wo_loop l (p ++ [i]) a (by simp at h ⊢; omega) ha
    simp only [List.append_assoc, List.cons_append, List.nil_append, List.length_append, List.length_cons, List.length_nil] at ih h
    rw [r26_0, ctl_dec, if_pos (by simp; omega), getE_int1]
    simp only [SB, Nat.reduceAdd, List.length_append, List.length_cons, intsK_length]
    rw [w64 (n := (p.length : Int) + 1) (by omega)]
    have e1 : ((p.length : Int) + 1) = ((p.length + (0 + 1) : Nat) : Int) := by omega
    rw [e1]
    unfold wo
    by_cases h1 : 0 ≤ i ∧ i < (a.length : Int)
    · have f1 : leB 0 i = true := by simp only [decide_eq_true_eq]; omega
      have f2 : ltB i (a.length : Int) = true := by simp only [decide_eq_true_eq]; omega
      rw [if_pos h1]
      simp only [f1, f2, SB, Nat.reduceAdd]
      rw [Div.setEs_ints (by omega), ih _ (by simpa using ha)]
    · rw [if_neg h1]
      by_cases h2 : 0 ≤ i
      · have f1 : leB 0 i = true := by simp only [decide_eq_true_eq]; omega
        have f2 : ltB i (a.length : Int) = false := by simp only [decide_eq_false_iff_not]; omega
        simp only [f1, f2, SB, Nat.reduceAdd]
        rw [ih _ ha]
      · have f1 : leB 0 i = false := by simp only [decide_eq_false_iff_not]; omega
        simp only [f1, Bool.false_and, SB, Nat.reduceAdd]
        rw [ih _ ha]

theorem rCn_nil (F : Fun) : funK E F 49 [AV.sl 1 []] [] = both (some ([RV.own 1 []], [])) (some ([RV.own 1 []], [])) := by kernel_rfl

theorem c_CloneI {a : List Int} (h : a.length ≤ 1000) : denC E 49 [AV.sl 1 (intsK .i64 a)] [] = some ([RV.own 1 (intsK .i64 a)], []) := by
  rw [denC_eq]
  cases a with
  | nil =>
    have e : intsK .i64 [] = [] := rfl
    rw [e, rCn_nil, both_same]
  | cons x a =>
    have e : intsK .i64 (x :: a) = [PV.int .i64 x] :: intsK .i64 a := rfl
    rw [e, r49c, List.nil_append, Nat.zero_add]
    have e : leN (([PV.int .i64 x] :: intsK .i64 a).length * 8) 140737488355328 = true := by
      simp only [List.length_cons, intsK_length, decide_eq_true_eq] at h ⊢
      omega
    rw [e, ctl_true]

theorem c_Without {a l : List Int} (ha : a.length ≤ 1000) (hl : l.length ≤ 1000) :
    denC E 26 [AV.sl 1 (intsK .i64 a), AV.sl 1 (intsK .i64 l)] [] = some ([RV.p (PV.sl 1 (intsK .i64 (wo a l)))], []) := by
  have hw := wo_loop l [] a (by simpa using hl) ha
  simp only [List.nil_append, List.length_nil] at hw
  have e0 : (((0 : Nat)) : Int) = 0 := rfl
  rw [e0] at hw
  rw [denC_eq, r26, c_CloneI ha]
  simp only [SB, Nat.reduceAdd, intsK_length]
  rw [hw]
  simp only [SB, Nat.reduceAdd]

def mainT (mx rt : Int) : Thr := ⟨2, 0, mx, rt, 1, []⟩
def mainS (bw sn mx rt : Int) : Shp := ⟨bw, sn, [mainT mx rt]⟩
theorem main_ok {mx rt : Int} (hm : 0 ≤ mx ∧ mx ≤ 5000) (hr : 0 ≤ rt ∧ rt ≤ 5000) : okT (mainT mx rt) = true := by
  rw [okT_iff, okT0_iff]
  unfold mainT
  refine ⟨?_, ?_⟩
  · simp only [List.length_nil]; omega
  · rfl
theorem mainA {bw sn mx rt : Int} (hb : 0 ≤ bw ∧ bw ≤ 200) (hs : 1 ≤ sn ∧ sn ≤ 200) (hm : 0 ≤ mx ∧ mx ≤ 5000) (hr : 0 ≤ rt ∧ rt ≤ 5000) : AOk (mainS bw sn mx rt) [mx] [] := by
  unfold mainS
  refine ⟨⟨by simp, hb.1, hb.2, by simp only; omega, by simp only; omega, by simp only; omega, fun t ht => ?_⟩, rfl, fun m h => ?_, .inl rfl, fun v hv => by cases hv⟩
  · simp only [List.mem_cons, List.not_mem_nil, or_false] at ht
    subst ht
    exact ⟨main_ok hm hr, by unfold mainT; simp [maxLen]⟩
  · simp only [List.mem_cons, List.not_mem_nil, or_false] at h
    omega
theorem main_gv {bw sn mx rt : Int} (hb : 0 ≤ bw ∧ bw ≤ 200) (hs : 1 ≤ sn ∧ sn ≤ 200) (hm : 0 ≤ mx ∧ mx ≤ 5000) (hr : 0 ≤ rt ∧ rt ≤ 5000) {d0 d1 d2 : Int} (hd : Mod3 d0 d1 d2) :
    gvA (mainS bw sn mx rt) [mx] [] d0 d1 d2 = (Div.clamp d0 (-mx) mx, 0, 0) := by
  have hA := mainA hb hs hm hr
  have hk := main_ok hm hr
  have hW : Ws (mainS bw sn mx rt).ts [mx] = [mainT mx rt] := by
    show [withT (mainT mx rt) mx] = _
    have : withT (mainT mx rt) mx = mainT mx rt := by
      unfold withT mainT minI maxI
      simp only
      congr 1
      split <;> split <;> omega
    rw [this]
  have l1 : latF (mainT mx rt) = (0, 0) := by
    obtain ⟨a, b⟩ := IsLat_uniq (latF_is (mainT mx rt)) (noarc_lat hk rfl)
    exact Prod.ext a b
  have e0 : lats 0 [mainT mx rt] [] = [⟨0, 0, 1⟩] := by
    simp only [lats, latS, l1, List.head?_nil, List.tail_nil, Option.map_none, ratS]
    split <;> rfl
  have e1 : lats 1 [mainT mx rt] [] = [⟨0, 0, 1⟩] := by
    simp only [lats, latS, l1, List.head?_nil, List.tail_nil, Option.map_none, ratS]
    split <;> rfl
  obtain ⟨w1, w2, w3, w4, w5⟩ := wsa hA
  rw [hW] at w1 w2 w3
  have o0 := OkL_lats w2 w3 0 []
  have o1 := OkL_lats w2 w3 1 []
  have z0 := dv_in o0 hd.2.1
  have z1 := dv_in o1 hd.2.2
  have hy : ysA [mainT mx rt] [] d1 d2 = [0] := by
    unfold ysA
    rw [e0, e1] at *
    generalize dv [⟨0, 0, 1⟩] d1 = a at *
    generalize dv [⟨0, 0, 1⟩] d2 = b at *
    match a, b, z0, z1 with
    | [x], [y], z0, z1 =>
      have h0 := z0.1
      have h1 := z1.1
      simp only at h0 h1
      have : x = 0 := by omega
      have : y = 0 := by omega
      subst_vars; rfl
  have e2 : lons [mainT mx rt] [0] [] = [⟨-mx, mx, 1⟩] := by
    have := noarc_lon hk rfl (by unfold mainT; simp)
    simp only [lons, lonS, this, List.head?_nil, List.tail_nil, Option.map_none, ratS]
    rfl
  have c0 : ∀ d : Int, Div.clamp d 0 0 = 0 := fun d => by rw [Div.clamp_eq]; split <;> split <;> omega
  rw [gvA_eq hA hd, hW, hy, e0, e1, e2]
  unfold totC
  simp only [Div.lows, Div.highs, Int.add_zero, c0]

theorem main_met {bw sn mx rt : Int} (hb : 0 ≤ bw ∧ bw ≤ 200) (hs : 1 ≤ sn ∧ sn ≤ 200) (hm : 0 ≤ mx ∧ mx ≤ 5000) (hr : 0 ≤ rt ∧ rt ≤ 5000) {f : Int × Int × Int} (hf : Sml 1000 f) :
    metB (mainS bw sn mx rt) [mx] f = decide ((-mx ≤ f.1 ∧ f.1 ≤ mx) ∧ bowF (mainS bw sn mx rt) f = 0 ∧ f.2.1 = 0) := by
  have hA := mainA hb hs hm hr
  have hg := main_gv hb hs hm hr (dmd_mod hA.ok hf)
  rw [Bool.eq_iff_iff, metB_iff, decide_eq_true_iff]
  unfold mis gvL
  rw [hg, Div.clamp_eq]
  simp only [Prod.mk.injEq]
  split <;> split <;> omega

theorem c_Force {L : List Int} {k : Nat} (hL : L.length ≤ 600) (hk : k ≤ 600) :
    ∃ (f : Int × Int × Int) (k' : Nat), denC E 11 [AV.t (.ptr 0 0)] [src L k] = some ([RV.agg [PV.int .i64 f.1, PV.int .i64 f.2.1, PV.int .i64 f.2.2]], [src L k']) ∧ Sml 100 f ∧ k' ≤ 600 := by
  have hk1 := at'_le hL hk
  have hk2 := at'_le hL hk1
  have b0 := vRange_bounds (L := L) (k := k) (lo := -60) (hi := 60) (by omega)
  have b1 := vRange_bounds (L := L) (k := at' L k) (lo := -60) (hi := 60) (by omega)
  have b2 := vRange_bounds (L := L) (k := at' L (at' L k)) (lo := -900) (hi := 900) (by omega)
  refine ⟨(vRange L k (-60) 60, vRange L (at' L k) (-60) 60, vRange L (at' L (at' L k)) (-900) 900), _, ?_, ?_, at'_le hL hk2⟩
  rotate_left
  · unfold Sml
    simp only
    omega
  rw [denC_eq, r11, c_Range hL hk (by omega)]
  simp only [SB, Nat.reduceAdd]
  rw [c_Range hL hk1 (by omega)]
  simp only [SB, Nat.reduceAdd]
  rw [c_Range hL hk2 (by omega)]
  simp only [SB, Nat.reduceAdd]

theorem bow_along {s : Shp} (h : OkShp s) {f : Int × Int × Int} (h1 : f.2.1 = 0) (h2 : f.2.2 = 0) : bowF s f = 0 := by
  obtain ⟨g1, g2, g3, g4, g5, g6, g7⟩ := h
  unfold bowF Half
  rw [h1, h2]
  have e : 2 * (-(0 : Int) + -(0 : Int) * s.sn) + (s.bw + s.sn) = s.bw + s.sn := by simp
  rw [e]
  exact Int.ediv_eq_zero_of_lt (by omega) (by omega)

theorem main_along {bw sn mx rt : Int} (hb : 0 ≤ bw ∧ bw ≤ 200) (hs : 1 ≤ sn ∧ sn ≤ 200) (hm : 0 ≤ mx ∧ mx ≤ 5000) (hr : 0 ≤ rt ∧ rt ≤ 5000) {n : Int} (hn : -1000 ≤ n ∧ n ≤ 1000) :
    metB (mainS bw sn mx rt) [mx] (n, 0, 0) = decide (-mx ≤ n ∧ n ≤ mx) := by
  have hA := mainA hb hs hm hr
  rw [main_met hb hs hm hr (by unfold Sml; simp only; omega), bow_along hA.ok rfl rfl]
  simp

theorem c_sane : denC E 6 [] [] = some ([RV.p (PV.bool true)], []) := by
  have hA := mainA (bw := 0) (sn := 1) (mx := 100) (rt := 1) (by omega) (by omega) (by omega) (by omega)
  have m1 := c_Meets hA (f := (-100, 0, 0)) (by unfold Sml; simp only; omega)
  have m2 := c_Meets hA (f := (-101, 0, 0)) (by unfold Sml; simp only; omega)
  have m3 := c_Meets hA (f := (0, 5, 0)) (by unfold Sml; simp only; omega)
  have hR := c_Reserve hA (f := (-50, 0, 0)) (by unfold Sml; simp only; omega)
  rw [main_along (by omega) (by omega) (by omega) (by omega) (by omega)] at m1 m2
  rw [main_met (by omega) (by omega) (by omega) (by omega) (by unfold Sml; simp only; omega)] at m3
  have hr : rsv (mainS 0 1 100 1) [100] (-50, 0, 0) = 200 := by
    obtain ⟨j, h1, h2, h3, h4⟩ := rsv_spec hA (-50, 0, 0)
    by_cases hj : j = 20
    · omega
    · exfalso
      have h4 := h4.resolve_left hj
      have e : prt (-50, 0, 0) (10 * (j : Int) + 10) = (Half (-50 * (10 * (j : Int) + 10)) 100, 0, 0) := by
        unfold prt
        refine Prod.ext rfl (Prod.ext ?_ ?_) <;> (unfold Half; simp only; omega)
      rw [e, main_along (by omega) (by omega) (by omega) (by omega) (by unfold Half; omega)] at h4
      have := of_decide_eq_false h4
      unfold Half at this
      omega
  rw [hr] at hR
  have hW := c_Without (a := [4, 5, 6]) (l := [1, 7, -1]) (by decide) (by decide)
  have ew : wo [4, 5, 6] [1, 7, -1] = [4, 0, 6] := by decide
  rw [ew] at hW
  have hI := c_Ints [4, 0, 6] [4, 0, 6] (by decide)
  have eS : shpC (mainS 0 1 100 1) = [PV.int .i64 0, PV.int .i64 1, PV.sl 6 [[PV.int .i64 2, PV.int .i64 0, PV.int .i64 100, PV.int .i64 1, PV.int .i64 1, PV.sl 2 []]]] := rfl
  have eM : intsK .i64 [100] = [[PV.int .i64 100]] := rfl
  have eA : intsK .i64 [4, 5, 6] = [[PV.int .i64 4], [PV.int .i64 5], [PV.int .i64 6]] := rfl
  have eB : intsK .i64 [1, 7, -1] = [[PV.int .i64 1], [PV.int .i64 7], [PV.int .i64 (-1)]] := rfl
  have eC : intsK .i64 [4, 0, 6] = [[PV.int .i64 4], [PV.int .i64 0], [PV.int .i64 6]] := rfl
  rw [eS, eM] at m1 m2 m3 hR
  rw [eA, eB, eC] at hW
  rw [eC] at hI
  have d1 : decide (-(100 : Int) ≤ -100 ∧ -100 ≤ (100 : Int)) = true := by decide
  have d2 : decide (-(100 : Int) ≤ -101 ∧ -101 ≤ (100 : Int)) = false := by decide
  have d3 : decide ((-(100 : Int) ≤ (0, (5 : Int), (0 : Int)).1 ∧ (0, (5 : Int), (0 : Int)).1 ≤ (100 : Int)) ∧ bowF (mainS 0 1 100 1) (0, 5, 0) = 0 ∧ ((0 : Int), (5 : Int), (0 : Int)).2.1 = 0) = false := by decide +kernel
  rw [d1] at m1
  rw [d2] at m2
  rw [d3] at m3
  simp only at m1 m2 m3 hR
  rw [denC_eq, r6, m1]
  simp only [SB, Nat.reduceAdd]
  rw [m2]
  simp only [SB, Nat.reduceAdd]
  rw [m3]
  simp only [SB, Nat.reduceAdd]
  rw [hR]
  simp only [SB, Nat.reduceAdd, beq_self_eq_true]
  rw [hW]
  simp only [SB, Nat.reduceAdd]
  rw [hI]
  simp only [SB, Nat.reduceAdd, decide_true]

end Go.Proofs.YtclplmjlolpfbaaGreat.Vm
