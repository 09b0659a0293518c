/- Allocation: the shares of the thrusters, what is divided: plain part. -/
import Derived.Test.YtcnjaffogkkpnaaShipC
import Derived.Test.YtcnjaffogkkpnaaShareM
namespace Go.Proofs.Ytcnjaffogkkpnaa.Vm
set_option linter.unusedVariables false
set_option linter.unusedSimpArgs false

/-! ### Ranges as functions -/
theorem run_ex' {p : Int → Bool} (h0 : p 0 = true) (hb : ∀ n, p n = true → -5000 ≤ n ∧ n ≤ 5000) : ∃ a b : Int, IsRun p a b := by
  obtain ⟨i, j, _, _, h, _⟩ := run_ex h0 hb
  exact ⟨_, _, h⟩

theorem lat_ex (t : Thr) : ∃ q : Int × Int, IsLat t q.1 q.2 := by
  unfold IsLat
  cases hv : okT t with
  | false => exact ⟨(0, 0), by simp⟩
  | true =>
    have hv' := okT0_iff.1 (okT_iff.1 hv).1
    obtain ⟨a, b, h⟩ := run_ex' (p := fun y => alw t 0 y) (alw_zero (by omega)) (fun n hn => by have := alw_bounds hn; omega)
    exact ⟨(a, b), by simpa using h⟩
theorem lon_ex (t : Thr) (y : Int) : ∃ q : Int × Int, IsLon t y q.1 q.2 := by
  unfold IsLon
  by_cases hc : okT t = true ∧ alw t 0 y = true
  · have hv' := okT0_iff.1 (okT_iff.1 hc.1).1
    obtain ⟨a, b, h⟩ := run_ex' (p := fun x => alw t x y) hc.2 (fun n hn => by have := alw_bounds hn; omega)
    exact ⟨(a, b), by rw [if_pos hc]; exact h⟩
  · exact ⟨(0, 0), by rw [if_neg hc]; exact ⟨rfl, rfl⟩⟩
noncomputable def latF (t : Thr) : Int × Int := Classical.choose (lat_ex t)
noncomputable def lonF (t : Thr) (y : Int) : Int × Int := Classical.choose (lon_ex t y)
theorem latF_is (t : Thr) : IsLat t (latF t).1 (latF t).2 := Classical.choose_spec (lat_ex t)
theorem lonF_is (t : Thr) (y : Int) : IsLon t y (lonF t y).1 (lonF t y).2 := Classical.choose_spec (lon_ex t y)

theorem lat_in {t : Thr} (hv : okT t = true) : -t.mx ≤ (latF t).1 ∧ (latF t).1 ≤ 0 ∧ 0 ≤ (latF t).2 ∧ (latF t).2 ≤ t.mx := by
  have h := latF_is t
  unfold IsLat at h
  rw [if_pos hv] at h
  obtain ⟨h1, h2, h3, _⟩ := h
  have a := alw_bounds (h3 _ (Int.le_refl _) (by omega))
  have b := alw_bounds (h3 _ (by omega) (Int.le_refl _))
  omega
theorem lon_in {t : Thr} (hv : okT t = true) (y : Int) : -t.mx ≤ (lonF t y).1 ∧ (lonF t y).1 ≤ 0 ∧ 0 ≤ (lonF t y).2 ∧ (lonF t y).2 ≤ t.mx := by
  have h := lonF_is t y
  have hv' := okT0_iff.1 (okT_iff.1 hv).1
  unfold IsLon at h
  split at h
  · obtain ⟨h1, h2, h3, _⟩ := h
    have a := alw_bounds (h3 _ (Int.le_refl _) (by omega))
    have b := alw_bounds (h3 _ (by omega) (Int.le_refl _))
    omega
  · omega

theorem ratedF_in {lo hi last rate : Int} (h : lo ≤ hi) : lo ≤ (ratedF lo hi last rate).1 ∧ (ratedF lo hi last rate).1 ≤ (ratedF lo hi last rate).2 ∧ (ratedF lo hi last rate).2 ≤ hi := by
  unfold ratedF
  split
  · exact ⟨Int.le_refl _, h, Int.le_refl _⟩
  · have ha : lo ≤ maxI (last - rate) lo := by unfold maxI; split <;> omega
    have hc : minI (last + rate) hi ≤ hi := by unfold minI; split <;> omega
    split
    · exact ⟨ha, by assumption, hc⟩
    · split
      · exact ⟨Int.le_refl _, Int.le_refl _, h⟩
      · exact ⟨h, Int.le_refl _, Int.le_refl _⟩

/-! ### Thrusters with their greatest forces -/
def Ws : List Thr → List Int → List Thr
  | t :: ts, m :: ms => withT t m :: Ws ts ms
  | _, _ => []
theorem Ws_length : ∀ {ts : List Thr} {ms : List Int}, ms.length = ts.length → (Ws ts ms).length = ts.length
  | [], _, _ => by simp [Ws]
  | t :: ts, [], h => by cases h
  | t :: ts, m :: ms, h => by simp [Ws, Ws_length (ts := ts) (ms := ms) (by simpa using h)]
theorem Ws_ok : ∀ {ts : List Thr} {ms : List Int}, (∀ t ∈ ts, okT t = true) → ∀ w ∈ Ws ts ms, okT w = true
  | [], _, _, w, hw => by cases hw
  | t :: ts, [], h, w, hw => by cases hw
  | t :: ts, m :: ms, h, w, hw => by
    rcases List.mem_cons.1 hw with rfl | hw
    · exact withT_ok (h t (List.mem_cons_self ..)) m
    · exact Ws_ok (fun x hx => h x (List.mem_cons_of_mem _ hx)) w hw

/-! ### Shares -/
def ratS (t : Thr) (q : Int × Int) (v : Option Int) : Div.Shr := match v with
  | none => ⟨q.1, q.2, t.ct⟩
  | some l => ⟨(ratedF q.1 q.2 l t.rt).1, (ratedF q.1 q.2 l t.rt).2, t.ct⟩
noncomputable def latS (k : Int) (t : Thr) (v : Option (Int × Int)) : Div.Shr := if t.st = k then ratS t (latF t) (v.map Prod.snd) else ⟨0, 0, t.ct⟩
noncomputable def lonS (t : Thr) (y : Int) (v : Option (Int × Int)) : Div.Shr := ratS t (lonF t y) (v.map Prod.fst)
noncomputable def lats (k : Int) : List Thr → List (Int × Int) → List Div.Shr
  | [], _ => []
  | t :: ts, ls => latS k t ls.head? :: lats k ts ls.tail
noncomputable def lons : List Thr → List Int → List (Int × Int) → List Div.Shr
  | t :: ts, y :: ys, ls => lonS t y ls.head? :: lons ts ys ls.tail
  | _, _, _ => []
theorem lats_length (k : Int) : ∀ (ts : List Thr) (ls : List (Int × Int)), (lats k ts ls).length = ts.length
  | [], _ => rfl
  | t :: ts, ls => by simp [lats, lats_length k ts]
theorem lons_length : ∀ (ts : List Thr) (ys : List Int) (ls : List (Int × Int)), ys.length = ts.length → (lons ts ys ls).length = ts.length
  | [], _, _, _ => by simp [lons]
  | t :: ts, [], _, h => by cases h
  | t :: ts, y :: ys, ls, h => by simp [lons, lons_length ts ys ls.tail (by simpa using h)]

theorem ratS_ok {t : Thr} (hv : okT t = true) {q : Int × Int} (hq : -t.mx ≤ q.1 ∧ q.1 ≤ q.2 ∧ q.2 ≤ t.mx) (v : Option Int) : Div.OkS (ratS t q v) ∧ q.1 ≤ (ratS t q v).lo ∧ (ratS t q v).hi ≤ q.2 := by
  have hv' := okT0_iff.1 (okT_iff.1 hv).1
  unfold ratS Div.OkS
  cases v with
  | none => simp only; omega
  | some l =>
    have := ratedF_in (last := l) (rate := t.rt) hq.2.1
    simp only; omega

theorem latS_ok {t : Thr} (hv : okT t = true) (k : Int) (v : Option (Int × Int)) : Div.OkS (latS k t v) := by
  have h := lat_in hv
  unfold latS
  split
  · exact (ratS_ok hv (by omega) _).1
  · have hv' := okT0_iff.1 (okT_iff.1 hv).1
    unfold Div.OkS
    simp only; omega
theorem lonS_ok {t : Thr} (hv : okT t = true) (y : Int) (v : Option (Int × Int)) : Div.OkS (lonS t y v) := by
  have h := lon_in hv y
  unfold lonS
  exact (ratS_ok hv (by omega) _).1

theorem lats_ok (k : Int) : ∀ {ts : List Thr} (ls : List (Int × Int)), (∀ t ∈ ts, okT t = true) → ∀ s ∈ lats k ts ls, Div.OkS s
  | [], _, _, s, hs => by cases hs
  | t :: ts, ls, h, s, hs => by
    rcases List.mem_cons.1 hs with rfl | hs
    · exact latS_ok (h t (List.mem_cons_self ..)) k _
    · exact lats_ok k ls.tail (fun x hx => h x (List.mem_cons_of_mem _ hx)) s hs
theorem lons_ok : ∀ {ts : List Thr} (ys : List Int) (ls : List (Int × Int)), (∀ t ∈ ts, okT t = true) → ∀ s ∈ lons ts ys ls, Div.OkS s
  | [], _, _, _, s, hs => by cases hs
  | t :: ts, [], _, _, s, hs => by cases hs
  | t :: ts, y :: ys, ls, h, s, hs => by
    rcases List.mem_cons.1 hs with rfl | hs
    · exact lonS_ok (h t (List.mem_cons_self ..)) y _
    · exact lons_ok ys ls.tail (fun x hx => h x (List.mem_cons_of_mem _ hx)) s hs

theorem OkL_lats {ts : List Thr} (hl : ts.length ≤ 8) (h : ∀ t ∈ ts, okT t = true) (k : Int) (ls : List (Int × Int)) : Div.OkL (lats k ts ls) := ⟨by rw [lats_length]; exact hl, lats_ok k ls h⟩
theorem OkL_lons {ts : List Thr} (hl : ts.length ≤ 8) (h : ∀ t ∈ ts, okT t = true) {ys : List Int} (hy : ys.length = ts.length) (ls : List (Int × Int)) : Div.OkL (lons ts ys ls) := ⟨by rw [lons_length _ _ _ hy]; exact hl, lons_ok ys ls h⟩

/-! ### What is divided -/
/-- Each number in its range. -/
def InR : List Div.Shr → List Int → Prop
  | [], [] => True
  | s :: l, x :: xs => (s.lo ≤ x ∧ x ≤ s.hi) ∧ InR l xs
  | _, _ => False
theorem Up_InR : ∀ {l : List Div.Shr} {xs ys : List Int}, Div.Up l xs ys → InR l xs
  | [], [], [], _ => trivial
  | [], [], _ :: _, h => h.elim
  | [], _ :: _, _, h => h.elim
  | _ :: _, [], _, h => h.elim
  | _ :: _, _ :: _, [], h => h.elim
  | s :: l, x :: xs, y :: ys, h => ⟨by have := h.1; omega, Up_InR h.2⟩
theorem InR_length : ∀ {l : List Div.Shr} {xs : List Int}, InR l xs → xs.length = l.length
  | [], [], _ => rfl
  | [], _ :: _, h => h.elim
  | _ :: _, [], h => h.elim
  | s :: l, x :: xs, h => by simp [InR_length h.2]

def totC (l : List Div.Shr) (total : Int) : Int := Div.clamp total (Div.lows l) (Div.highs l)
theorem dv_ex (l : List Div.Shr) (total : Int) : ∃ r : Int, Div.OkL l → -500000 ≤ total ∧ total ≤ 500000 → Div.IsP l (totC l total) r ∧
    denC E 30 [AV.sl 3 (Div.shK l), AV.int .i64 total] [] = some ([RV.own 1 (intsK .i64 (Div.divL l (totC l total) r)), RV.p (PV.int .i64 (total - totC l total)), RV.p (PV.int .i64 0)], []) := by
  by_cases h : Div.OkL l ∧ -500000 ≤ total ∧ total ≤ 500000
  · obtain ⟨r, h1, h2⟩ := Div.c_Divide h.1 h.2
    exact ⟨r, fun _ _ => ⟨h1, h2⟩⟩
  · exact ⟨0, fun h1 h2 => absurd ⟨h1, h2⟩ h⟩
noncomputable def prF (l : List Div.Shr) (total : Int) : Int := Classical.choose (dv_ex l total)
/-- What Divide gives. -/
noncomputable def dv (l : List Div.Shr) (total : Int) : List Int := Div.divL l (totC l total) (prF l total)
theorem dv_isP {l : List Div.Shr} {total : Int} (h : Div.OkL l) (ht : -500000 ≤ total ∧ total ≤ 500000) : Div.IsP l (totC l total) (prF l total) := (Classical.choose_spec (dv_ex l total) h ht).1
theorem c_dv {l : List Div.Shr} {total : Int} (h : Div.OkL l) (ht : -500000 ≤ total ∧ total ≤ 500000) :
    denC E 30 [AV.sl 3 (Div.shK l), AV.int .i64 total] [] = some ([RV.own 1 (intsK .i64 (dv l total)), RV.p (PV.int .i64 (total - totC l total)), RV.p (PV.int .i64 0)], []) := (Classical.choose_spec (dv_ex l total) h ht).2
theorem totC_in {l : List Div.Shr} (h : Div.OkL l) (total : Int) : Div.lows l ≤ totC l total ∧ totC l total ≤ Div.highs l := Div.clamp_in (Div.ends_in h.2).2.1
theorem dv_sum {l : List Div.Shr} {total : Int} (h : Div.OkL l) (ht : -500000 ≤ total ∧ total ≤ 500000) : Div.sumI (dv l total) = totC l total := Div.divL_sum h (totC_in h total) (dv_isP h ht)
theorem dv_up {l : List Div.Shr} {a b : Int} (h : Div.OkL l) (ha : -500000 ≤ a ∧ a ≤ 500000) (hb : -500000 ≤ b ∧ b ≤ 500000) (hab : a ≤ b) : Div.Up l (dv l a) (dv l b) :=
  Div.divL_up h (totC_in h a) (totC_in h b) (by unfold totC; exact Div.clamp_mono hab) (dv_isP h ha) (dv_isP h hb)
theorem dv_in {l : List Div.Shr} {a : Int} (h : Div.OkL l) (ha : -500000 ≤ a ∧ a ≤ 500000) : InR l (dv l a) := Up_InR (dv_up h ha ha (Int.le_refl _))
theorem dv_length {l : List Div.Shr} {a : Int} (h : Div.OkL l) (ha : -500000 ≤ a ∧ a ≤ 500000) : (dv l a).length = l.length := InR_length (dv_in h ha)

def addL : List Int → List Int → List Int
  | y :: ys, b :: bs => (y + b) :: addL ys bs
  | _, _ => []
def pairL : List Int → List Int → List (Int × Int)
  | x :: xs, y :: ys => (x, y) :: pairL xs ys
  | _, _ => []
theorem addL_length : ∀ {a b : List Int}, a.length = b.length → (addL a b).length = a.length
  | [], _, _ => by simp [addL]
  | _ :: _, [], h => by cases h
  | x :: a, y :: b, h => by simp [addL, addL_length (a := a) (b := b) (by simpa using h)]
theorem pairL_length : ∀ {a b : List Int}, a.length = b.length → (pairL a b).length = a.length
  | [], _, _ => by simp [pairL]
  | _ :: _, [], h => by cases h
  | x :: a, y :: b, h => by simp [pairL, pairL_length (a := a) (b := b) (by simpa using h)]

/-- The lateral forces, the longitudinal ones, the thrusts. -/
noncomputable def ysA (W : List Thr) (ls : List (Int × Int)) (bow stern : Int) : List Int := addL (dv (lats 1 W ls) stern) (dv (lats 0 W ls) bow)
noncomputable def xsA (W : List Thr) (ls : List (Int × Int)) (surge bow stern : Int) : List Int := dv (lons W (ysA W ls bow stern) ls) surge
noncomputable def thA (W : List Thr) (ls : List (Int × Int)) (surge bow stern : Int) : List (Int × Int) := pairL (xsA W ls surge bow stern) (ysA W ls bow stern)

theorem ys_small : ∀ {ts : List Thr} {ls : List (Int × Int)} {a b : List Int}, (∀ t ∈ ts, okT t = true) → InR (lats 1 ts ls) a → InR (lats 0 ts ls) b → ∀ y ∈ addL a b, -5000 ≤ y ∧ y ≤ 5000
  | [], _, [], _, _, _, _, y, hy => by cases hy
  | [], _, _ :: _, _, _, h, _, _, _ => h.elim
  | t :: ts, _, [], _, _, h, _, _, _ => h.elim
  | t :: ts, _, _ :: _, [], _, _, h, _, _ => h.elim
  | t :: ts, ls, x :: a, z :: b, hv, ha, hb, y, hy => by
    have hv1 := hv t (List.mem_cons_self ..)
    have o1 := latS_ok hv1 1 ls.head?
    have o0 := latS_ok hv1 0 ls.head?
    have ha1 := ha.1
    have hb1 := hb.1
    rcases List.mem_cons.1 hy with rfl | hy
    · unfold Div.OkS at o1 o0
      unfold latS at ha1 hb1 o1 o0
      by_cases h1 : t.st = 1
      · rw [if_pos h1] at ha1 o1
        rw [if_neg (by omega)] at hb1
        simp only at hb1
        omega
      · rw [if_neg h1] at ha1
        simp only at ha1
        by_cases h0 : t.st = 0
        · rw [if_pos h0] at hb1 o0
          omega
        · rw [if_neg h0] at hb1
          simp only at hb1
          omega
    · exact ys_small (fun x hx => hv x (List.mem_cons_of_mem _ hx)) ha.2 hb.2 y hy

theorem InR_small : ∀ {l : List Div.Shr} {xs : List Int}, (∀ s ∈ l, Div.OkS s) → InR l xs → ∀ x ∈ xs, -5000 ≤ x ∧ x ≤ 5000
  | [], [], _, _, x, hx => by cases hx
  | [], _ :: _, _, h, _, _ => h.elim
  | _ :: _, [], _, h, _, _ => h.elim
  | s :: l, y :: xs, hs, h, x, hx => by
    rcases List.mem_cons.1 hx with rfl | hx
    · have := hs s (List.mem_cons_self ..)
      have := h.1
      unfold Div.OkS at *
      omega
    · exact InR_small (fun z hz => hs z (List.mem_cons_of_mem _ hz)) h.2 x hx

theorem pair_small : ∀ {xs ys : List Int}, (∀ x ∈ xs, -5000 ≤ x ∧ x ≤ 5000) → (∀ y ∈ ys, -5000 ≤ y ∧ y ≤ 5000) → SmL (pairL xs ys) 5000
  | [], _, _, _, v, hv => by cases hv
  | _ :: _, [], _, _, v, hv => by cases hv
  | x :: xs, y :: ys, h1, h2, v, hv => by
    rcases List.mem_cons.1 hv with rfl | hv
    · have a := h1 x (List.mem_cons_self ..)
      have b := h2 y (List.mem_cons_self ..)
      simp only
      omega
    · exact pair_small (fun z hz => h1 z (List.mem_cons_of_mem _ hz)) (fun z hz => h2 z (List.mem_cons_of_mem _ hz)) v hv

end Go.Proofs.Ytcnjaffogkkpnaa.Vm
