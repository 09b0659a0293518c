/- Allocation: the example, what is not divided. -/
import Derived.Test.YtaekifnmofjhhaaAllocS
namespace Go.Proofs.Ytaekifnmofjhhaa.Vm
set_option linter.unusedVariables false
set_option linter.unusedSimpArgs false

/-! ### Thrusters without arcs -/
theorem noarc_lat {u : Thr} (hu : okT u = true) (hf : u.fb = []) : IsLat u (if u.kd = 2 then 0 else -u.mx) (if u.kd = 2 then 0 else u.mx) := by
  have hv := okT0_iff.1 (okT_iff.1 hu).1
  have hz : alw u 0 0 = true := alw_zero (by omega)
  have mm := sq_le (a := u.mx) (m := u.mx) (by omega)
  have key : ∀ x y, alw u x y = true ↔ (-u.mx ≤ x ∧ x ≤ u.mx ∧ -u.mx ≤ y ∧ y ≤ u.mx ∧ x * x + y * y ≤ u.mx * u.mx ∧ (u.kd = 1 → x = 0) ∧ (u.kd = 2 → y = 0)) := by
    intro x y
    rw [alw_iff, alw0_iff, hf]
    simp only [free, List.all_nil, and_true]
  have nkey : ∀ x y, ¬ (-u.mx ≤ x ∧ x ≤ u.mx ∧ -u.mx ≤ y ∧ y ≤ u.mx ∧ x * x + y * y ≤ u.mx * u.mx ∧ (u.kd = 1 → x = 0) ∧ (u.kd = 2 → y = 0)) → alw u x y = false := by
    intro x y hn
    cases hh : alw u x y with
    | false => rfl
    | true => exact absurd ((key x y).1 hh) hn
  unfold IsLat
  rw [if_pos hu]
  by_cases hk : u.kd = 2
  · rw [if_pos hk, if_pos hk]
    refine ⟨by omega, by omega, fun n h1 h2 => ?_, nkey _ _ (by omega), nkey _ _ (by omega)⟩
    have : n = 0 := by omega
    rw [this]; exact hz
  · rw [if_neg hk, if_neg hk]
    refine ⟨by omega, by omega, fun n h1 h2 => (key _ _).2 ?_, nkey _ _ (by omega), nkey _ _ (by omega)⟩
    have := sq_le (a := n) (m := u.mx) (by omega)
    omega

/-- A tunnel thruster gives no longitudinal force. -/
theorem tunnel_lon {u : Thr} (hu : okT u = true) (hk : u.kd = 1) (y : Int) : lonF u y = (0, 0) := by
  have h := lonF_is u y
  unfold IsLon at h
  split at h
  · rename_i hc
    have hno : ∀ n, n ≠ 0 → alw u n y = false := fun n hn => by
      cases hh : alw u n y with
      | false => rfl
      | true => exact absurd ((alw0_iff.1 (alw_iff.1 hh).1).2.2.2.2.2.1 hk) hn
    have h2 : IsRun (fun x => alw u x y) 0 0 := ⟨by omega, by omega, fun n a b => by
      have : n = 0 := by omega
      rw [this]; exact hc.2, hno _ (by omega), hno _ (by omega)⟩
    obtain ⟨e1, e2⟩ := IsRun_uniq h h2
    exact Prod.ext e1 e2
  · exact Prod.ext h.1 h.2
/-- Without lateral force a thruster without arcs that is no tunnel thruster gives all. -/
theorem noarc_lon {u : Thr} (hu : okT u = true) (hf : u.fb = []) (hk : u.kd ≠ 1) : lonF u 0 = (-u.mx, u.mx) := by
  have hv := okT0_iff.1 (okT_iff.1 hu).1
  have hz : alw u 0 0 = true := alw_zero (by omega)
  have h := lonF_is u 0
  unfold IsLon at h
  rw [if_pos ⟨hu, hz⟩] at h
  have key : ∀ x, alw u x 0 = true ↔ (-u.mx ≤ x ∧ x ≤ u.mx ∧ x * x ≤ u.mx * u.mx) := by
    intro x
    rw [alw_iff, alw0_iff, hf]
    simp only [free, List.all_nil, and_true, Int.mul_zero, Int.add_zero]
    constructor
    · rintro ⟨a, b, _, _, e, _, _⟩; exact ⟨a, b, e⟩
    · rintro ⟨a, b, e⟩; exact ⟨a, b, by omega, by omega, e, fun h => absurd h hk, fun _ => trivial⟩
  have nkey : ∀ x, ¬ (-u.mx ≤ x ∧ x ≤ u.mx ∧ x * x ≤ u.mx * u.mx) → alw u x 0 = false := by
    intro x hn
    cases hh : alw u x 0 with
    | false => rfl
    | true => exact absurd ((key x).1 hh) hn
  have h2 : IsRun (fun x => alw u x 0) (-u.mx) u.mx := ⟨by omega, by omega, fun n a b => (key n).2 (by have := sq_le (a := n) (m := u.mx) (by omega); omega), nkey _ (by omega), nkey _ (by omega)⟩
  obtain ⟨e1, e2⟩ := IsRun_uniq h h2
  exact Prod.ext e1 e2

/-! ### The example -/
def ex1 : Thr := ⟨1, 0, 50, 0, 1, []⟩
def ex2 : Thr := ⟨1, 1, 50, 0, 1, []⟩
def ex3 : Thr := ⟨2, 1, 90, 0, 1, []⟩
def exS : Shp := ⟨40, 60, [ex1, ex2, ex3]⟩
theorem ex_ok : ∀ t ∈ [ex1, ex2, ex3], okT t = true := by
  intro t ht
  simp only [List.mem_cons, List.not_mem_nil, or_false] at ht
  rcases ht with rfl | rfl | rfl <;> decide +kernel
theorem exA : AOk exS [50, 50, 90] [] := by
  refine ⟨⟨by decide, by decide, by decide, by decide, by decide, by decide, fun t ht => ⟨ex_ok t ht, ?_⟩⟩, rfl, fun m hm => ?_, .inl rfl, fun v hv => by cases hv⟩
  · have ht' : t ∈ [ex1, ex2, ex3] := ht
    simp only [List.mem_cons, List.not_mem_nil, or_false] at ht'
    rcases ht' with rfl | rfl | rfl <;> decide
  · simp only [List.mem_cons, List.not_mem_nil, or_false] at hm
    rcases hm with rfl | rfl | rfl <;> omega
theorem exW : Ws exS.ts [50, 50, 90] = [ex1, ex2, ex3] := rfl

theorem inr3 {s1 s2 s3 : Div.Shr} {xs : List Int} (h : InR [s1, s2, s3] xs) : ∃ a b c, xs = [a, b, c] ∧ (s1.lo ≤ a ∧ a ≤ s1.hi) ∧ (s2.lo ≤ b ∧ b ≤ s2.hi) ∧ (s3.lo ≤ c ∧ c ≤ s3.hi) := by
  match xs, h with
  | [a, b, c], h => exact ⟨a, b, c, rfl, h.1, h.2.1, h.2.2.1⟩

theorem exTh : thA [ex1, ex2, ex3] [] 5 7 3 = [(0, 7), (0, 3), (5, 0)] := by
  have l1 : latF ex1 = (-50, 50) := by
    obtain ⟨a, b⟩ := IsLat_uniq (latF_is ex1) (noarc_lat (u := ex1) (by decide +kernel) rfl)
    exact Prod.ext a b
  have l2 : latF ex2 = (-50, 50) := by
    obtain ⟨a, b⟩ := IsLat_uniq (latF_is ex2) (noarc_lat (u := ex2) (by decide +kernel) rfl)
    exact Prod.ext a b
  have l3 : latF ex3 = (0, 0) := by
    obtain ⟨a, b⟩ := IsLat_uniq (latF_is ex3) (noarc_lat (u := ex3) (by decide +kernel) rfl)
    exact Prod.ext a b
  have e0 : lats 0 [ex1, ex2, ex3] [] = [⟨-50, 50, 1⟩, ⟨0, 0, 1⟩, ⟨0, 0, 1⟩] := by
    simp only [lats, latS, l1, List.head?_nil, List.tail_nil, Option.map_none, ratS]
    rfl
  have e1 : lats 1 [ex1, ex2, ex3] [] = [⟨0, 0, 1⟩, ⟨-50, 50, 1⟩, ⟨0, 0, 1⟩] := by
    simp only [lats, latS, l2, l3, List.head?_nil, List.tail_nil, Option.map_none, ratS]
    rfl
  have o0 : Div.OkL (lats 0 [ex1, ex2, ex3] []) := OkL_lats (by decide) ex_ok 0 []
  have o1 : Div.OkL (lats 1 [ex1, ex2, ex3] []) := OkL_lats (by decide) ex_ok 1 []
  have d0 := dv_in o0 (a := 7) (by omega)
  have d1 := dv_in o1 (a := 3) (by omega)
  have s0 := dv_sum o0 (total := 7) (by omega)
  have s1 := dv_sum o1 (total := 3) (by omega)
  have t0 : totC (lats 0 [ex1, ex2, ex3] []) 7 = 7 := by rw [e0]; decide
  have t1 : totC (lats 1 [ex1, ex2, ex3] []) 3 = 3 := by rw [e1]; decide
  rw [t0] at s0
  rw [t1] at s1
  have v0 : dv (lats 0 [ex1, ex2, ex3] []) 7 = [7, 0, 0] := by
    generalize dv (lats 0 [ex1, ex2, ex3] []) 7 = z at *
    rw [e0] at d0
    obtain ⟨a, b, c, rfl, h1, h2, h3⟩ := inr3 d0
    simp only [Div.sumI] at s0 h1 h2 h3
    have : a = 7 := by omega
    have : b = 0 := by omega
    have : c = 0 := by omega
    subst_vars; rfl
  have v1 : dv (lats 1 [ex1, ex2, ex3] []) 3 = [0, 3, 0] := by
    generalize dv (lats 1 [ex1, ex2, ex3] []) 3 = z at *
    rw [e1] at d1
    obtain ⟨a, b, c, rfl, h1, h2, h3⟩ := inr3 d1
    simp only [Div.sumI] at s1 h1 h2 h3
    have : a = 0 := by omega
    have : b = 3 := by omega
    have : c = 0 := by omega
    subst_vars; rfl
  have hy : ysA [ex1, ex2, ex3] [] 7 3 = [7, 3, 0] := by unfold ysA; rw [v0, v1]; rfl
  have e2 : lons [ex1, ex2, ex3] [7, 3, 0] [] = [⟨0, 0, 1⟩, ⟨0, 0, 1⟩, ⟨-90, 90, 1⟩] := by
    simp only [lons, lonS, tunnel_lon (u := ex1) (by decide +kernel) rfl, tunnel_lon (u := ex2) (by decide +kernel) rfl, noarc_lon (u := ex3) (by decide +kernel) rfl (by decide), List.head?_nil, List.tail_nil, Option.map_none, ratS]
    rfl
  have o2 : Div.OkL (lons [ex1, ex2, ex3] [7, 3, 0] []) := OkL_lons (by decide) ex_ok rfl []
  have d2 := dv_in o2 (a := 5) (by omega)
  have s2 := dv_sum o2 (total := 5) (by omega)
  have t2 : totC (lons [ex1, ex2, ex3] [7, 3, 0] []) 5 = 5 := by rw [e2]; decide
  rw [t2] at s2
  have v2 : dv (lons [ex1, ex2, ex3] [7, 3, 0] []) 5 = [0, 0, 5] := by
    generalize dv (lons [ex1, ex2, ex3] [7, 3, 0] []) 5 = z at *
    rw [e2] at d2
    obtain ⟨a, b, c, rfl, h1, h2, h3⟩ := inr3 d2
    simp only [Div.sumI] at s2 h1 h2 h3
    have : a = 0 := by omega
    have : b = 0 := by omega
    have : c = 5 := by omega
    subst_vars; rfl
  unfold thA xsA
  rw [hy, v2]
  rfl

/-! ### Nothing is divided -/
theorem nP_zero {s : Div.Shr} (h : Div.OkS s) (h0 : s.lo ≤ 0 ∧ 0 ≤ s.hi) : Div.nP 0 s = 0 := by
  unfold Div.OkS at h
  unfold Div.nP
  have e : (0 + s.c) / (2 * s.c) = 0 := Int.ediv_eq_zero_of_lt (by omega) (by omega)
  rw [e, Div.clamp_eq]
  split <;> split <;> omega

theorem fillK_sign {r : Int} : ∀ {l : List Div.Shr} (k : Int), (∀ s ∈ l, Div.OkS s ∧ s.lo ≤ 0 ∧ 0 ≤ s.hi) → (r ≤ 0 → ∀ x ∈ Div.fillK r l k, x ≤ 0) ∧ (1 ≤ r → ∀ x ∈ Div.fillK r l k, 0 ≤ x)
  | [], k, _ => ⟨fun _ x hx => (by cases hx), fun _ x hx => (by cases hx)⟩
  | s :: l, k, hs => by
    have h1 := hs s (List.mem_cons_self ..)
    obtain ⟨x, m, e1, a1, a2, _⟩ := Div.fillK_at r h1.1 k
    obtain ⟨i1, i2⟩ := fillK_sign (r := r) (l := l) m (fun z hz => hs z (List.mem_cons_of_mem _ hz))
    have z := nP_zero h1.1 h1.2
    rw [e1]
    refine ⟨fun hr y hy => ?_, fun hr y hy => ?_⟩
    · rcases List.mem_cons.1 hy with rfl | hy
      · have := Div.nP_mono h1.1 (show r ≤ 0 by omega)
        omega
      · exact i1 hr y hy
    · rcases List.mem_cons.1 hy with rfl | hy
      · have := Div.nP_mono h1.1 (show 0 ≤ r - 1 by omega)
        omega
      · exact i2 hr y hy

theorem zeros_of_le : ∀ {l : List Int}, (∀ x ∈ l, x ≤ 0) → Div.sumI l ≤ 0 ∧ (Div.sumI l = 0 → ∀ x ∈ l, x = 0)
  | [], _ => ⟨Int.le_refl _, fun _ x hx => (by cases hx)⟩
  | y :: l, h => by
    obtain ⟨i1, i2⟩ := zeros_of_le (l := l) fun x hx => h x (List.mem_cons_of_mem _ hx)
    have hy := h y (List.mem_cons_self ..)
    simp only [Div.sumI]
    refine ⟨by omega, fun h0 x hx => ?_⟩
    rcases List.mem_cons.1 hx with rfl | hx
    · omega
    · exact i2 (by omega) x hx
theorem zeros_of_ge : ∀ {l : List Int}, (∀ x ∈ l, 0 ≤ x) → 0 ≤ Div.sumI l ∧ (Div.sumI l = 0 → ∀ x ∈ l, x = 0)
  | [], _ => ⟨Int.le_refl _, fun _ x hx => (by cases hx)⟩
  | y :: l, h => by
    obtain ⟨i1, i2⟩ := zeros_of_ge (l := l) fun x hx => h x (List.mem_cons_of_mem _ hx)
    have hy := h y (List.mem_cons_self ..)
    simp only [Div.sumI]
    refine ⟨by omega, fun h0 x hx => ?_⟩
    rcases List.mem_cons.1 hx with rfl | hx
    · omega
    · exact i2 (by omega) x hx

theorem ends_zero : ∀ {l : List Div.Shr}, (∀ s ∈ l, s.lo ≤ 0 ∧ 0 ≤ s.hi) → Div.lows l ≤ 0 ∧ 0 ≤ Div.highs l
  | [], _ => ⟨Int.le_refl _, Int.le_refl _⟩
  | s :: l, h => by
    have := ends_zero (l := l) fun x hx => h x (List.mem_cons_of_mem _ hx)
    have := h s (List.mem_cons_self ..)
    simp only [Div.lows, Div.highs]
    omega
theorem totC_zero {l : List Div.Shr} (h : ∀ s ∈ l, s.lo ≤ 0 ∧ 0 ≤ s.hi) : totC l 0 = 0 := by
  have := ends_zero h
  unfold totC
  rw [Div.clamp_eq]
  split <;> split <;> omega

theorem dv_zero {l : List Div.Shr} (h : Div.OkL l) (h0 : ∀ s ∈ l, s.lo ≤ 0 ∧ 0 ≤ s.hi) : ∀ x ∈ dv l 0, x = 0 := by
  have hs := dv_sum h (total := 0) (by omega)
  rw [totC_zero h0] at hs
  have hk := fillK_sign (r := prF l 0) (l := l) (totC l 0 - Div.SP l (prF l 0 - 1)) (fun s hs => ⟨h.2 s hs, h0 s hs⟩)
  have hd : dv l 0 = Div.fillK (prF l 0) l (totC l 0 - Div.SP l (prF l 0 - 1)) := Div.divL_eq h _ _
  rw [← hd] at hk
  rcases Int.lt_or_le 0 (prF l 0) with hr | hr
  · exact (zeros_of_ge (hk.2 hr)).2 hs
  · exact (zeros_of_le (hk.1 hr)).2 hs

/-- Ranges without last thrusts hold 0. -/
theorem lats_zero (k : Int) : ∀ {ts : List Thr}, (∀ t ∈ ts, okT t = true) → ∀ s ∈ lats k ts [], s.lo ≤ 0 ∧ 0 ≤ s.hi
  | [], _, s, hs => by cases hs
  | t :: ts, h, s, hs => by
    rcases List.mem_cons.1 hs with rfl | hs
    · have h1 := lat_in (h t (List.mem_cons_self ..))
      unfold latS
      split
      · simp only [List.head?_nil, Option.map_none, ratS]; omega
      · simp only; omega
    · exact lats_zero k (fun x hx => h x (List.mem_cons_of_mem _ hx)) s hs
theorem lons_zero : ∀ {ts : List Thr} (ys : List Int), (∀ t ∈ ts, okT t = true) → ∀ s ∈ lons ts ys [], s.lo ≤ 0 ∧ 0 ≤ s.hi
  | [], _, _, s, hs => by cases hs
  | t :: ts, [], _, s, hs => by cases hs
  | t :: ts, y :: ys, h, s, hs => by
    rcases List.mem_cons.1 hs with rfl | hs
    · have h1 := lon_in (h t (List.mem_cons_self ..)) y
      unfold lonS
      simp only [List.head?_nil, Option.map_none, ratS]; omega
    · exact lons_zero ys (fun x hx => h x (List.mem_cons_of_mem _ hx)) s hs

theorem addL_zero : ∀ {a b : List Int}, (∀ x ∈ a, x = 0) → (∀ x ∈ b, x = 0) → ∀ x ∈ addL a b, x = 0
  | [], _, _, _, x, hx => by cases hx
  | _ :: _, [], _, _, x, hx => by cases hx
  | y :: a, z :: b, ha, hb, x, hx => by
    rcases List.mem_cons.1 hx with rfl | hx
    · have := ha y (List.mem_cons_self ..)
      have := hb z (List.mem_cons_self ..)
      omega
    · exact addL_zero (fun w hw => ha w (List.mem_cons_of_mem _ hw)) (fun w hw => hb w (List.mem_cons_of_mem _ hw)) x hx
theorem pairL_zero : ∀ {a b : List Int}, (∀ x ∈ a, x = 0) → (∀ x ∈ b, x = 0) → ∀ v ∈ pairL a b, v = (0, 0)
  | [], _, _, _, x, hx => by cases hx
  | _ :: _, [], _, _, x, hx => by cases hx
  | y :: a, z :: b, ha, hb, x, hx => by
    rcases List.mem_cons.1 hx with rfl | hx
    · have h1 := ha y (List.mem_cons_self ..)
      have h2 := hb z (List.mem_cons_self ..)
      rw [h1, h2]
    · exact pairL_zero (fun w hw => ha w (List.mem_cons_of_mem _ hw)) (fun w hw => hb w (List.mem_cons_of_mem _ hw)) x hx

/-- Without last thrusts and without a demand nothing is done. -/
theorem thA_zero {s : Shp} {ms : List Int} (h : AOk s ms []) : (∀ v ∈ thA (Ws s.ts ms) [] 0 0 0, v = (0, 0)) ∧ gvA s ms [] 0 0 0 = (0, 0, 0) := by
  obtain ⟨w1, w2, w3, w4, w5⟩ := wsa h
  have hd : Mod3 0 0 0 := by unfold Mod3; omega
  have hy := ysA_len h hd
  have o0 := OkL_lats w2 w3 0 []
  have o1 := OkL_lats w2 w3 1 []
  have o2 := OkL_lons w2 w3 (ys := ysA (Ws s.ts ms) [] 0 0) (by rw [hy.1, w1]) []
  have z0 := dv_zero o0 (lats_zero 0 w3)
  have z1 := dv_zero o1 (lats_zero 1 w3)
  have z2 := dv_zero o2 (lons_zero _ w3)
  have zy := addL_zero z1 z0
  refine ⟨pairL_zero z2 zy, ?_⟩
  rw [gvA_eq h hd, totC_zero (lats_zero 0 w3), totC_zero (lats_zero 1 w3), totC_zero (lons_zero _ w3)]

end Go.Proofs.Ytaekifnmofjhhaa.Vm
