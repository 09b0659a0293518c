/- The law AllocateRates comes to true. -/
import Derived.Test.YtcnjaffogkkpnaaAllocX
import Derived.Test.YtcnjaffogkkpnaaSectorX
import Derived.Test.YtcnjaffogkkpnaaRawRates
namespace Go.Proofs.Ytcnjaffogkkpnaa.Vm
set_option linter.unusedVariables false
set_option linter.unusedSimpArgs false

/-! ### Near the last force -/
/-- The number is within the rate of the last one, or at an end of the range. -/
def Nr (q : Int × Int) (rate l v : Int) : Prop := (v - l ≤ rate ∧ l - v ≤ rate) ∨ v = q.1 ∨ v = q.2
theorem nr_rated {q : Int × Int} {l rate v : Int} (hq : -5000 ≤ q.1 ∧ q.1 ≤ q.2 ∧ q.2 ≤ 5000) (hl : -5000 ≤ l ∧ l ≤ 5000) (hr : 0 ≤ rate ∧ rate ≤ 5000) (h1 : (ratedF q.1 q.2 l rate).1 ≤ v) (h2 : v ≤ (ratedF q.1 q.2 l rate).2) : Nr q rate l v := by
  have hb : badR q.1 q.2 l rate = false := badR_iff.2 (by omega)
  unfold ratedF at h1 h2
  rw [hb] at h1 h2
  simp only [Bool.false_eq_true, if_false] at h1 h2
  have ha : q.1 ≤ maxI (l - rate) q.1 ∧ l - rate ≤ maxI (l - rate) q.1 ∧ (maxI (l - rate) q.1 = q.1 ∨ maxI (l - rate) q.1 = l - rate) := by unfold maxI; split <;> omega
  have hc : minI (l + rate) q.2 ≤ q.2 ∧ minI (l + rate) q.2 ≤ l + rate ∧ (minI (l + rate) q.2 = q.2 ∨ minI (l + rate) q.2 = l + rate) := by unfold minI; split <;> omega
  generalize maxI (l - rate) q.1 = a at *
  generalize minI (l + rate) q.2 = b at *
  unfold Nr
  split at h1
  · rename_i hh
    rw [if_pos hh] at h2
    simp only at h1 h2
    omega
  · rename_i hh
    rw [if_neg hh] at h2
    split at h1
    · rename_i hk
      rw [if_pos hk] at h2
      simp only at h1 h2
      omega
    · rename_i hk
      rw [if_neg hk] at h2
      simp only at h1 h2
      omega

theorem nr_ok {q : Int × Int} {rate l v : Int} (h : Nr q rate l v) : ((ltB rate (v - l) || ltB rate (l - v)) && (v != q.1) && (v != q.2)) = false := by
  unfold Nr at h
  simp only [Bool.and_eq_false_iff, Bool.or_eq_false_iff, decide_eq_false_iff_not, bne_eq_false_iff_eq]
  omega

def RateY : List Thr → List (Int × Int) → List Int → Prop
  | [], [], [] => True
  | t :: ts, l :: ls, y :: ys => Nr (latF t) t.rt l.2 y ∧ RateY ts ls ys
  | _, _, _ => False
theorem rateY : ∀ {ts : List Thr} {ls : List (Int × Int)} {a b : List Int}, (∀ t ∈ ts, okT t = true) → ls.length = ts.length → SmL ls 5000 → InR (lats 1 ts ls) a → InR (lats 0 ts ls) b → RateY ts ls (addL a b)
  | [], [], [], [], _, _, _, _, _ => trivial
  | [], _ :: _, _, _, _, h, _, _, _ => by cases h
  | [], [], _ :: _, _, _, _, _, h, _ => h.elim
  | [], [], [], _ :: _, _, _, _, _, h => h.elim
  | t :: ts, [], _, _, _, h, _, _, _ => by cases h
  | t :: ts, _ :: _, [], _, _, _, _, h, _ => h.elim
  | t :: ts, _ :: _, _ :: _, [], _, _, _, _, h => h.elim
  | t :: ts, l :: ls, x :: a, z :: b, hv, hl, hs, ha, hb => by
    have ht := hv t (List.mem_cons_self ..)
    have hv1 := okT0_iff.1 (okT_iff.1 ht).1
    have hq := lat_in ht
    have hl1 := hs l (List.mem_cons_self ..)
    refine ⟨?_, rateY (fun x hx => hv x (List.mem_cons_of_mem _ hx)) (by simpa using hl) (fun x hx => hs x (List.mem_cons_of_mem _ hx)) ha.2 hb.2⟩
    have h1 := ha.1
    have h2 := hb.1
    unfold latS at h1 h2
    simp only [List.head?_cons, Option.map_some, ratS] at h1 h2
    by_cases h0 : t.st = 0
    · rw [if_neg (by omega)] at h1
      rw [if_pos h0] at h2
      simp only at h1 h2
      have : x + z = z := by omega
      rw [this]
      exact nr_rated (by omega) (by omega) (by omega) h2.1 h2.2
    · rw [if_pos (by omega)] at h1
      rw [if_neg h0] at h2
      simp only at h1 h2
      have : x + z = x := by omega
      rw [this]
      exact nr_rated (by omega) (by omega) (by omega) h1.1 h1.2

def RateX : List Thr → List (Int × Int) → List Int → List Int → Prop
  | [], [], [], [] => True
  | t :: ts, l :: ls, x :: xs, y :: ys => Nr (lonF t y) t.rt l.1 x ∧ RateX ts ls xs ys
  | _, _, _, _ => False
theorem rateX : ∀ {ts : List Thr} {ls : List (Int × Int)} {xs ys : List Int}, (∀ t ∈ ts, okT t = true) → ls.length = ts.length → SmL ls 5000 → ys.length = ts.length → InR (lons ts ys ls) xs → RateX ts ls xs ys
  | [], [], [], [], _, _, _, _, _ => trivial
  | [], _ :: _, _, _, _, h, _, _, _ => by cases h
  | [], [], _, _ :: _, _, _, _, h, _ => by cases h
  | [], [], _ :: _, [], _, _, _, _, h => h.elim
  | t :: ts, [], _, _, _, h, _, _, _ => by cases h
  | t :: ts, _ :: _, _, [], _, _, _, h, _ => by cases h
  | t :: ts, _ :: _, [], _ :: _, _, _, _, _, h => h.elim
  | t :: ts, l :: ls, x :: xs, y :: ys, hv, hl, hs, hy, h => by
    have ht := hv t (List.mem_cons_self ..)
    have hv1 := okT0_iff.1 (okT_iff.1 ht).1
    have hq := lon_in ht y
    have hl1 := hs l (List.mem_cons_self ..)
    refine ⟨?_, rateX (fun x hx => hv x (List.mem_cons_of_mem _ hx)) (by simpa using hl) (fun x hx => hs x (List.mem_cons_of_mem _ hx)) (by simpa using hy) h.2⟩
    have h1 := h.1
    unfold lonS at h1
    simp only [List.head?_cons, Option.map_some, ratS] at h1
    exact nr_rated (by omega) (by omega) (by omega) h1.1 h1.2

/-- What the first loop asks, thruster by thruster. -/
def RateR : List Thr → List Int → List (Int × Int) → List (Int × Int) → Prop
  | [], [], [], [] => True
  | t :: ts, m :: ms, l :: ls, v :: vs => (Nr (latF (withT t m)) (withT t m).rt l.2 v.2 ∧ Nr (lonF (withT t m) v.2) (withT t m).rt l.1 v.1) ∧ RateR ts ms ls vs
  | _, _, _, _ => False
theorem RateR_of : ∀ {ts : List Thr} {ms : List Int} {ls : List (Int × Int)} {xs ys : List Int}, ms.length = ts.length → RateY (Ws ts ms) ls ys → RateX (Ws ts ms) ls xs ys → RateR ts ms ls (pairL xs ys)
  | [], [], [], [], [], _, _, _ => trivial
  | [], _ :: _, _, _, _, h, _, _ => by cases h
  | [], [], _ :: _, _, _, _, h, _ => absurd h (by intro h; cases h)
  | [], [], [], _, _ :: _, _, h, _ => absurd h (by intro h; cases h)
  | [], [], [], _ :: _, [], _, _, h => absurd h (by intro h; cases h)
  | t :: ts, [], _, _, _, h, _, _ => by cases h
  | t :: ts, _ :: _, [], _, _, _, h, _ => absurd h (by intro h; cases h)
  | t :: ts, _ :: _, _ :: _, _, [], _, h, _ => absurd h (by intro h; cases h)
  | t :: ts, _ :: _, _ :: _, [], _ :: _, _, _, h => absurd h (by intro h; cases h)
  | t :: ts, m :: ms, l :: ls, x :: xs, y :: ys, hl, h1, h2 => ⟨⟨h1.1, h2.1⟩, RateR_of (by simpa using hl) h1.2 h2.2⟩

theorem c_RWith (t : Thr) (m : Int) : denC E 15 [AV.agg (thC t), AV.int .i64 m] [] = some ([RV.agg (thC (withT t m))], []) := by
  unfold thC
  rw [denC_eq, r15]
  rfl
theorem c_RlatF {t : Thr} (h : t.fb.length ≤ maxLen) : denC E 16 [AV.agg (thC t)] [] = some ([RV.p (PV.int .i64 (latF t).1), RV.p (PV.int .i64 (latF t).2)], []) := by
  obtain ⟨a, b, h1, h2⟩ := c_RLateral h
  obtain ⟨e1, e2⟩ := IsLat_uniq h2 (latF_is t)
  rw [h1, e1, e2]
theorem c_RlonF {t : Thr} (h : t.fb.length ≤ maxLen) (y : Int) : denC E 17 [AV.agg (thC t), AV.int .i64 y] [] = some ([RV.p (PV.int .i64 (lonF t y).1), RV.p (PV.int .i64 (lonF t y).2)], []) := by
  obtain ⟨a, b, h1, h2⟩ := c_RLongitudinal h y
  obtain ⟨e1, e2⟩ := IsLon_uniq h2 (lonF_is t y)
  rw [h1, e1, e2]

theorem ra_main (s : Shp) (d0 d1 d2 : Int) : ∀ (ts q : List Thr) (ms pm : List Int) (ls pl vs pv : List (Int × Int)), s.ts = q ++ ts → RateR ts ms ls vs → (∀ t ∈ ts, okT t = true) → SmL ls 5000 → SmL vs 5000 → pm.length = q.length → pl.length = q.length → pv.length = q.length → (pv ++ vs).length ≤ 8 →
    lp E (denC E) 5 0 [] 0 { vals := [AV.sl 1 (intsK .i64 (pm ++ ms)), AV.sl 2 (arcK (pl ++ ls)), AV.sl 2 (arcK (pv ++ vs)), AV.int .i64 ((pv ++ vs).length : Int), AV.int .i64 (q.length : Int)], blks := [Blk.box [AV.int .i64 s.bw, AV.int .i64 s.sn, AV.sl 6 (thK s.ts)], Blk.box [AV.int .i64 d0, AV.int .i64 d1, AV.int .i64 d2]] } =
      some (Ex.exit 0, { vals := [AV.sl 1 (intsK .i64 (pm ++ ms)), AV.sl 2 (arcK (pl ++ ls))], blks := [Blk.box [AV.int .i64 s.bw, AV.int .i64 s.sn, AV.sl 6 (thK s.ts)], Blk.box [AV.int .i64 d0, AV.int .i64 d1, AV.int .i64 d2]] })
  | [], q, [], pm, [], pl, [], pv, hq, hr, hv, hls, hvs, hp, hl, hpv, h => by
    rw [r5_0, ctl_dec, if_neg (by simp; omega)]
  | [], q, _ :: _, _, _, _, _, _, _, hr, _, _, _, _, _, _, _ => absurd hr (by intro h; cases h)
  | [], q, [], _, _ :: _, _, _, _, _, hr, _, _, _, _, _, _, _ => absurd hr (by intro h; cases h)
  | [], q, [], _, [], _, _ :: _, _, _, hr, _, _, _, _, _, _, _ => absurd hr (by intro h; cases h)
  | t :: ts, q, [], _, _, _, _, _, _, hr, _, _, _, _, _, _, _ => absurd hr (by intro h; cases h)
  | t :: ts, q, _ :: _, _, [], _, _, _, _, hr, _, _, _, _, _, _, _ => absurd hr (by intro h; cases h)
  | t :: ts, q, _ :: _, _, _ :: _, _, [], _, _, hr, _, _, _, _, _, _, _ => absurd hr (by intro h; cases h)
  | t :: ts, q, m :: ms, pm, l :: ls, pl, v :: vs, pv, hq, hr, hv, hls, hvs, hp, hl, hpv, h => by
    have ih := ra_main s d0 d1 d2 ts (q ++ [t]) ms (pm ++ [m]) ls (pl ++ [l]) vs (pv ++ [v]) (by rw [hq]; simp) hr.2 (fun x hx => hv x (List.mem_cons_of_mem _ hx)) (fun x hx => hls x (List.mem_cons_of_mem _ hx)) (fun x hx => hvs x (List.mem_cons_of_mem _ hx)) (by simp [hp]) (by simp [hl]) (by simp [hpv]) (by simp at h ⊢; omega)
    simp only [List.append_assoc, List.cons_append, List.nil_append, List.length_append, List.length_cons, List.length_nil] at ih h
    have gm : ∀ {α : Type} (K : List PV → Option α), getE (intsK .i64 (pm ++ m :: ms)) (q.length : Int) K = K [PV.int .i64 m] := fun K => by rw [← hp]; exact getE_int1 pm m ms K
    have gl : ∀ {α : Type} (K : List PV → Option α), getE (arcK (pl ++ l :: ls)) (q.length : Int) K = K (arcC l) := fun K => by rw [← hl]; exact getE_arc pl l ls K
    have gv : ∀ {α : Type} (K : List PV → Option α), getE (arcK (pv ++ v :: vs)) (q.length : Int) K = K (arcC v) := fun K => by rw [← hpv]; exact getE_arc pv v vs K
    have gt : ∀ {α : Type} (K : List PV → Option α), getE (thK s.ts) (q.length : Int) K = K (thC t) := fun K => by rw [hq]; exact getE_th q t ts K
    have ht := hv t (List.mem_cons_self ..)
    have ht0 := okT0_iff.1 (okT_iff.1 ht).1
    have hfb : (withT t m).fb.length ≤ maxLen := by
      have : (withT t m).fb = t.fb := rfl
      rw [this]
      exact Nat.le_trans ht0.2.2.2.2.2.2.2.2.2.2 (by decide)
    have w1 := c_RWith t m
    have w2 := c_RlatF hfb
    have w3 := c_RlonF hfb v.2
    have l1 := hls l (List.mem_cons_self ..)
    have v1 := hvs v (List.mem_cons_self ..)
    have n1 := nr_ok hr.1.1
    have n2 := nr_ok hr.1.2
    unfold thC at w1 w2 w3
    rw [r5_0, ctl_dec, if_pos (by simp; omega)]
    simp only [gv, gt, gm, gl]
    unfold thC
    simp only [arcC, bnd_some, ctl_true, ctl_false, ctl_and, ctl_or', ctl_or2, x_toPV, x_toCs, x_toCs2, x_toEs, x_bEs, x_bCs, x_aPV, x_aCs, x_int, x_bool, x_str, x_es, x_esn, nth_0, nth_1, nth_2, nth_3, nth_4, nth_5, nth_6, nth_7, nth_8, nth_9, y_nil, y_int, y_bool, y_str, y_sl, y_nils, y_agg, y_ownp, y_own, z_nil, z_int, z_bool, z_str, z_sl, z_nils, b_nil, b_arr, b_box1, b_box2, b_box3, b_box4, List.map_cons, List.map_nil, Bool.and_self, Bool.and_true, Bool.true_and, Bool.not_true, Bool.not_false, Bool.or_false, Bool.false_or, cond_true, cond_false, okPack, okPut, okPutBlks, okPutCells, q_isP, q_isAg, q_isBox, q_isArr, q_int, q_bool, q_str, q_sl, q_nils, e_exit, e_ret, e_nrm, e_ret_exit, e_exit_ret, e_nrm_exit, e_nrm_ret, e_exit_nrm, e_ret_nrm, Nat.zero_add, Nat.reduceAdd, noslR, noslP, noslB, noslA, List.all_cons, List.all_nil, List.length_append, List.length_cons]
    rw [w1]
    simp only [bnd_some, ctl_true, ctl_false, ctl_and, ctl_or', ctl_or2, x_toPV, x_toCs, x_toCs2, x_toEs, x_bEs, x_bCs, x_aPV, x_aCs, x_int, x_bool, x_str, x_es, x_esn, nth_0, nth_1, nth_2, nth_3, nth_4, nth_5, nth_6, nth_7, nth_8, nth_9, y_nil, y_int, y_bool, y_str, y_sl, y_nils, y_agg, y_ownp, y_own, z_nil, z_int, z_bool, z_str, z_sl, z_nils, b_nil, b_arr, b_box1, b_box2, b_box3, b_box4, List.map_cons, List.map_nil, Bool.and_self, Bool.and_true, Bool.true_and, Bool.not_true, Bool.not_false, Bool.or_false, Bool.false_or, cond_true, cond_false, okPack, okPut, okPutBlks, okPutCells, q_isP, q_isAg, q_isBox, q_isArr, q_int, q_bool, q_str, q_sl, q_nils, e_exit, e_ret, e_nrm, e_ret_exit, e_exit_ret, e_nrm_exit, e_nrm_ret, e_exit_nrm, e_ret_nrm, Nat.zero_add, Nat.reduceAdd, noslR, noslP, noslB, noslA, List.all_cons, List.all_nil]
    rw [w2]
    simp only [bnd_some, ctl_true, ctl_false, ctl_and, ctl_or', ctl_or2, x_toPV, x_toCs, x_toCs2, x_toEs, x_bEs, x_bCs, x_aPV, x_aCs, x_int, x_bool, x_str, x_es, x_esn, nth_0, nth_1, nth_2, nth_3, nth_4, nth_5, nth_6, nth_7, nth_8, nth_9, y_nil, y_int, y_bool, y_str, y_sl, y_nils, y_agg, y_ownp, y_own, z_nil, z_int, z_bool, z_str, z_sl, z_nils, b_nil, b_arr, b_box1, b_box2, b_box3, b_box4, List.map_cons, List.map_nil, Bool.and_self, Bool.and_true, Bool.true_and, Bool.not_true, Bool.not_false, Bool.or_false, Bool.false_or, cond_true, cond_false, okPack, okPut, okPutBlks, okPutCells, q_isP, q_isAg, q_isBox, q_isArr, q_int, q_bool, q_str, q_sl, q_nils, e_exit, e_ret, e_nrm, e_ret_exit, e_exit_ret, e_nrm_exit, e_nrm_ret, e_exit_nrm, e_ret_nrm, Nat.zero_add, Nat.reduceAdd, noslR, noslP, noslB, noslA, List.all_cons, List.all_nil]
    rw [w64 (n := v.2 - l.2) (by omega), w64 (n := l.2 - v.2) (by omega), w64 (n := v.1 - l.1) (by omega), w64 (n := l.1 - v.1) (by omega)]
    simp only [n1, n2, bnd_some, ctl_true, ctl_false, ctl_and, ctl_or', ctl_or2, x_toPV, x_toCs, x_toCs2, x_toEs, x_bEs, x_bCs, x_aPV, x_aCs, x_int, x_bool, x_str, x_es, x_esn, nth_0, nth_1, nth_2, nth_3, nth_4, nth_5, nth_6, nth_7, nth_8, nth_9, y_nil, y_int, y_bool, y_str, y_sl, y_nils, y_agg, y_ownp, y_own, z_nil, z_int, z_bool, z_str, z_sl, z_nils, b_nil, b_arr, b_box1, b_box2, b_box3, b_box4, List.map_cons, List.map_nil, Bool.and_self, Bool.and_true, Bool.true_and, Bool.not_true, Bool.not_false, Bool.or_false, Bool.false_or, cond_true, cond_false, okPack, okPut, okPutBlks, okPutCells, q_isP, q_isAg, q_isBox, q_isArr, q_int, q_bool, q_str, q_sl, q_nils, e_exit, e_ret, e_nrm, e_ret_exit, e_exit_ret, e_nrm_exit, e_nrm_ret, e_exit_nrm, e_ret_nrm, Nat.zero_add, Nat.reduceAdd, noslR, noslP, noslB, noslA, List.all_cons, List.all_nil]
    rw [w3]
    simp only [bnd_some, ctl_true, ctl_false, ctl_and, ctl_or', ctl_or2, x_toPV, x_toCs, x_toCs2, x_toEs, x_bEs, x_bCs, x_aPV, x_aCs, x_int, x_bool, x_str, x_es, x_esn, nth_0, nth_1, nth_2, nth_3, nth_4, nth_5, nth_6, nth_7, nth_8, nth_9, y_nil, y_int, y_bool, y_str, y_sl, y_nils, y_agg, y_ownp, y_own, z_nil, z_int, z_bool, z_str, z_sl, z_nils, b_nil, b_arr, b_box1, b_box2, b_box3, b_box4, List.map_cons, List.map_nil, Bool.and_self, Bool.and_true, Bool.true_and, Bool.not_true, Bool.not_false, Bool.or_false, Bool.false_or, cond_true, cond_false, okPack, okPut, okPutBlks, okPutCells, q_isP, q_isAg, q_isBox, q_isArr, q_int, q_bool, q_str, q_sl, q_nils, e_exit, e_ret, e_nrm, e_ret_exit, e_exit_ret, e_nrm_exit, e_nrm_ret, e_exit_nrm, e_ret_nrm, Nat.zero_add, Nat.reduceAdd, noslR, noslP, noslB, noslA, List.all_cons, List.all_nil, n2]
    rw [w64 (n := (q.length : Int) + 1) (by omega)]
    have e1 : ((q.length : Int) + 1) = ((q.length + (0 + 1) : Nat) : Int) := by omega
    rw [e1]
    exact ih

/-! ### Rates do not matter without last thrusts -/
def fastT (t : Thr) : Thr := { t with rt := 5000 }
theorem fast_ok {t : Thr} (h : okT t = true) : okT (fastT t) = true := by
  have h0 := okT0_iff.1 (okT_iff.1 h).1
  exact okT_iff.2 ⟨okT0_iff.2 (by unfold fastT; simp only; omega), (okT_iff.1 h).2⟩
theorem fast_lat {t : Thr} (h : okT t = true) : latF (fastT t) = latF t := by
  have a := latF_is (fastT t)
  have b := latF_is t
  unfold IsLat at a b
  rw [if_pos (fast_ok h)] at a
  rw [if_pos h] at b
  obtain ⟨e1, e2⟩ := IsRun_uniq (show IsRun (fun y => alw t 0 y) _ _ from a) b
  exact Prod.ext e1 e2
theorem fast_lon {t : Thr} (h : okT t = true) (y : Int) : lonF (fastT t) y = lonF t y := by
  have a := lonF_is (fastT t) y
  have b := lonF_is t y
  unfold IsLon at a b
  have ea : alw (fastT t) 0 y = alw t 0 y := rfl
  rw [ea] at a
  by_cases hc : alw t 0 y = true
  · rw [if_pos ⟨fast_ok h, hc⟩] at a
    rw [if_pos ⟨h, hc⟩] at b
    obtain ⟨e1, e2⟩ := IsRun_uniq (show IsRun (fun x => alw t x y) _ _ from a) b
    exact Prod.ext e1 e2
  · rw [if_neg (fun hh => hc hh.2)] at a b
    exact Prod.ext (by omega) (by omega)
theorem Ws_fast : ∀ (ts : List Thr) (ms : List Int), Ws (ts.map fastT) ms = (Ws ts ms).map fastT
  | [], _ => rfl
  | t :: ts, [] => rfl
  | t :: ts, m :: ms => by
    simp only [List.map_cons, Ws, Ws_fast ts ms]
    rfl
theorem lats_fast (k : Int) : ∀ {ts : List Thr}, (∀ t ∈ ts, okT t = true) → lats k (ts.map fastT) [] = lats k ts []
  | [], _ => rfl
  | t :: ts, h => by
    have ih := lats_fast k (ts := ts) fun x hx => h x (List.mem_cons_of_mem _ hx)
    have e := fast_lat (h t (List.mem_cons_self ..))
    simp only [List.map_cons, lats, List.tail_nil, ih, latS, List.head?_nil, Option.map_none, ratS, e]
    rfl
theorem lons_fast : ∀ {ts : List Thr} (ys : List Int), (∀ t ∈ ts, okT t = true) → lons (ts.map fastT) ys [] = lons ts ys []
  | [], ys, _ => rfl
  | t :: ts, [], _ => rfl
  | t :: ts, y :: ys, h => by
    have ih := lons_fast (ts := ts) ys fun x hx => h x (List.mem_cons_of_mem _ hx)
    have e := fast_lon (h t (List.mem_cons_self ..)) y
    simp only [List.map_cons, lons, List.tail_nil, ih, lonS, List.head?_nil, Option.map_none, ratS, e]
    rfl
theorem rated_fast {q : Int × Int} {l : Int} (hq : -40 ≤ q.1 ∧ q.1 ≤ q.2 ∧ q.2 ≤ 40) (hl : -20 ≤ l ∧ l ≤ 20) : ratedF q.1 q.2 l 5000 = q := by
  have hb : badR q.1 q.2 l 5000 = false := badR_iff.2 (by omega)
  unfold ratedF
  rw [hb]
  simp only [Bool.false_eq_true, if_false]
  have ha : maxI (l - 5000) q.1 = q.1 := by unfold maxI; split <;> omega
  have hc : minI (l + 5000) q.2 = q.2 := by unfold minI; split <;> omega
  rw [ha, hc, if_pos hq.2.1]
theorem lats_free (k : Int) : ∀ {ts : List Thr} {ls : List (Int × Int)}, (∀ t ∈ ts, okT t = true ∧ t.mx ≤ 40 ∧ t.rt = 5000) → ls.length = ts.length → SmL ls 20 → lats k ts ls = lats k ts []
  | [], ls, _, _, _ => rfl
  | t :: ts, [], _, h, _ => by cases h
  | t :: ts, l :: ls, h, hl, hs => by
    have ih := lats_free k (ts := ts) (ls := ls) (fun x hx => h x (List.mem_cons_of_mem _ hx)) (by simpa using hl) (fun x hx => hs x (List.mem_cons_of_mem _ hx))
    obtain ⟨h1, h2, h3⟩ := h t (List.mem_cons_self ..)
    have hq := lat_in h1
    have hl1 := hs l (List.mem_cons_self ..)
    have e := rated_fast (q := latF t) (l := l.2) (by omega) (by omega)
    simp only [lats, List.tail_cons, List.tail_nil, ih, latS, List.head?_cons, List.head?_nil, Option.map_some, Option.map_none, ratS, h3, e]
theorem lons_free : ∀ {ts : List Thr} {ls : List (Int × Int)} (ys : List Int), (∀ t ∈ ts, okT t = true ∧ t.mx ≤ 40 ∧ t.rt = 5000) → ls.length = ts.length → SmL ls 20 → lons ts ys ls = lons ts ys []
  | [], ls, _, _, _, _ => rfl
  | t :: ts, [], _, _, h, _ => by cases h
  | t :: ts, l :: ls, [], h, hl, hs => rfl
  | t :: ts, l :: ls, y :: ys, h, hl, hs => by
    have ih := lons_free (ts := ts) (ls := ls) ys (fun x hx => h x (List.mem_cons_of_mem _ hx)) (by simpa using hl) (fun x hx => hs x (List.mem_cons_of_mem _ hx))
    obtain ⟨h1, h2, h3⟩ := h t (List.mem_cons_self ..)
    have hq := lon_in h1 y
    have hl1 := hs l (List.mem_cons_self ..)
    have e := rated_fast (q := lonF t y) (l := l.1) (by omega) (by omega)
    simp only [lons, List.tail_cons, List.tail_nil, ih, lonS, List.head?_cons, List.head?_nil, Option.map_some, Option.map_none, ratS, h3, e]

theorem thA_fast {W : List Thr} (h : ∀ t ∈ W, okT t = true) (d0 d1 d2 : Int) : thA (W.map fastT) [] d0 d1 d2 = thA W [] d0 d1 d2 := by
  have e : ysA (W.map fastT) [] d1 d2 = ysA W [] d1 d2 := by unfold ysA; rw [lats_fast 0 h, lats_fast 1 h]
  have e2 : xsA (W.map fastT) [] d0 d1 d2 = xsA W [] d0 d1 d2 := by unfold xsA; rw [e, lons_fast _ h]
  unfold thA
  rw [e, e2]
theorem thA_free {W : List Thr} {ls : List (Int × Int)} (h : ∀ t ∈ W, okT t = true ∧ t.mx ≤ 40 ∧ t.rt = 5000) (hl : ls.length = W.length) (hs : SmL ls 20) (d0 d1 d2 : Int) : thA W ls d0 d1 d2 = thA W [] d0 d1 d2 := by
  have e : ysA W ls d1 d2 = ysA W [] d1 d2 := by unfold ysA; rw [lats_free 0 h hl hs, lats_free 1 h hl hs]
  have e2 : xsA W ls d0 d1 d2 = xsA W [] d0 d1 d2 := by unfold xsA; rw [e, lons_free _ h hl hs]
  unfold thA
  rw [e, e2]
theorem tot_fast : ∀ (ts : List Thr) (l : List (Int × Int)) (a b c : Int), tot (ts.map fastT) l a b c = tot ts l a b c
  | [], l, a, b, c => by cases l <;> rfl
  | t :: ts, [], a, b, c => rfl
  | t :: ts, v :: l, a, b, c => by
    simp only [List.map_cons, tot, tot_fast ts l]
    rfl

theorem setEs_fast (dn : List Thr) (t : Thr) (rs : List Thr) : setEs (thK (dn ++ t :: rs)) dn.length 3 [PV.int .i64 5000] = thK (dn ++ fastT t :: rs) := by
  unfold setEs
  rw [upd_eq, nth_eq]
  simp [thK, thC, List.getD, lay, lay.go, fastT]

theorem fa_loop (s : Shp) (d0 d1 d2 : Int) (M L0 : List (List PV)) : ∀ (rs dn : List Thr), (dn ++ rs).length ≤ 8 →
    lp E (denC E) 5 0 [] 2 { vals := [AV.sl 1 M, AV.sl 2 L0, AV.int .i64 ((dn ++ rs).length : Int), AV.int .i64 (dn.length : Int)], blks := [Blk.box [AV.int .i64 s.bw, AV.int .i64 s.sn, AV.sl 6 (thK s.ts)], Blk.box [AV.int .i64 d0, AV.int .i64 d1, AV.int .i64 d2], Blk.box [AV.int .i64 s.bw, AV.int .i64 s.sn, AV.t (TV.hsl 3)], Blk.arr 6 (thK (dn ++ rs))] } =
      some (Ex.exit 2, { vals := [AV.sl 1 M, AV.sl 2 L0], blks := [Blk.box [AV.int .i64 s.bw, AV.int .i64 s.sn, AV.sl 6 (thK s.ts)], Blk.box [AV.int .i64 d0, AV.int .i64 d1, AV.int .i64 d2], Blk.box [AV.int .i64 s.bw, AV.int .i64 s.sn, AV.t (TV.hsl 3)], Blk.arr 6 (thK (dn ++ rs.map fastT))] })
  | [], dn, h => by
    rw [r5_2, ctl_dec, if_neg (by simp)]
    rfl
  | t :: rs, dn, h => by
    have ih := fa_loop s d0 d1 d2 M L0 rs (dn ++ [fastT t]) (by simp at h ⊢; omega)
    simp only [List.append_assoc, List.cons_append, List.nil_append, List.length_append, List.length_cons, List.length_nil] at ih h
    have i0 : leB 0 (dn.length : Int) = true := by simp
    have i1 : ltB (dn.length : Int) ((thK (dn ++ t :: rs)).length : Int) = true := by rw [thK_length]; simp; omega
    rw [r5_2, ctl_dec, if_pos (by simp; omega)]
    simp only [bnd_some, ctl_true, ctl_false, ctl_and, ctl_or', ctl_or2, x_toPV, x_toCs, x_toCs2, x_toEs, x_bEs, x_bCs, x_aPV, x_aCs, x_int, x_bool, x_str, x_es, x_esn, nth_0, nth_1, nth_2, nth_3, nth_4, nth_5, nth_6, nth_7, nth_8, nth_9, y_nil, y_int, y_bool, y_str, y_sl, y_nils, y_agg, y_ownp, y_own, z_nil, z_int, z_bool, z_str, z_sl, z_nils, b_nil, b_arr, b_box1, b_box2, b_box3, b_box4, List.map_cons, List.map_nil, Bool.and_self, Bool.and_true, Bool.true_and, Bool.not_true, Bool.not_false, Bool.or_false, Bool.false_or, cond_true, cond_false, okPack, okPut, okPutBlks, okPutCells, q_isP, q_isAg, q_isBox, q_isArr, q_int, q_bool, q_str, q_sl, q_nils, e_exit, e_ret, e_nrm, e_ret_exit, e_exit_ret, e_nrm_exit, e_nrm_ret, e_exit_nrm, e_ret_nrm, Nat.zero_add, Nat.reduceAdd, noslR, noslP, noslB, noslA, List.all_cons, List.all_nil, i0, i1]
    rw [w64 (n := (dn.length : Int) + 1) (by omega), Int.toNat_natCast, setEs_fast]
    have e1 : ((dn.length : Int) + 1) = ((dn.length + (0 + 1) : Nat) : Int) := by omega
    simp only [List.length_append, List.length_cons]
    rw [e1, ih]

theorem c_Same {l : List (Int × Int)} (h : l.length ≤ 100) (a1 a2 a3 a4 a5 a6 : Int) : denC E 18 [AV.agg [PV.sl 2 (arcK l), PV.int .i64 a1, PV.int .i64 a2, PV.int .i64 a3, PV.int .i64 a4, PV.int .i64 a5, PV.int .i64 a6], AV.agg [PV.sl 2 (arcK l), PV.int .i64 a1, PV.int .i64 a2, PV.int .i64 a3, PV.int .i64 a4, PV.int .i64 a5, PV.int .i64 a6]] [] = some ([RV.p (PV.bool true)], []) := by
  rw [denC_eq, r18, c_TEq h]
  simp only [bnd_some, ctl_true, ctl_false, ctl_and, ctl_or', ctl_or2, x_toPV, x_toCs, x_toCs2, x_toEs, x_bEs, x_bCs, x_aPV, x_aCs, x_int, x_bool, x_str, x_es, x_esn, nth_0, nth_1, nth_2, nth_3, nth_4, nth_5, nth_6, nth_7, nth_8, nth_9, y_nil, y_int, y_bool, y_str, y_sl, y_nils, y_agg, y_ownp, y_own, z_nil, z_int, z_bool, z_str, z_sl, z_nils, b_nil, b_arr, b_box1, b_box2, b_box3, b_box4, List.map_cons, List.map_nil, Bool.and_self, Bool.and_true, Bool.true_and, Bool.not_true, Bool.not_false, Bool.or_false, Bool.false_or, cond_true, cond_false, okPack, okPut, okPutBlks, okPutCells, q_isP, q_isAg, q_isBox, q_isArr, q_int, q_bool, q_str, q_sl, q_nils, e_exit, e_ret, e_nrm, e_ret_exit, e_exit_ret, e_nrm_exit, e_nrm_ret, e_exit_nrm, e_ret_nrm, Nat.zero_add, Nat.reduceAdd, noslR, noslP, noslB, noslA, List.all_cons, List.all_nil, beq_self_eq_true]

theorem d_AllocateRates (t : List Int) (_ : t.length ≤ maxLen) (_ : ∀ n ∈ t, -9223372036854775808 ≤ n ∧ n ≤ 9223372036854775807) :
    denC E 5 [AV.sl 1 (intsK .i64 t)] [] = some ([RV.p (PV.bool true)], []) := by
  rw [denC_eq, r5, c_New]
  have hL : (t.take 600).length ≤ 600 := by simp; omega
  generalize t.take 600 = L at hL
  have h0 : (0 : Nat) ≤ 600 := by omega
  simp only [bnd_some, ctl_true, ctl_false, ctl_and, ctl_or', ctl_or2, x_toPV, x_toCs, x_toCs2, x_toEs, x_bEs, x_bCs, x_aPV, x_aCs, x_int, x_bool, x_str, x_es, x_esn, nth_0, nth_1, nth_2, nth_3, nth_4, nth_5, nth_6, nth_7, nth_8, nth_9, y_nil, y_int, y_bool, y_str, y_sl, y_nils, y_agg, y_ownp, y_own, z_nil, z_int, z_bool, z_str, z_sl, z_nils, b_nil, b_arr, b_box1, b_box2, b_box3, b_box4, List.map_cons, List.map_nil, Bool.and_self, Bool.and_true, Bool.true_and, Bool.not_true, Bool.not_false, Bool.or_false, Bool.false_or, cond_true, cond_false, okPack, okPut, okPutBlks, okPutCells, q_isP, q_isAg, q_isBox, q_isArr, q_int, q_bool, q_str, q_sl, q_nils, e_exit, e_ret, e_nrm, e_ret_exit, e_exit_ret, e_nrm_exit, e_nrm_ret, e_exit_nrm, e_ret_nrm, Nat.zero_add, Nat.reduceAdd, noslR, noslP, noslB, noslA, List.all_cons, List.all_nil]
  obtain ⟨s, ms, ls0, d0, d1, d2, k, hW, hs, hA0, _, x0, x1, x2, hk⟩ := c_world hL h0
  have hl5 := hs.2.2.2.2.1
  obtain ⟨ls, k2, hT, l1, l2, hk2⟩ := c_Thrusts hL hk s (by omega)
  have hA : AOk s ms ls := ⟨hA0.ok, hA0.ml, hA0.mi, .inr l1, fun v hv => by have := l2 v hv; omega⟩
  have hAn : AOk s ms [] := ⟨hA0.ok, hA0.ml, hA0.mi, .inl rfl, fun v hv => by cases hv⟩
  have hd : Mod3 d0 d1 d2 := by unfold Mod3; omega
  have hok : ∀ t ∈ s.ts, okT t = true := fun t ht => (hA.ok.2.2.2.2.2.2 t ht).1
  -- the fast ship
  have hF : OkShp { s with ts := s.ts.map fastT } := by
    obtain ⟨g1, g2, g3, g4, g5, g6, g7⟩ := hA.ok
    refine ⟨by simpa using g1, g2, g3, g4, g5, g6, fun t ht => ?_⟩
    obtain ⟨u, hu, rfl⟩ := List.mem_map.1 ht
    exact ⟨fast_ok (g7 u hu).1, (g7 u hu).2⟩
  have hFn : AOk { s with ts := s.ts.map fastT } ms [] := ⟨hF, by simpa using hA0.ml, hA0.mi, .inl rfl, fun v hv => by cases hv⟩
  have hFl : AOk { s with ts := s.ts.map fastT } ms ls := ⟨hF, by simpa using hA0.ml, hA0.mi, .inr (by simpa using l1), hA.li⟩
  obtain ⟨w1, w2, w3, w4, w5⟩ := wsa hA
  have hwf : ∀ w ∈ (Ws s.ts ms).map fastT, okT w = true ∧ w.mx ≤ 40 ∧ w.rt = 5000 := fun w hw => by
    obtain ⟨u, hu, rfl⟩ := List.mem_map.1 hw
    refine ⟨fast_ok (w3 u hu), ?_, rfl⟩
    have hu40 : ∀ {ts : List Thr} {ms : List Int}, (∀ t ∈ ts, 0 ≤ t.mx ∧ t.mx ≤ 40) → ∀ u ∈ Ws ts ms, u.mx ≤ 40 := by
      intro ts
      induction ts with
      | nil => intro ms _ u hu; cases hu
      | cons t ts ih =>
        intro ms h u hu
        cases ms with
        | nil => cases hu
        | cons m ms =>
          rcases List.mem_cons.1 hu with rfl | hu
          · have := h t (List.mem_cons_self ..)
            have := withT_mx (t := t) this.1 m
            omega
          · exact ih (fun x hx => h x (List.mem_cons_of_mem _ hx)) u hu
    exact hu40 (fun t ht => by have := hs.2.2.2.2.2 t ht; exact ⟨this.2.2.2.2.1, this.2.2.2.2.2.1⟩) u hu
  have tF : thA (Ws (s.ts.map fastT) ms) [] d0 d1 d2 = thA (Ws s.ts ms) [] d0 d1 d2 := by rw [Ws_fast]; exact thA_fast w3 d0 d1 d2
  have tL : thA (Ws (s.ts.map fastT) ms) ls d0 d1 d2 = thA (Ws s.ts ms) [] d0 d1 d2 := by
    rw [Ws_fast, thA_free hwf (by rw [List.length_map, w1]; exact l1) l2 d0 d1 d2]
    exact thA_fast w3 d0 d1 d2
  have gF : gvA { s with ts := s.ts.map fastT } ms [] d0 d1 d2 = gvA s ms [] d0 d1 d2 := by
    unfold gvA
    simp only
    rw [tF, tot_fast]
  have gL : gvA { s with ts := s.ts.map fastT } ms ls d0 d1 d2 = gvA s ms [] d0 d1 d2 := by
    unfold gvA
    simp only
    rw [tL, tot_fast]
  have D1 := c_ADivide hA hd
  have D2 := c_ADivide hAn hd
  have D3 := c_ADivide hFn hd
  have D4 := c_ADivide hFl hd
  simp only at D3 D4
  rw [tF, gF] at D3
  rw [tL, gL] at D4
  have hth := thA_len hA hd
  have hthn := thA_len hAn hd
  have o0 := OkL_lats w2 w3 0 ls
  have o1 := OkL_lats w2 w3 1 ls
  have hy := ysA_len hA hd
  have o2 := OkL_lons w2 w3 (ys := ysA (Ws s.ts ms) ls d1 d2) (by rw [hy.1, w1]) ls
  have rY : RateY (Ws s.ts ms) ls (ysA (Ws s.ts ms) ls d1 d2) := rateY w3 (by rw [w1]; exact l1) hA.li (dv_in o1 hd.2.2) (dv_in o0 hd.2.1)
  have rX : RateX (Ws s.ts ms) ls (xsA (Ws s.ts ms) ls d0 d1 d2) (ysA (Ws s.ts ms) ls d1 d2) := rateX w3 (by rw [w1]; exact l1) hA.li (by rw [hy.1, w1]) (dv_in o2 hd.1)
  have rR : RateR s.ts ms ls (thA (Ws s.ts ms) ls d0 d1 d2) := RateR_of hA.ml rY rX
  have hm := ra_main s d0 d1 d2 s.ts [] ms [] ls [] (thA (Ws s.ts ms) ls d0 d1 d2) [] rfl rR hok hA.li hth.2 rfl rfl rfl (by simpa [hth.1] using hA.ok.1)
  have hf := fa_loop s d0 d1 d2 (intsK .i64 ms) (arcK ls) s.ts [] (by simpa using hA.ok.1)
  simp only [List.nil_append, List.length_nil] at hm hf
  have e0 : (((0 : Nat)) : Int) = 0 := rfl
  have ea : arcK [] = [] := rfl
  rw [e0] at hm hf
  rw [ea] at D2 D3
  have hS := fun a1 a2 a3 a4 a5 a6 => c_Same (l := thA (Ws s.ts ms) [] d0 d1 d2) (by rw [hthn.1]; omega) a1 a2 a3 a4 a5 a6
  have n0 : ((0 : Int) != 0) = false := rfl
  have n1 : (((thA (Ws s.ts ms) ls d0 d1 d2).length : Int) != (s.ts.length : Int)) = false := by rw [hth.1]; simp
  have n2 : leN (s.ts.length * 64) 140737488355328 = true := by simp only [decide_eq_true_eq]; omega
  unfold shpC at *
  simp only at D3 D4
  rw [src_zero, hW]
  simp only [bnd_some, ctl_true, ctl_false, ctl_and, ctl_or', ctl_or2, x_toPV, x_toCs, x_toCs2, x_toEs, x_bEs, x_bCs, x_aPV, x_aCs, x_int, x_bool, x_str, x_es, x_esn, nth_0, nth_1, nth_2, nth_3, nth_4, nth_5, nth_6, nth_7, nth_8, nth_9, y_nil, y_int, y_bool, y_str, y_sl, y_nils, y_agg, y_ownp, y_own, z_nil, z_int, z_bool, z_str, z_sl, z_nils, b_nil, b_arr, b_box1, b_box2, b_box3, b_box4, List.map_cons, List.map_nil, Bool.and_self, Bool.and_true, Bool.true_and, Bool.not_true, Bool.not_false, Bool.or_false, Bool.false_or, cond_true, cond_false, okPack, okPut, okPutBlks, okPutCells, q_isP, q_isAg, q_isBox, q_isArr, q_int, q_bool, q_str, q_sl, q_nils, e_exit, e_ret, e_nrm, e_ret_exit, e_exit_ret, e_nrm_exit, e_nrm_ret, e_exit_nrm, e_ret_nrm, Nat.zero_add, Nat.reduceAdd, noslR, noslP, noslB, noslA, List.all_cons, List.all_nil]
  rw [hT]
  simp only [bnd_some, ctl_true, ctl_false, ctl_and, ctl_or', ctl_or2, x_toPV, x_toCs, x_toCs2, x_toEs, x_bEs, x_bCs, x_aPV, x_aCs, x_int, x_bool, x_str, x_es, x_esn, nth_0, nth_1, nth_2, nth_3, nth_4, nth_5, nth_6, nth_7, nth_8, nth_9, y_nil, y_int, y_bool, y_str, y_sl, y_nils, y_agg, y_ownp, y_own, z_nil, z_int, z_bool, z_str, z_sl, z_nils, b_nil, b_arr, b_box1, b_box2, b_box3, b_box4, List.map_cons, List.map_nil, Bool.and_self, Bool.and_true, Bool.true_and, Bool.not_true, Bool.not_false, Bool.or_false, Bool.false_or, cond_true, cond_false, okPack, okPut, okPutBlks, okPutCells, q_isP, q_isAg, q_isBox, q_isArr, q_int, q_bool, q_str, q_sl, q_nils, e_exit, e_ret, e_nrm, e_ret_exit, e_exit_ret, e_nrm_exit, e_nrm_ret, e_exit_nrm, e_ret_nrm, Nat.zero_add, Nat.reduceAdd, noslR, noslP, noslB, noslA, List.all_cons, List.all_nil]
  rw [D1]
  simp only [bnd_some, ctl_true, ctl_false, ctl_and, ctl_or', ctl_or2, x_toPV, x_toCs, x_toCs2, x_toEs, x_bEs, x_bCs, x_aPV, x_aCs, x_int, x_bool, x_str, x_es, x_esn, nth_0, nth_1, nth_2, nth_3, nth_4, nth_5, nth_6, nth_7, nth_8, nth_9, y_nil, y_int, y_bool, y_str, y_sl, y_nils, y_agg, y_ownp, y_own, z_nil, z_int, z_bool, z_str, z_sl, z_nils, b_nil, b_arr, b_box1, b_box2, b_box3, b_box4, List.map_cons, List.map_nil, Bool.and_self, Bool.and_true, Bool.true_and, Bool.not_true, Bool.not_false, Bool.or_false, Bool.false_or, cond_true, cond_false, okPack, okPut, okPutBlks, okPutCells, q_isP, q_isAg, q_isBox, q_isArr, q_int, q_bool, q_str, q_sl, q_nils, e_exit, e_ret, e_nrm, e_ret_exit, e_exit_ret, e_nrm_exit, e_nrm_ret, e_exit_nrm, e_ret_nrm, Nat.zero_add, Nat.reduceAdd, noslR, noslP, noslB, noslA, List.all_cons, List.all_nil, n0, arcK_length, thK_length, n1]
  rw [hm]
  simp only [bnd_some, ctl_true, ctl_false, ctl_and, ctl_or', ctl_or2, x_toPV, x_toCs, x_toCs2, x_toEs, x_bEs, x_bCs, x_aPV, x_aCs, x_int, x_bool, x_str, x_es, x_esn, nth_0, nth_1, nth_2, nth_3, nth_4, nth_5, nth_6, nth_7, nth_8, nth_9, y_nil, y_int, y_bool, y_str, y_sl, y_nils, y_agg, y_ownp, y_own, z_nil, z_int, z_bool, z_str, z_sl, z_nils, b_nil, b_arr, b_box1, b_box2, b_box3, b_box4, List.map_cons, List.map_nil, Bool.and_self, Bool.and_true, Bool.true_and, Bool.not_true, Bool.not_false, Bool.or_false, Bool.false_or, cond_true, cond_false, okPack, okPut, okPutBlks, okPutCells, q_isP, q_isAg, q_isBox, q_isArr, q_int, q_bool, q_str, q_sl, q_nils, e_exit, e_ret, e_nrm, e_ret_exit, e_exit_ret, e_nrm_exit, e_nrm_ret, e_exit_nrm, e_ret_nrm, Nat.zero_add, Nat.reduceAdd, noslR, noslP, noslB, noslA, List.all_cons, List.all_nil, thK_length, n2]
  rw [hf]
  simp only [bnd_some, ctl_true, ctl_false, ctl_and, ctl_or', ctl_or2, x_toPV, x_toCs, x_toCs2, x_toEs, x_bEs, x_bCs, x_aPV, x_aCs, x_int, x_bool, x_str, x_es, x_esn, nth_0, nth_1, nth_2, nth_3, nth_4, nth_5, nth_6, nth_7, nth_8, nth_9, y_nil, y_int, y_bool, y_str, y_sl, y_nils, y_agg, y_ownp, y_own, z_nil, z_int, z_bool, z_str, z_sl, z_nils, b_nil, b_arr, b_box1, b_box2, b_box3, b_box4, List.map_cons, List.map_nil, Bool.and_self, Bool.and_true, Bool.true_and, Bool.not_true, Bool.not_false, Bool.or_false, Bool.false_or, cond_true, cond_false, okPack, okPut, okPutBlks, okPutCells, q_isP, q_isAg, q_isBox, q_isArr, q_int, q_bool, q_str, q_sl, q_nils, e_exit, e_ret, e_nrm, e_ret_exit, e_exit_ret, e_nrm_exit, e_nrm_ret, e_exit_nrm, e_ret_nrm, Nat.zero_add, Nat.reduceAdd, noslR, noslP, noslB, noslA, List.all_cons, List.all_nil]
  rw [D2]
  simp only [bnd_some, ctl_true, ctl_false, ctl_and, ctl_or', ctl_or2, x_toPV, x_toCs, x_toCs2, x_toEs, x_bEs, x_bCs, x_aPV, x_aCs, x_int, x_bool, x_str, x_es, x_esn, nth_0, nth_1, nth_2, nth_3, nth_4, nth_5, nth_6, nth_7, nth_8, nth_9, y_nil, y_int, y_bool, y_str, y_sl, y_nils, y_agg, y_ownp, y_own, z_nil, z_int, z_bool, z_str, z_sl, z_nils, b_nil, b_arr, b_box1, b_box2, b_box3, b_box4, List.map_cons, List.map_nil, Bool.and_self, Bool.and_true, Bool.true_and, Bool.not_true, Bool.not_false, Bool.or_false, Bool.false_or, cond_true, cond_false, okPack, okPut, okPutBlks, okPutCells, q_isP, q_isAg, q_isBox, q_isArr, q_int, q_bool, q_str, q_sl, q_nils, e_exit, e_ret, e_nrm, e_ret_exit, e_exit_ret, e_nrm_exit, e_nrm_ret, e_exit_nrm, e_ret_nrm, Nat.zero_add, Nat.reduceAdd, noslR, noslP, noslB, noslA, List.all_cons, List.all_nil]
  rw [D3]
  simp only [bnd_some, ctl_true, ctl_false, ctl_and, ctl_or', ctl_or2, x_toPV, x_toCs, x_toCs2, x_toEs, x_bEs, x_bCs, x_aPV, x_aCs, x_int, x_bool, x_str, x_es, x_esn, nth_0, nth_1, nth_2, nth_3, nth_4, nth_5, nth_6, nth_7, nth_8, nth_9, y_nil, y_int, y_bool, y_str, y_sl, y_nils, y_agg, y_ownp, y_own, z_nil, z_int, z_bool, z_str, z_sl, z_nils, b_nil, b_arr, b_box1, b_box2, b_box3, b_box4, List.map_cons, List.map_nil, Bool.and_self, Bool.and_true, Bool.true_and, Bool.not_true, Bool.not_false, Bool.or_false, Bool.false_or, cond_true, cond_false, okPack, okPut, okPutBlks, okPutCells, q_isP, q_isAg, q_isBox, q_isArr, q_int, q_bool, q_str, q_sl, q_nils, e_exit, e_ret, e_nrm, e_ret_exit, e_exit_ret, e_nrm_exit, e_nrm_ret, e_exit_nrm, e_ret_nrm, Nat.zero_add, Nat.reduceAdd, noslR, noslP, noslB, noslA, List.all_cons, List.all_nil]
  rw [D4]
  simp only [bnd_some, ctl_true, ctl_false, ctl_and, ctl_or', ctl_or2, x_toPV, x_toCs, x_toCs2, x_toEs, x_bEs, x_bCs, x_aPV, x_aCs, x_int, x_bool, x_str, x_es, x_esn, nth_0, nth_1, nth_2, nth_3, nth_4, nth_5, nth_6, nth_7, nth_8, nth_9, y_nil, y_int, y_bool, y_str, y_sl, y_nils, y_agg, y_ownp, y_own, z_nil, z_int, z_bool, z_str, z_sl, z_nils, b_nil, b_arr, b_box1, b_box2, b_box3, b_box4, List.map_cons, List.map_nil, Bool.and_self, Bool.and_true, Bool.true_and, Bool.not_true, Bool.not_false, Bool.or_false, Bool.false_or, cond_true, cond_false, okPack, okPut, okPutBlks, okPutCells, q_isP, q_isAg, q_isBox, q_isArr, q_int, q_bool, q_str, q_sl, q_nils, e_exit, e_ret, e_nrm, e_ret_exit, e_exit_ret, e_nrm_exit, e_nrm_ret, e_exit_nrm, e_ret_nrm, Nat.zero_add, Nat.reduceAdd, noslR, noslP, noslB, noslA, List.all_cons, List.all_nil, beq_self_eq_true]
  rw [hS]
  simp only [bnd_some, ctl_true, ctl_false, ctl_and, ctl_or', ctl_or2, x_toPV, x_toCs, x_toCs2, x_toEs, x_bEs, x_bCs, x_aPV, x_aCs, x_int, x_bool, x_str, x_es, x_esn, nth_0, nth_1, nth_2, nth_3, nth_4, nth_5, nth_6, nth_7, nth_8, nth_9, y_nil, y_int, y_bool, y_str, y_sl, y_nils, y_agg, y_ownp, y_own, z_nil, z_int, z_bool, z_str, z_sl, z_nils, b_nil, b_arr, b_box1, b_box2, b_box3, b_box4, List.map_cons, List.map_nil, Bool.and_self, Bool.and_true, Bool.true_and, Bool.not_true, Bool.not_false, Bool.or_false, Bool.false_or, cond_true, cond_false, okPack, okPut, okPutBlks, okPutCells, q_isP, q_isAg, q_isBox, q_isArr, q_int, q_bool, q_str, q_sl, q_nils, e_exit, e_ret, e_nrm, e_ret_exit, e_exit_ret, e_nrm_exit, e_nrm_ret, e_exit_nrm, e_ret_nrm, Nat.zero_add, Nat.reduceAdd, noslR, noslP, noslB, noslA, List.all_cons, List.all_nil, c_sane]

end Go.Proofs.Ytcnjaffogkkpnaa.Vm
