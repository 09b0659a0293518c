/- network.Reach answers what its row says. -/
import Derived.Test.YtcgpckiieocdbaaReachW
namespace Go.Proofs.Ytcgpckiieocdbaa.Vm
open Go Go.Proofs Go.RowKit
set_option linter.unusedVariables false
set_option linter.unusedSimpArgs false

theorem okf_right : hasN 26 E.okf = true := by kernel_rfl
theorem okf_whole : hasN 27 E.okf = true := by kernel_rfl

theorem five_args {C : Ctx} {a b c d e : AV} {us : Array Value} (h : All2 (VA C) [a, b, c, d, e] us.toList) : ∃ u v x y z, us = #[u, v, x, y, z] ∧ VA C a u ∧ VA C b v ∧ VA C c x ∧ VA C d y ∧ VA C e z := by
  match hl : us.toList, h with
  | [u, v, x, y, z], ⟨h1, h2, h3, h4, h5, _⟩ => exact ⟨u, v, x, y, z, by rw [← Array.toArray_toList (xs := us), hl], h1, h2, h3, h4, h5⟩

theorem spansE_get : ∀ {es : List (List PV)} {l : List (Int × Int × Int)}, spansE es = some l → es.length = l.length ∧ ∀ (j : Nat) x, l[j]? = some x → es[j]? = some [PV.int .i64 x.1, PV.int .i64 x.2.1, PV.int .i64 x.2.2]
  | [], l, h => by
    simp only [spansE, Option.some.injEq] at h
    subst h
    exact ⟨rfl, fun j x h => by simp at h⟩
  | e :: es, l, h => by
    simp only [spansE] at h
    split at h
    · rename_i x r hx hr
      simp only [Option.some.injEq] at h
      subst h
      obtain ⟨h1, h2⟩ := spansE_get hr
      refine ⟨by simp [h1], fun j y hy => ?_⟩
      match j, hy with
      | 0, hy =>
        simp only [List.getElem?_cons_zero, Option.some.injEq] at hy ⊢
        subst hy
        unfold spanE at hx
        split at hx
        · simp only [Option.some.injEq] at hx
          subst hx
          rfl
        · cases hx
      | j + 1, hy => exact h2 j y (by simpa using hy)
    · cases h

theorem vp_two {W : World} {O : Nat → Prop} {g : Nat} {x y : Int} (hg : W.heap[g]? = some (.cells #[.int .i64 x, .int .i64 y] 3 (0, 0))) (hO : ¬ O g) : VP W O (.sl 1 [[.int .i64 x], [.int .i64 y]]) (.slice (some ⟨g, 0, none⟩) 2 2) := by
  refine VP.sl 1 [[.int .i64 x], [.int .i64 y]] g 0 2 (fun i _ => match i with | 0 => .int .i64 x | _ => .int .i64 y) (Array.getElem?_eq_some_iff.1 hg).1 hO (by simp) (by simp) ?_ ?_
  · intro i j e c he hj
    match i, he with
    | 0, he =>
      simp at he
      subst he
      match j, hj with
      | 0, hj => simp [World.cell?, hg]
      | j + 1, hj => simp at hj
    | 1, he =>
      simp at he
      subst he
      match j, hj with
      | 0, hj => simp [World.cell?, hg]
      | j + 1, hj => simp at hj
    | i + 2, he => simp at he
  · intro i j e c he hj
    match i, he with
    | 0, he =>
      simp at he
      subst he
      match j, hj with
      | 0, hj => simp at hj; subst hj; exact .int _ _
      | j + 1, hj => simp at hj
    | 1, he =>
      simp at he
      subst he
      match j, hj with
      | 0, hj => simp at hj; subst hj; exact .int _ _
      | j + 1, hj => simp at hj
    | i + 2, he => simp at he

theorem whole_call {F : Fun} (hF : FSound E F) {n net : Int} {es bs cs : List (List PV)} {l : List (Int × Int × Int)} (h : F 27 [.t (.agg [.int .i64 n, .sl 3 es]), .t (.p (.sl 2 bs)), .t (.p (.int .i64 net))] [] = some ([.p (.sl 3 cs)], [])) (hl : spansE cs = some l) (hn : ∀ x ∈ l, 0 ≤ x.2.1 ∧ 0 ≤ x.2.2)
    {C : Ctx} (hok : Ok C) (hC : C.h = []) {W : World} (hg : Grow C.w W) {s : Nat} (h1 : C.w.heap.size ≤ s) (h2 : s < W.heap.size) {u v : Value} (hu : C.P (.sl 3 es) u) (hv : C.P (.sl 2 bs) v) :
    Calls E.P 27 #[.agg #[.int .i64 n, u], v, .int .i64 net] W fun e w' => ∃ ca cc, e = .returned (.slice ca (cabs l).length cc) ∧ Below W.heap.size W w' ∧ Cbl w' s ca (cabs l) := by
  have hY : ∀ b, b = s → C.w.heap.size ≤ b := fun b hb => hb ▸ h1
  refine (FOk.atX (hF.fn 27 _ [] _ _ h okf_whole) hok hC hg (Y := fun b => b = s) (us := #[.agg #[.int .i64 n, u], v, .int .i64 net]) (fun b hb => hb ▸ h2)
    ⟨⟨_, rfl, .int _ _, P_hide hC hg hY hu, trivial⟩, P_hide hC hg hY hv, .int _ _, trivial⟩).mono fun e w' ⟨x, he, D, hw, hx, _, hDh, hr⟩ => ?_
  subst he
  subst hw
  have hlen : (cabs l).length = cs.length := by rw [(spansE_get hl).1]; simp [cabs]
  have hB := below_ext hx hC (Nat.le_refl W.heap.size)
  replace hr : D.P (.sl 3 cs) x := hr
  rw [hlen]
  cases hr with
  | sl0 _ a cap =>
    refine ⟨a, cap, rfl, hB, fun j y hy => ?_⟩
    have := (spansE_get hl).1
    simp at this
    rw [List.eq_nil_of_length_eq_zero this.symm] at hy
    simp [cabs] at hy
  | sl _ _ b off cap f hb hO hc hz hcell hvp =>
    refine ⟨_, cap, rfl, hB, fun j y hy => ?_⟩
    obtain ⟨x, hx1, rfl⟩ : ∃ x, l[j]? = some x ∧ (x.2.1.toNat, x.2.2.toNat) = y := by
      simpa [cabs] using hy
    have he := (spansE_get hl).2 j x hx1
    obtain ⟨p1, p2⟩ := hn x (List.mem_of_getElem? hx1)
    have c0 := hcell j 0 _ (.int .i64 x.1) he rfl
    have c1 := hcell j 1 _ (.int .i64 x.2.1) he rfl
    have c2 := hcell j 2 _ (.int .i64 x.2.2) he rfl
    have v0 := hvp j 0 _ (.int .i64 x.1) he rfl
    have v1 := hvp j 1 _ (.int .i64 x.2.1) he rfl
    have v2 := hvp j 2 _ (.int .i64 x.2.2) he rfl
    rw [vp_int64 _ _ v0] at c0
    rw [vp_int64 _ _ v1] at c1
    rw [vp_int64 _ _ v2] at c2
    refine ⟨b, off, x.1, rfl, hb, fun hbs => hO (.inl ?_), c0, ?_, ?_⟩
    · rw [hx.X]
      exact .inr hbs
    · rw [c1, Int.toNat_of_nonneg p1]
    · rw [c2, Int.toNat_of_nonneg p2]

set_option maxHeartbeats 1000000 in
theorem s_hReach : ∀ F, FSound E F → ∀ args rs, (hReach 26 27).run F args = some rs → FOk E 17 args [] rs [] := by
  intro F hF args rs h
  replace h : (reachT 26 27 args).run F = some rs := h
  unfold reachT at h
  split at h
  case h_2 => cases h
  rename_i n es bs net a b
  obtain ⟨v, hr, h⟩ := run_bool h
  intro C hok hC us hv
  obtain ⟨u0, u1, u2, u3, u4, rfl, hu, h1, h2, h3, h4⟩ := five_args hv
  have hu0 := hu
  obtain rfl := vp_int64 _ _ h2
  obtain rfl := vp_int64 _ _ h3
  obtain rfl := vp_int64 _ _ h4
  obtain ⟨cs0, rfl, hcs⟩ := hu
  obtain ⟨c0, rfl, p0⟩ : ∃ c0, cs0 = #[.int .i64 n, c0] ∧ C.P (.sl 3 es) c0 := by
    match hus : cs0.toList, hcs with
    | [c1, c0], ⟨g1, g2, _⟩ =>
      obtain rfl := vp_int64 _ _ g1
      exact ⟨c0, by rw [← Array.toArray_toList (xs := cs0), hus], g2⟩
  have hright : ∀ W s, Below C.w.heap.size C.w W → C.w.heap.size ≤ s → W.heap[s]? = some (.cells #[.int .i64 a, .int .i64 b] 3 (0, 0)) → Calls Try.prog 26 #[.agg #[.int .i64 n, c0], .int .i64 net, .slice (some ⟨s, 0, none⟩) 2 2] W fun e w' => e = .returned (.bool v) ∧ Below W.heap.size W w' := by
    intro W s hW hs1 hs2
    have hg := Grow.of_below hW
    have hno : ¬ (C.setW W).O s := by
      rintro (h | h)
      · have := (hok.x _ h).1; omega
      · exact no_own (C := C.setW W) hC s h
    exact call_bool hF okf_right hr (C := C.setW W) (ok_grow hok hg) hC (Grow.refl _) ⟨(ext_grow C hg).va hu0, .int _ _, vp_two hs2 hno, trivial⟩
  obtain ⟨sa, len, sc, rfl⟩ : ∃ sa len sc, c0 = .slice sa len sc := by cases p0 <;> exact ⟨_, _, _, rfl⟩
  have fin : ∀ r : Bool, Calls E.P 17 #[.agg #[.int .i64 n, .slice sa len sc], u1, .int .i64 net, .int .i64 a, .int .i64 b] C.w (fun e w' => e = .returned (.bool r) ∧ Below C.w.heap.size C.w w') →
      rs = [.p (.bool r)] → Calls E.P 17 #[.agg #[.int .i64 n, .slice sa len sc], u1, .int .i64 net, .int .i64 a, .int .i64 b] C.w fun e w' => match e with
        | .returned u => ∃ D : Ctx, D.w = w' ∧ Ext C D ∧ Ok D ∧ D.h = (rawB rs).map Ent.blk ∧ VA D (valOf (rawT 0 rs)) u
        | _ => False := by
    intro r hc hrs
    subst hrs
    refine hc.mono ?_
    rintro e w' ⟨rfl, hB⟩
    have hg := Grow.of_below hB
    exact ⟨C.setW w', rfl, ext_grow C hg, ok_grow hok hg, hC, .bool _⟩
  cases v with
  | false =>
    simp only [cond_false, Ask.run, Option.some.injEq] at h
    exact fin false (no_walk n sa len sc u1 net a b C.w hright) h.symm
  | true =>
    rw [cond_true] at h
    obtain ⟨cs, hw, h⟩ := run_sl h
    split at h
    case h_2 => cases h
    rename_i l hl
    cases hk : okReach n a b l with
    | false => rw [hk] at h; cases h
    | true =>
      rw [hk] at h
      simp only [cond_true, Ask.run, Option.some.injEq] at h
      simp only [okReach, inN, Bool.and_eq_true, decide_eq_true_eq, List.all_eq_true] at hk
      obtain ⟨⟨ha, hb⟩, hn, hlen, hall⟩ := hk
      refine fin _ (yes_walk n sa len sc u1 net a b (cabs l) C.w ⟨by omega, hn⟩ ha hb ?_ ?_ hright ?_) h.symm
      · have := Nat.le_of_ble_eq_true hlen
        simpa [cabs] using this
      · intro x hx
        obtain ⟨y, hy, rfl⟩ := List.mem_map.1 hx
        obtain ⟨q1, q2⟩ := hall y hy
        dsimp only
        omega
      · intro W s hW hs1 hs2
        exact whole_call hF hw hl (fun x hx => ⟨(hall x hx).1.1, (hall x hx).2.1⟩) hok hC (Grow.of_below hW) hs1 hs2 p0 h1

end Go.Proofs.Ytcgpckiieocdbaa.Vm
