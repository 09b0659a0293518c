/- The abstract machine, part U: operations on tables against the model's. -/
import Derived.Test.YtclplmjlolpfbaaGreatVmT
namespace Go.Proofs.YtclplmjlolpfbaaGreat.Vm
open Go.MapKept
set_option linter.unusedVariables false
set_option linter.unusedSectionVars false
set_option linter.unusedSimpArgs false

theorem det_tabV {C : Ctx} {nid id n sz i0 : Nat} {u : Value} {es : List (List PV)} {k : Int} {A B B' : Blk} {kvs kvs' : List (Int × MV)} {vals : List Value} (h : TabV C id sz kvs vals) (T : Det C nid id n u.ownBlock A B B')
    (hk : kvs[i0]? = some (k, .row es)) (hv : vals[i0]? = some u) (hlen : kvs'.length = kvs.length) (hc : ∀ i, i ≠ i0 → kvs'[i]? = kvs[i]?) (h0 : ∃ k', kvs'[i0]? = some (k', .gone)) :
    TabV (C.detach nid id u.ownBlock A B') id sz kvs' vals := by
  have hx := T.ext
  obtain ⟨k', h0⟩ := h0
  have hru := h.val i0 _ u hk hv
  refine tabV_set h i0 .gone u (h.len.trans hlen.symm) (fun i x v hx hv' => ?_) (h.one i0 u hv) (fun i x v hi hx' hv' => ?_) (rowR_form hru).1 (fun i x es es' v g e => by cases e)
  · by_cases hi : i = i0
    · subst hi
      rw [h0] at hx; cases hx
      rw [hv] at hv'; cases hv'
      exact .inr ⟨rfl, rfl, rfl⟩
    · exact .inl ⟨hi, (hc i hi) ▸ hx, hv'⟩
  · have hm := h.val i x v hx' hv'
    obtain ⟨xk, xm⟩ := x
    cases xm with
    | pv p => exact hx.vp hm
    | gone => exact hm
    | row es2 =>
      rcases hm with hm | ⟨g, cap, carr, e, fr, rfl, h2, h3, h4, h5, h6, h7, h8, h9⟩
      · exact .inl hm
      · refine .inr ⟨g, cap, carr, e, fr, rfl, h2, ⟨⟨T.ne, h3⟩, fun hq => ?_⟩, h4, h5, h6, h7, h8, fun i j e c he hj => ?_⟩
        · exact hi (h.apart i i0 _ _ es2 es _ u g hx' hk rfl rfl hv' hv rfl hq.2)
        · obtain ⟨v, a1, a2⟩ := h9 i j e c he hj
          exact ⟨v, a1, hx.vp a2⟩

theorem tabw_tabV {C : Ctx} {w' : World} {J : List Nat} {id n sz i0 : Nat} {u' : Value} {mv : MV} {B B' : Blk} {kvs kvs' : List (Int × MV)} {vals vals' : List Value} (h : TabV C id sz kvs vals) (T : TabW C w' J id n B B') (hn : ¬ C.κ id n)
    (hlen : vals'.length = kvs'.length) (hc : ∀ (i : Nat) x u, kvs'[i]? = some x → vals'[i]? = some u → (i ≠ i0 ∧ kvs[i]? = some x ∧ vals[i]? = some u) ∨ (i = i0 ∧ x.2 = mv ∧ u = u')) (hone : u'.oneCell' = true)
    (hnew : MVR (C.tabw w' J id B') id sz mv u') (hap : ∀ es g, mv = .row es → u'.ownBlock = some g → ¬ C.κ id g) : TabV (C.tabw w' J id B') id sz kvs' vals' := by
  refine tabV_set h i0 mv u' hlen hc hone (fun i x u hi hx hu => T.ext.mvR (h.val i x u hx hu) (fun k hk => .inl hk) (fun k hk => T.keep k fun e => hn (e ▸ hk))) hnew (fun i x es es' u g em eg hi hx ex hu gu => ?_)
  have hm := h.val i x u hx hu
  rw [ex] at hm
  exact hap es g em eg (rowR_block hm gu)

theorem zero_nils {P : Program} {e : TypeId} (h : zeroCells P e = some [.nils]) : ∃ zv : Value, (∀ w', (zeroValue e).run P w' = .ok zv w') ∧ zv.cells = #[.slice none 0 0] := by
  obtain ⟨zv, h1, h2⟩ := zeroCells_sound h default (fun _ => False)
  refine ⟨zv, h1, ?_⟩
  cases hl : zv.cells.toList with
  | nil => rw [hl] at h2; exact h2.elim
  | cons a l =>
    rw [hl] at h2
    have ha : a = .slice none 0 0 := by have := h2.1; cases this; rfl
    cases l with
    | nil => rw [← Array.toArray_toList (xs := zv.cells), hl, ha]
    | cons => exact h2.2.elim

theorem tabMakeK_sound {C : Ctx} (hok : Ok C) {P : Program} {nid : Nat} (hf : nth Ent.fresh C.h nid = .fresh) (hn : nid < C.h.length) {t : TypeId} {l c v : AV} {us : Ups} {ul uc : Value} (hl : VA C l ul) (hc : VA C c uc)
    (h : tabMakeK P nid t l c two = some (v, us)) : ∃ u w', (Instr.makeSlice t ul uc).run P C.w = .ok u w' ∧ Gives C us v u w' := by
  unfold tabMakeK at h
  split at h
  · rename_i e n m ht
    cases hl; cases hc
    split at h
    · rename_i e2 he2 hz
      split at h
      · rename_i hcond
        simp only [Bool.and_eq_true] at hcond
        have hz0 : P.cellsOf e = 1 := Nat.eq_of_beq_eq_true hcond.1
        obtain ⟨hb, h⟩ := ctl_some h
        obtain ⟨rfl, rfl⟩ := two_inj h
        simp only [Bool.and_eq_true, decide_eq_true_eq] at hb
        obtain ⟨b1, b2, b3, b4⟩ := hb
        obtain ⟨i, hi, hbi, hci⟩ := run_bytes_z hz
        obtain ⟨zv, hzv, hzc⟩ := zero_nils hz
        have w1 := wrap_id b1 (by omega)
        have w2 := wrap_id (by omega : 0 ≤ m) b3
        unfold room at b4
        obtain ⟨carr, hcarr⟩ : ∃ carr, (Array.range (m.toNat * 1)).map (fun i => zv.cells[i % zv.cells.size]!) = carr := ⟨_, rfl⟩
        have hcs : carr.size = m.toNat := by rw [← hcarr]; simp
        have hcg : ∀ i, i < m.toNat → carr[i]? = some (.slice none 0 0) := fun i hi => by
          rw [← hcarr, hzc]
          simp [hi, Nat.mod_one]
        refine ⟨.slice (some ⟨C.w.heap.size, 0, none⟩) n.toNat m.toNat, C.w.alloc (.cells carr e), ?_, ?_⟩
        · have hnot1 : ¬ m < 0 := by omega
          have hnot2 : ¬ ((i.bytes : Int) * m > 281474976710656) := by
            rw [hbi] at b4
            rw [Int.mul_comm]
            omega
          have hnot3 : ¬ n < 0 := by omega
          have hnot4 : ¬ n > m := by omega
          simp only [Instr.makeSlice, Sem.run_bind, run_underlying ht, Result.andThen_ok, asInt, asIntOf, Sem.run_pure, typeInfo, run_program, hi, w1, w2]
          have hbig : (decide (m < 0) || decide ((i.bytes : Int) * m > 2 ^ 48)) = false := by
            simp only [Bool.or_eq_false_iff, decide_eq_false_iff_not]
            exact ⟨hnot1, hnot2⟩
          rw [hbig]
          simp only [hnot3, hnot4, decide_false, Bool.or_self, Bool.false_eq_true, if_false, Sem.run_bind, run_askRoom, Result.andThen_ok, run_sizeOf_z hz, hz0]
          by_cases h0 : m.toNat * 1 = 0
          · have hm0 : m.toNat = 0 := by omega
            have hn0 : n.toNat = 0 := by omega
            have hc0 : carr = #[] := by rw [← hcarr, hm0]; simp
            simp [hm0, hn0, hc0, newRow, Array.range_zero']
          · have hm1 : ¬ m ≤ 0 := by omega
            simp [h0, hzv, newRow, ← hcarr, hm1]
        · have hg : Grow C.w (C.w.alloc (.cells carr e)) := Grow.alloc _ _
          obtain ⟨B, hB⟩ : ∃ B, Blk.tab false (P.cellsOf e2) (reps (0, MV.row []) n.toNat) = B := ⟨_, rfl⟩
          have hx := ext_bind C hg (B := B) (x := some C.w.heap.size) hf (fun n h => by cases h; exact Nat.le_refl _)
          have hlive : live (upd (.blk B) C.h nid) nid B := live_upd.2 (.inl ⟨rfl, hn, rfl⟩)
          rw [hB]
          have hι : (C.bindN (C.w.alloc (.cells carr e)) nid (some C.w.heap.size) B).ι nid = some C.w.heap.size := ιset_same _ _ _
          refine ⟨C.bindN (C.w.alloc (.cells carr e)) nid (some C.w.heap.size) B, rfl, rfl, hx, ok_bind hok hg hf (fun n h => by cases h; exact Nat.le_refl _) ?_, ?_⟩
          · rw [← hB] at hι ⊢
            have hr : ∀ (i : Nat) u, (reps (Value.slice none 0 0) n.toNat)[i]? = some u → u = .slice none 0 0 ∧ i < n.toNat := fun i u hu => by
              rw [reps_eq, List.getElem?_replicate] at hu
              split at hu
              · cases hu; exact ⟨rfl, by assumption⟩
              · cases hu
            refine ⟨C.w.heap.size, reps (.slice none 0 0) n.toNat, hι, fun hk => hk.1 rfl, ⟨carr, e, (0, 0), heap_alloc_same _ _, noFr_zero _, fun u hu => ?_, fun i u hu => ?_⟩, ?_⟩
            · obtain ⟨i, hi⟩ := List.mem_iff_getElem?.1 hu
              have hi' : carr[i]? = some u := by simpa using hi
              have hlt : i < m.toNat := by rw [← hcs]; exact (Array.getElem?_eq_some_iff.1 hi').1
              rw [hcg i hlt] at hi'; cases hi'; rfl
            · obtain ⟨rfl, hlt⟩ := hr i u hu
              exact hcg i (by omega)
            · refine ⟨by rw [reps_length, reps_length], fun i u hu => by rw [(hr i u hu).1]; rfl, fun i x u hx hu => ?_, fun i j x y es es' u u' g hx hy ex ey hu hu' gu => ?_⟩
              · rw [(hr i u hu).1]
                rw [reps_eq, List.getElem?_replicate] at hx
                split at hx
                · cases hx; exact .inl ⟨rfl, rfl⟩
                · cases hx
              · rw [(hr i u hu).1] at gu; cases gu
          · refine ⟨live_known hlive, C.w.heap.size, m.toNat, n.toNat, rfl, by omega, fun sz kvs hd => ?_⟩
            have := live_inj hlive hd
            rw [← hB] at this
            cases this
            exact ⟨hι, reps_length _ _⟩
      · cases h
    · cases h
  · cases h

theorem isI64_under {P : Program} {t : TypeId} (h : isI64 P t = true) : P.underlying t = some (.int .i64) := by
  unfold isI64 at h
  split at h
  · assumption
  · cases h

theorem mapMakeK_sound {C : Ctx} (hok : Ok C) {P : Program} {nid : Nat} (hf : nth Ent.fresh C.h nid = .fresh) (hn : nid < C.h.length) {t : TypeId} {v : AV} {us : Ups}
    (h : mapMakeK P nid t two = some (v, us)) : ∃ u w', (Instr.makeMap t none).run P C.w = .ok u w' ∧ Gives C us v u w' := by
  unfold mapMakeK at h
  split at h
  · rename_i k e ht
    split at h
    · obtain ⟨rfl, rfl⟩ := two_inj h
      have hg : Grow C.w (C.w.alloc (.map #[] 0)) := Grow.alloc _ _
      obtain ⟨B, hB⟩ : ∃ B, Blk.tab true (rowSz P e) [] = B := ⟨_, rfl⟩
      have hx := ext_bind C hg (B := B) (x := some C.w.heap.size) hf (fun n h => by cases h; exact Nat.le_refl _)
      have hlive : live (upd (.blk B) C.h nid) nid B := live_upd.2 (.inl ⟨rfl, hn, rfl⟩)
      rw [hB]
      have hι : (C.bindN (C.w.alloc (.map #[] 0)) nid (some C.w.heap.size) B).ι nid = some C.w.heap.size := ιset_same _ _ _
      refine ⟨.map (some C.w.heap.size), C.w.alloc (.map #[] 0), by simp [Instr.makeMap], C.bindN (C.w.alloc (.map #[] 0)) nid (some C.w.heap.size) B, rfl, rfl, hx, ok_bind hok hg hf (fun n h => by cases h; exact Nat.le_refl _) ?_, ?_⟩
      · rw [← hB] at hι ⊢
        exact ⟨C.w.heap.size, [], hι, fun hk => hk.1 rfl, ⟨#[], 0, heap_alloc_same _ _, rfl, rfl⟩, ⟨rfl, fun i u hu => by simp at hu, fun i x u hx => by simp at hx, fun i j x y es es' u u' g hx => by simp at hx⟩⟩
      · exact ⟨live_known hlive, _, rfl, fun sz kvs _ => hι⟩
    · cases h
  · cases h

theorem mv_at {kvs : List (Int × MV)} {i : Nat} (h : i < kvs.length) : kvs[i]? = some ((nth (0, MV.gone) kvs i).1, mvAt kvs i) := by
  show _ = some (nth (0, MV.gone) kvs i)
  rw [nth_eq]
  simp [List.getD, h]
theorem isRow_row {v : MV} (h : v.isRow = true) : v = .row v.toEs := by cases v <;> first | rfl | cases h

theorem tabLoadK_sound {C : Ctx} (hok : Ok C) {P : Program} {look : Look} (hl : LookOk C look) {nid : Nat} (hf : nth Ent.fresh C.h nid = .fresh) (hn : nid < C.h.length) {t : TypeId} {a v : AV} {us : Ups} {ua : Value} (ha : VA C a ua)
    (h : tabLoadK P look nid t a two = some (v, us)) : ∃ u, (Instr.loadAt t ua).run P C.w = .ok u C.w ∧ Gives C us v u C.w := by
  unfold tabLoadK at h
  split at h
  · rename_i id i
    split at h
    · rename_i sz kvs hb
      split at h
      · rename_i hcond
        simp only [Bool.and_eq_true, Bool.not_eq_true'] at hcond
        obtain ⟨hrow, h⟩ := ctl_some h
        obtain ⟨rfl, rfl⟩ := two_inj h
        have hlv := hl _ _ hb
        obtain ⟨hk, n, rfl, hp⟩ := ha
        obtain ⟨hi, hlt⟩ := hp sz kvs hlv
        obtain ⟨n', vals, hi', hnk, ⟨carr, e, fr, hr, hfr, hone, hval⟩, hT⟩ := hok.blk id _ hlv
        rw [hi] at hi'; cases hi'
        have hki := mv_at hlt
        rw [isRow_row hrow] at hki
        have hvl : i < vals.length := by rw [hT.len]; exact hlt
        have hvi : vals[i]? = some vals[i] := List.getElem?_eq_getElem hvl
        generalize vals[i] = u at hvi
        have hci := hval i u hvi
        have hru := hT.val i _ u hki hvi
        refine ⟨u, run_loadAt_one hcond.2.1 hcond.2.2 (by rw [cells_get carr n i hr]; exact hci), ?_⟩
        obtain ⟨B', hB'⟩ : ∃ B', Blk.tab false sz (upd (0, MV.gone) kvs i) = B' := ⟨_, rfl⟩
        have T : Det C nid id n u.ownBlock (.arr sz (mvAt kvs i).toEs) (.tab false sz kvs) B' :=
          ⟨hlv, hi, hnk, hf, hn, fun g hg => rowR_block hru hg, by rw [← hB']; exact ⟨rfl, fun _ => (length_upd _ _ _).symm⟩⟩
        obtain ⟨h1, h2⟩ := det_row hru T
        rw [hB']
        refine ⟨C.detach nid id u.ownBlock (.arr sz (mvAt kvs i).toEs) B', rfl, rfl, T.ext, T.ok hok h1 ?_, h2⟩
        have hι : (C.detach nid id u.ownBlock (.arr sz (mvAt kvs i).toEs) B').ι id = some n := (ιset_other T.ne).trans hi
        rw [← hB'] at hι T ⊢
        refine ⟨n, vals, hι, fun hq => hnk hq.1.2, ⟨carr, e, fr, hr, hfr, hone, hval⟩, det_tabV hT T hki hvi (length_upd _ _ _) (fun j hj => ?_) ⟨0, ?_⟩⟩
        · rw [upd_eq, List.getElem?_set, if_neg (fun e => hj e.symm)]
        · rw [upd_eq, List.getElem?_set, if_pos rfl, if_pos hlt]
      · cases h
    · cases h
  · cases h

theorem tabStoreK_sound {C : Ctx} (hok : Ok C) {P : Program} {look : Look} (hl : LookOk C look) {t : TypeId} {a x v : AV} {us : Ups} {ua ux : Value} (ha : VA C a ua) (hx : VA C x ux)
    (h : tabStoreK P look t a x two = some (v, us)) : ∃ w', (Instr.storeAt t ua ux).run P C.w = .ok () w' ∧ Puts C us w' ∧ v = .no := by
  unfold tabStoreK at h
  split at h
  · rename_i id i j
    split at h
    · rename_i sz kvs sz' es hb hj
      split at h
      · rename_i hcond
        obtain ⟨rfl, rfl⟩ := two_inj h
        simp only [Bool.and_eq_true, Bool.not_eq_true'] at hcond
        have hszz : sz = sz' := Nat.eq_of_beq_eq_true hcond.1
        subst hszz
        have hct : P.cellsOf t = 1 := Nat.eq_of_beq_eq_true hcond.2.1
        have hlv := hl _ _ hb
        have hlj := hl _ _ hj
        have hne : j ≠ id := fun e => by subst e; have := live_inj hlv hlj; cases this
        obtain ⟨hk, n, rfl, hp⟩ := ha
        obtain ⟨hi, hlt⟩ := hp sz kvs hlv
        obtain ⟨n', vals, hi', hnk, ⟨carr, e, fr, hr, hfr, hone, hval⟩, hT⟩ := hok.blk id _ hlv
        rw [hi] at hi'; cases hi'
        have hvl : i < vals.length := by rw [hT.len]; exact hlt
        have hci := hval i _ (List.getElem?_eq_getElem hvl)
        have hcl : i < carr.size := (Array.getElem?_eq_some_iff.1 hci).1
        have hux : ux.cells.toList = [ux] ∧ ux.oneCell' = true := by
          obtain ⟨_, ⟨a, l, c, rfl⟩, _⟩ := hx
          exact ⟨rfl, rfl⟩
        have hfit : i + ux.cells.toList.length ≤ carr.size := by rw [hux.1]; exact hcl
        have hss := splice_size carr i ux.cells.toList hfit
        refine ⟨_, run_storeAt hcond.2.2.1 hr hfr (by rw [hux.1, hct]; rfl) hfit (by rw [hux.1]; simp [hux.2]), ?_, rfl⟩
        obtain ⟨carr', hcarr⟩ : ∃ c', (carr.toList.take i ++ ux.cells.toList ++ carr.toList.drop (i + ux.cells.toList.length)).toArray = c' := ⟨_, rfl⟩
        have hget : ∀ k, carr'[k]? = if k = i then some ux else carr[k]? := fun k => by
          rw [← hcarr, splice_get carr i _ hfit, hux.1]
          simp only [List.length_cons, List.length_nil]
          by_cases hki : k = i
          · subst hki
            simp
          · rw [if_neg (by omega), if_neg hki]
        rw [hcarr] at hss ⊢
        obtain ⟨B', hB'⟩ : ∃ B', Blk.tab false sz (upd (0, MV.row es) kvs i) = B' := ⟨_, rfl⟩
        have T : TabW C (C.w.setRow n carr') [j] id n (.tab false sz kvs) B' :=
          ⟨hlv, hi, fun j' hj' => by obtain rfl : j' = j := by simpa using hj'
                                     exact ⟨hne, _, hlj⟩, rfl, rfl, rfl, setRow_size _ _ _, fun b hb => setRow_other _ _ _ _ hb, fun c e' f h' => by
            rw [hr] at h'; cases h'
            exact ⟨carr', fr, setRow_same _ _ _ _ _ _ hr, hss⟩, by rw [← hB']; exact ⟨rfl, fun _ => (length_upd _ _ _).symm⟩⟩
        obtain ⟨r1, r2⟩ := tabw_row hok T hlj hx
        rw [hB']
        refine ⟨C.tabw (C.w.setRow n carr') [j] id B', rfl, rfl, T.ext, T.ok hok ?_⟩
        rw [← hB'] at T r1 ⊢
        refine ⟨n, vals.set i ux, hi, fun hq => ?_, ⟨carr', e, fr, setRow_same _ _ _ _ _ _ hr, hfr.size hss, fun u hu => ?_, fun k u hu => ?_⟩, tabw_tabV (i0 := i) (u' := ux) (mv := .row es) hT T hnk (by rw [List.length_set, length_upd]; exact hT.len) (fun k y u hy hu => ?_) hux.2 r1 (fun es' g _ hg hκ => ?_)⟩
        · rcases hq with hq | ⟨_, j', hj', hq⟩
          · exact hnk hq
          · obtain rfl : j' = j := by simpa using hj'
            exact hne (hok.inj j' id n _ _ hlj hlv hq (.inl hi))
        · obtain ⟨k, hk⟩ := List.mem_iff_getElem?.1 hu
          have hk' : carr'[k]? = some u := by simpa using hk
          rw [hget] at hk'
          split at hk'
          · cases hk'; exact hux.2
          · exact hone u (List.mem_iff_getElem?.2 ⟨k, by simpa using hk'⟩)
        · rw [hget]
          rw [List.getElem?_set] at hu
          by_cases hki : i = k
          · subst hki
            rw [if_pos rfl, if_pos hvl] at hu
            rw [if_pos rfl]; exact hu
          · rw [if_neg hki] at hu
            rw [if_neg (fun e => hki e.symm)]; exact hval k u hu
        · rw [upd_eq, List.getElem?_set] at hy
          rw [List.getElem?_set] at hu
          by_cases hki : i = k
          · subst hki
            rw [if_pos rfl, if_pos hvl] at hu
            rw [if_pos rfl, if_pos hlt] at hy
            cases hu; cases hy
            exact .inr ⟨rfl, rfl, rfl⟩
          · rw [if_neg hki] at hu hy
            exact .inl ⟨fun e => hki e.symm, hy, hu⟩
        · exact hne (hok.inj j id g _ _ hlj hlv (.inl (r2 g hg)) (.inr hκ))
      · cases h
    · cases h
  · cases h

theorem tabAddrK_sound {C : Ctx} {P : Program} {look : Look} (hl : LookOk C look) {t : TypeId} {x ix v : AV} {us : Ups} {ux ui : Value} (hx : VA C x ux) (hi : VA C ix ui) (h : tabAddrK P look t x ix two = some (v, us)) :
    ∃ u, (Instr.indexAt t ux ui).run P C.w = .ok u C.w ∧ us = [] ∧ VA C v u := by
  unfold tabAddrK at h
  split at h
  · rename_i e id k n ht
    cases hi
    split at h
    · rename_i sz kvs hb
      split at h
      · rename_i hcond
        simp only [Bool.and_eq_true] at hcond
        have hsz : P.cellsOf e = 1 := Nat.eq_of_beq_eq_true hcond.1
        obtain ⟨hcnd, h⟩ := ctl_some h
        obtain ⟨rfl, rfl⟩ := two_inj h
        simp only [Bool.and_eq_true, decide_eq_true_eq] at hcnd
        have hlv := hl _ _ hb
        obtain ⟨hk, b, cap, len, rfl, hc, hp⟩ := hx
        obtain ⟨h1, h2⟩ := hp sz kvs hlv
        subst h2
        refine ⟨.pointer (some ⟨b, n.toNat, none⟩), ?_, rfl, hk, b, rfl, fun sz' kvs' hd => ?_⟩
        · have hsize := run_sizeOf (P := P) (w := C.w) hcond.2
          have hcnd' : 0 ≤ n ∧ n < (kvs.length : Int) := hcnd
          simp [Instr.indexAt, asIntOf, run_underlying ht, hcnd', hsize, hsz, addr_add]
        · have := live_inj hlv hd
          cases this
          exact ⟨h1, by omega⟩
      · cases h
    · cases h
  · cases h

theorem tabLenK_sound {C : Ctx} {P : Program} {look : Look} (hl : LookOk C look) {ts : List TypeId} {x v : AV} {us : Ups} {ux : Value} (hx : VA C x ux) (h : tabLenK P look ts x two = some (v, us)) :
    ∃ n cap : Nat, ∃ a, ux = .slice a n cap ∧ us = [] ∧ v = .int .i64 n ∧ ∃ t e ts', ts = t :: ts' ∧ P.underlying t = some (.slice e) := by
  unfold tabLenK at h
  split at h
  · rename_i t ts id
    split at h
    · rename_i e sz kvs ht hb
      obtain ⟨rfl, rfl⟩ := two_inj h
      obtain ⟨hk, b, cap, len, rfl, hc, hp⟩ := hx
      obtain ⟨_, h2⟩ := hp _ kvs (hl _ _ hb)
      subst h2
      exact ⟨_, _, _, rfl, rfl, rfl, t, _, _, rfl, ht⟩
    · cases h
  · cases h

end Go.Proofs.YtclplmjlolpfbaaGreat.Vm
