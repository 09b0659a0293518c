/- The abstract machine, part 31: functions. -/
import Derived.Test.YtpnpdkgdgfkpfaaGreatDoorVm30
namespace Go.Proofs.YtpnpdkgdgfkpfaaGreatDoor.Vm
set_option linter.unusedVariables false
set_option linter.unusedSimpArgs false

def resOf (tmps : Array Value) : ResultVar → Sem Value
  | .tmp t => pure (tmps.getD t Go.undef)
  | .cell a t => do loadVar t (← asAddr (tmps.getD a Go.undef))

def tupOf : List Value → Value
  | [u] => u
  | l => .tuple l.toArray

theorem results_eq (fn : Func) (tmps : Array Value) (P : Program) (w w' : World) {us : List Value} (h : (fn.results.toList.mapM (resOf tmps)).run P w = .ok us w') :
    (results fn tmps).run P w = .ok (tupOf us) w' := by
  have hf : results fn tmps = (do let vs ← fn.results.mapM (resOf tmps); pure (if h : vs.size = 1 then vs[0] else .tuple vs)) := by
    unfold results
    congr 2
  rw [hf, Array.mapM_eq_mapM_toList]
  simp only [bind_map_left, Sem.run_bind, h, Result.andThen_ok, Sem.run_pure]
  congr 1
  match us with
  | [] => rfl
  | [u] => rfl
  | u :: v :: l => simp [tupOf]

theorem tvsOf_all {C : Ctx} : ∀ {cs : List AV} {tvs : List TV} {xs : List Value}, tvsOf cs = some tvs → All2 (VA C) cs xs → All2 (VT C) tvs xs
  | [], _, [], h, _ => by simp only [tvsOf] at h; cases h; trivial
  | [], _, _ :: _, _, ha => ha.elim
  | _ :: _, _, [], _, ha => ha.elim
  | c :: cs, tvs, x :: xs, h, ha => by
    cases c with
    | t v =>
      simp only [tvsOf] at h
      split at h
      · rename_i r hr
        cases h
        exact ⟨ha.1, tvsOf_all hr ha.2⟩
      · cases h
    | _ => cases h

theorem loadO_sound {C : Ctx} (hok : Ok C) {P : Program} {look : Look} (hl : LookOk C look) {t : TypeId} {id : Nat} {v : AV} {ua : Value} (ha : VA C (.t (.ptr id 0)) ua) (h : loadO P look t id = some v) :
    ∃ u, (Instr.loadAt t ua).run P C.w = .ok u C.w ∧ VA C v u := by
  unfold loadO at h
  split at h
  · rename_i cs hb
    split at h
    · rename_i tvs htv
      split at h
      · rename_i hc
        cases h
        simp only [Bool.and_eq_true] at hc
        obtain ⟨⟨hty, hag⟩, hlen⟩ := hc
        have hlv := hl _ _ hb
        obtain ⟨hk, n, rfl, hp⟩ := ha
        have hi := hp cs hlv
        obtain ⟨n', carr, e, fr, hi', hr, hs, hf, hc⟩ := hok.blk id _ hlv
        rw [hi] at hi'; cases hi'
        have h0 : All2 (VA C) cs carr.toList := All2.of_get (by simpa using hs.symm) fun j a b hj hb => by
          obtain ⟨u, h1, h2, _⟩ := hc j a hj
          have hb' : carr[j]? = some b := by simpa using hb
          rw [hb'] at h1; cases h1; exact h2
        have hcl : cs.length = P.cellsOf t := Nat.eq_of_beq_eq_true hlen
        have hll : ((carr.toList.drop 0).take (P.cellsOf t)).length = P.cellsOf t := by
          rw [List.drop_zero, List.length_take, Array.length_toList, hs, hcl]; omega
        refine ⟨_, run_loadAt_agg hty hag (run_cells hr hll), _, rfl, ?_⟩
        have : (carr.toList.drop 0).take (P.cellsOf t) = carr.toList := by
          rw [List.drop_zero, List.take_of_length_le (by rw [Array.length_toList, hs, hcl]; exact Nat.le_refl _)]
        simp only [this, List.toList_toArray]
        exact tvsOf_all htv h0
      · cases h
    · cases h
  · cases h

theorem resVals_sound {P : Program} {slots : List AV} {h : List Ent} {tmps : Array Value} : ∀ {rs : List ResultVar} {vs : List AV} {C : Ctx}, resVals P slots (lookH h) rs = some vs → Ok C → C.h = h → SlotsR C slots tmps →
    ∃ (C' : Ctx) (us : List Value), C'.w = C.w ∧ C'.h = C.h ∧ Ext C C' ∧ Ok C' ∧ (rs.mapM (resOf tmps)).run P C.w = .ok us C.w ∧ All2 (VA C') vs us
  | [], vs, C, hr, hok, hh, hs => by
    cases hr
    exact ⟨C, [], rfl, rfl, Ext.refl C, hok, rfl, trivial⟩
  | .tmp t :: l, vs, C, hr, hok, hh, hs => by
    simp only [resVals] at hr
    split at hr
    · rename_i r hl
      cases hr
      obtain ⟨C', us, h1, h2, h3, h4, h5, h6⟩ := resVals_sound hl hok hh hs
      refine ⟨C', tmps.getD t Go.undef :: us, h1, h2, h3, h4, ?_, h3.va (hs t), h6⟩
      simp only [List.mapM_cons, Sem.run_bind, resOf, Sem.run_pure, Result.andThen_ok, h5]
    · cases hr
  | .cell a t :: l, vs, C, hr, hok, hh, hs => by
    simp only [resVals] at hr
    split at hr
    · rename_i r id hl ha
      split at hr
      · rename_i v hv
        cases hr
        have hn := (loadK_nat P (lookH h) t (.t (.ptr id 0)) two (fun p : AV × Ups => if p.2.isEmpty then some p.1 else none)).trans hv
        obtain ⟨⟨v', us'⟩, h1, h2⟩ := Option.bind_eq_some_iff.1 hn
        split at h2
        · rename_i he
          cases h2
          have he : us' = [] := by simpa using he
          subst he
          have hav := hs a
          rw [ha] at hav
          obtain ⟨u, hu, C1, g1, g2, g3, g4, g5⟩ := loadK_sound hok (fun id b hb => by rw [hh]; exact lookH_live.1 hb) hav h1
          have hs1 : SlotsR C1 slots tmps := hs.ext g3
          obtain ⟨C', us, k1, k2, k3, k4, k5, k6⟩ := resVals_sound hl g4 (by rw [g2]; exact hh) hs1
          refine ⟨C', u :: us, k1.trans g1, k2.trans g2, g3.trans k3, k4, ?_, k3.va g5, k6⟩
          obtain ⟨_, b, hb, _⟩ := hav
          have hrun : (resOf tmps (.cell a t)).run P C.w = .ok u C.w := by
            simp only [resOf]
            rw [hb] at hu ⊢
            exact hu
          rw [g1] at k5
          rw [List.mapM_cons]
          simp only [Sem.run_bind, hrun, Result.andThen_ok, k5, Sem.run_pure]
        · cases h2
      · split at hr
        · rename_i v hv
          cases hr
          have hav := hs a
          rw [ha] at hav
          obtain ⟨u, hu, g5⟩ := loadO_sound hok (fun id b hb => by rw [hh]; exact lookH_live.1 hb) hav hv
          obtain ⟨C', us, k1, k2, k3, k4, k5, k6⟩ := resVals_sound hl hok hh hs
          refine ⟨C', u :: us, k1, k2, k3, k4, ?_, k3.va g5, k6⟩
          obtain ⟨_, b, hb, _⟩ := hav
          have hrun : (resOf tmps (.cell a t)).run P C.w = .ok u C.w := by
            simp only [resOf]
            rw [hb] at hu ⊢
            exact hu
          rw [List.mapM_cons]
          simp only [Sem.run_bind, hrun, Result.andThen_ok, k5, Sem.run_pure]
        · cases hr
    · cases hr

def oids : List RSh → List AV → List (Option Nat)
  | .own _ :: l, .t (.hsl id) :: as => some id :: oids l as
  | .own _ :: l, .t (.p .nils) :: as => none :: oids l as
  | .ownp _ :: l, .t (.ptr id _) :: as => some id :: oids l as
  | _ :: l, _ :: as => oids l as
  | _, _ => []

def fzs : List RSh → List AV → List Nat
  | .one _ :: l, .t (.hsl id) :: as => id :: fzs l as
  | .agg _ :: l, .aggo vs :: as => vs.flatMap TV.refs ++ fzs l as
  | _ :: l, _ :: as => fzs l as
  | _, _ => []

def owns' (l : List (Option Nat)) : List Nat := l.filterMap fun x => x

theorem pureTs_ids {look : Look} : ∀ {l : List TV} {vs : List PV} {us : Ups}, pureTs look l = some (vs, us) → us.map Prod.fst = l.flatMap TV.refs ∧ allDead us
  | [], vs, us, h => by simp only [pureTs] at h; cases h; exact ⟨rfl, fun _ h => by cases h⟩
  | v :: l, vs, us, h => by
    refine ⟨?_, pureTs_dead h⟩
    simp only [pureTs] at h
    split at h
    · rename_i x u vs' us' h1 h2
      split at h
      · rename_i ho
        cases h
        have ih := (pureTs_ids h2).1
        have hv : u.map Prod.fst = v.refs := by
          cases v with
          | p v => simp only [pureT] at h1; cases h1; rfl
          | agg cs => cases ho
          | hsl id =>
            simp only [pureT] at h1
            split at h1
            · cases h1; rfl
            · cases h1
          | ptr id o => cases ho
        rw [List.map_append, List.flatMap_cons, ih, hv]
      · cases h
    · cases h

theorem takeR_ids {m : Nat} {look : Look} : ∀ {rsh : List RSh} {as : List AV} {rs : List RV} {ids : List Nat}, takeR m look rsh as = some (rs, ids) → ids.Perm (fzs rsh as ++ owns' (oids rsh as))
  | [], [], rs, ids, h => by cases h; exact List.Perm.refl _
  | [], _ :: _, _, _, h => by cases h
  | _ :: _, [], _, _, h => by cases h
  | r :: l, a :: as, rs, ids, h => by
    simp only [takeR] at h
    split at h
    · cases h
    · rename_i rs' ids' h1
      have ih := takeR_ids h1
      have mid : ∀ x, (x :: ids').Perm (fzs l as ++ x :: owns' (oids l as)) := fun x => (List.Perm.cons x ih).trans List.perm_middle.symm
      split at h
      · cases h; exact ih
      · cases h; exact ih
      · split at h
        · cases h; exact List.Perm.cons _ ih
        · cases h
      · cases h; exact ih
      · split at h
        · rename_i hp
          cases h
          show (_ ++ ids').Perm ((_ ++ fzs l _) ++ _)
          rw [(pureTs_ids hp).1, List.append_assoc]
          exact List.Perm.append_left _ ih
        · cases h
      · split at h
        · split at h
          · cases h; exact mid _
          · cases h
        · cases h
      · cases h; exact ih
      · split at h
        · split at h
          · split at h
            · cases h; exact mid _
            · cases h
          · cases h
        · cases h
      · cases h

theorem takeR_blks {m : Nat} {look : Look} : ∀ {rsh : List RSh} {as : List AV} {rs : List RV} {ids : List Nat}, takeR m look rsh as = some (rs, ids) →
    All2 (fun (B : Blk) (x : Option Nat) => (∃ id, x = some id ∧ look id = some B ∧ m ≤ id ∧ ∀ cs, B = .box cs → ∃ vs : List PV, cs = vs.map AV.p) ∨ (x = none ∧ ∃ sz, B = .arr sz [])) (rawB rs) (oids rsh as)
  | [], [], rs, ids, h => by cases h; trivial
  | [], _ :: _, _, _, h => by cases h
  | _ :: _, [], _, _, h => by cases h
  | r :: l, a :: as, rs, ids, h => by
    simp only [takeR] at h
    split at h
    · cases h
    · rename_i rs' ids' h1
      have ih := takeR_blks h1
      split at h
      · cases h; exact ih
      · cases h; exact ih
      · split at h
        · cases h; exact ih
        · cases h
      · cases h; exact ih
      · split at h
        · cases h; exact ih
        · cases h
      · split at h
        · rename_i hl
          split at h
          · rename_i hm
            cases h
            exact ⟨.inl ⟨_, rfl, hl, Nat.le_of_ble_eq_true hm, fun cs he => by cases he⟩, ih⟩
          · cases h
        · cases h
      · cases h; exact ⟨.inr ⟨rfl, _, rfl⟩, ih⟩
      · split at h
        · rename_i hl
          split at h
          · rename_i hm
            split at h
            · rename_i vs hv
              cases h
              have := pureCells_map hv
              subst this
              exact ⟨.inl ⟨_, rfl, hl, Nat.le_of_ble_eq_true hm, fun cs he => by cases he; exact ⟨vs, rfl⟩⟩, ih⟩
            · cases h
          · cases h
        · cases h
      · cases h

theorem takeR_vals {C : Ctx} (hok : Ok C) {σ : Nat → Option Nat} {hD : List Ent} {K : Ups} (hK : allDead K) (R : RenOk (C.kill K) σ hD) {m : Nat} {look : Look} (hl : LookOk C look) :
    ∀ {rsh : List RSh} {as : List AV} {rs : List RV} {ids : List Nat} {us : List Value} {n : Nat}, takeR m look rsh as = some (rs, ids) → (∀ id ∈ fzs rsh as, (id, Ent.dead) ∈ K) →
    (∀ (k : Nat) x, (oids rsh as)[k]? = some x → known hD (n + k) ∧ σ (n + k) = x) → All2 (VA C) as us → All2 (VT ((C.kill K).ren σ hD)) (rawT n rs) us
  | [], [], rs, ids, us, n, h, _, _, hv => by cases h; cases us with | nil => trivial | cons => exact hv.elim
  | [], _ :: _, _, _, _, _, h, _, _, _ => by cases h
  | _ :: _, [], _, _, _, _, h, _, _, _ => by cases h
  | r :: l, a :: as, rs, ids, us, n, h, hf, ho, hv => by
    cases us with
    | nil => exact hv.elim
    | cons u us =>
      simp only [takeR] at h
      split at h
      · cases h
      · rename_i rs' ids' h1
        have hx := ext_kill C hK
        split at h
        · cases h
          have h0 : u = .slice none 0 0 := (fun u (h : C.P .nils u) => show u = .slice none 0 0 by cases h; rfl) _ hv.1
          subst h0
          exact ⟨.sl0 _ none 0, takeR_vals hok hK R hl h1 hf ho hv.2⟩
        · cases h
          exact ⟨R.vp (hx.vp hv.1), takeR_vals hok hK R hl h1 hf ho hv.2⟩
        · split at h
          · rename_i hlk
            cases h
            obtain ⟨_, _, h3⟩ := hv.1
            exact ⟨R.vp (frozen_sound hok (hl _ _ hlk) (h3 _ _ (hl _ _ hlk)) hK (hf _ (by simp [fzs]))), takeR_vals hok hK R hl h1 (fun id hid => hf id (by simp [fzs, hid])) ho hv.2⟩
          · cases h
        · cases h
          obtain ⟨us', rfl, ha⟩ := hv.1
          exact ⟨⟨us', rfl, R.vps (ha.mono fun _ _ => hx.vp)⟩, takeR_vals hok hK R hl h1 hf ho hv.2⟩
        · split at h
          · rename_i hp
            cases h
            obtain ⟨us', rfl, ha⟩ := hv.1
            have hin : ∀ y ∈ _, y ∈ K := fun y hy => by
              obtain ⟨e1, e2⟩ := pureTs_ids hp
              have h1 := e2 y hy
              have h2 : y.1 ∈ List.flatMap TV.refs _ := e1 ▸ List.mem_map.2 ⟨y, hy, rfl⟩
              have := hf y.1 (List.mem_append.2 (.inl h2))
              obtain ⟨a, b⟩ := y
              simp only at h1 this
              rw [h1]; exact this
            exact ⟨⟨us', rfl, R.vps (pureTs_sound hok hl ha hp hK hin)⟩, takeR_vals hok hK R hl h1 (fun id hid => hf id (List.mem_append.2 (.inr hid))) ho hv.2⟩
          · cases h
        · split at h
          · split at h
            · cases h
              have h0 := ho 0 _ rfl
              refine ⟨R.hsl h0.1 h0.2 (hx.vt hv.1), takeR_vals hok hK R hl h1 hf (fun k x hk => ?_) hv.2⟩
              have := ho (k + 1) x (by simpa [oids] using hk)
              rwa [show n + (k + 1) = n + 1 + k by omega] at this
            · cases h
          · cases h
        · cases h
          have h0 := ho 0 _ rfl
          refine ⟨R.nils h0.1 h0.2 (hx.vp hv.1), takeR_vals hok hK R hl h1 hf (fun k x hk => ?_) hv.2⟩
          have := ho (k + 1) x (by simpa [oids] using hk)
          rwa [show n + (k + 1) = n + 1 + k by omega] at this
        · split at h
          · split at h
            · split at h
              · cases h
                have h0 := ho 0 _ rfl
                refine ⟨R.ptr h0.1 h0.2 (hx.vt hv.1), takeR_vals hok hK R hl h1 hf (fun k x hk => ?_) hv.2⟩
                have := ho (k + 1) x (by simpa [oids] using hk)
                rwa [show n + (k + 1) = n + 1 + k by omega] at this
              · cases h
            · cases h
          · cases h
        · cases h

theorem takeB_at {look : Look} : ∀ {n j : Nat} {bs : List Blk} {ids : List Nat}, takeB look j n = some (bs, ids) → bs.length = n ∧ ∀ (k : Nat) b, bs[k]? = some b →
    (∃ sz es, look (j + k) = some (.arr sz es) ∧ b = .arr sz es) ∨ ∃ cs vs ds us, look (j + k) = some (.box cs) ∧ loadBox look cs = some (vs, ds, us) ∧ b = .box (vs.map AV.p) ∧ ∀ x ∈ us.map Prod.fst, x ∈ ids
  | 0, j, bs, ids, h => by cases h; exact ⟨rfl, fun k b hk => by simp at hk⟩
  | n + 1, j, bs, ids, h => by
    simp only [takeB] at h
    split at h
    · cases h
    · rename_i bs' ids' h1
      obtain ⟨ih1, ih2⟩ := takeB_at h1
      split at h
      · rename_i sz es hl
        cases h
        refine ⟨by simp [ih1], fun k b hk => ?_⟩
        cases k with
        | zero => simp at hk; subst hk; exact .inl ⟨sz, es, hl, rfl⟩
        | succ k => rw [show j + (k + 1) = j + 1 + k by omega]; exact ih2 k b (by simpa using hk)
      · rename_i cs hl
        split at h
        · rename_i vs ds us hb
          cases h
          refine ⟨by simp [ih1], fun k b hk => ?_⟩
          cases k with
          | zero => simp at hk; subst hk; exact .inr ⟨cs, vs, ds, us, hl, hb, rfl, fun x hx => List.mem_append.2 (.inl hx)⟩
          | succ k =>
            rw [show j + (k + 1) = j + 1 + k by omega]
            rcases ih2 k b (by simpa using hk) with h | ⟨cs', vs', ds', us', g1, g2, g3, g4⟩
            · exact .inl h
            · exact .inr ⟨cs', vs', ds', us', g1, g2, g3, fun x hx => List.mem_append.2 (.inr (g4 x hx))⟩
        · cases h
      · cases h

theorem nodupN_iff : ∀ {l : List Nat}, nodupN l = true → l.Nodup
  | [], _ => List.nodup_nil
  | x :: l, h => by
    simp only [nodupN, Bool.and_eq_true, Bool.not_eq_true'] at h
    refine List.nodup_cons.2 ⟨fun hx => ?_, nodupN_iff h.2⟩
    rw [hasN_iff.2 hx] at h
    cases h.1

theorem valOf_sound {C : Ctx} {vs : List TV} {us : List Value} (h : All2 (VT C) vs us) : VA C (valOf vs) (tupOf us) := by
  match vs, us with
  | [], [] => exact ⟨#[], rfl, trivial⟩
  | [v], [u] => exact h.1
  | v :: v' :: vs, u :: u' :: us => exact ⟨_, rfl, h⟩
  | [], _ :: _ => exact h.elim
  | _ :: _, [] => exact h.elim
  | [v], u :: u' :: us => exact h.2.elim
  | v :: v' :: vs, [u] => exact h.2.elim

theorem endK_sound {E : Env} {f m : Nat} {fn : Func} {e : Ex} {st : St} {rs : List RV} {bs : List Blk} (h : endK E f m fn e st = some (rs, bs)) {C0 C : Ctx} (hm : C0.h.length = m) (hx : Ext C0 C) (hok : Ok C) {a : Act} (hs : SR C st a) :
    (∀ i, e ≠ .exit i) ∧ ∃ v D, (results fn a.tmps).run E.P C.w = .ok v C.w ∧ D.w = C.w ∧ Ext C0 D ∧ Ok D ∧ D.h = (bs ++ rawB rs).map Ent.blk ∧ VA D (valOf (rawT m rs)) v := by
  unfold endK at h
  split at h
  · cases h
  · rename_i hne
    refine ⟨fun i he => hne i he, ?_⟩
    split at h
    · rename_i rsh vs hrsh hvs
      split at h
      · rename_i rs' ids bs' ids' hR hB
        split at h
        · rename_i hc
          cases h
          simp only [Bool.and_eq_true] at hc
          obtain ⟨hnd, hge⟩ := hc
          obtain ⟨C1, us, e1, e2, e3, e4, e5, e6⟩ := resVals_sound hvs hok hs.h hs.s
          have hL1 : LookOk C1 (lookH st.heap) := fun id b hb => by rw [e2, hs.h]; exact lookH_live.1 hb
          have hx1 := hx.trans e3
          have hperm := takeR_ids hR
          have hblk := takeR_blks hR
          obtain ⟨hbl, hbat⟩ := takeB_at hB
          have hnd1 := nodupN_iff hnd
          have hnd2 : ((fzs rsh vs ++ owns' (oids rsh vs)) ++ ids').Nodup := (hperm.append_right ids').nodup_iff.1 hnd1
          have hge' : ∀ id, id ∈ fzs rsh vs ∨ id ∈ ids' → m ≤ id := fun id hid => by
            have : id ∈ ids ++ ids' := by
              rcases hid with h | h
              · exact List.mem_append.2 (.inl (hperm.mem_iff.2 (List.mem_append.2 (.inl h))))
              · exact List.mem_append.2 (.inr h)
            exact Nat.le_of_ble_eq_true (List.all_eq_true.1 hge id this)
          -- what is frozen is given up
          let K : Ups := (fzs rsh vs ++ ids').map fun id => (id, Ent.dead)
          have hK : allDead K := fun u hu => by obtain ⟨id, _, rfl⟩ := List.mem_map.1 hu; rfl
          have hKm : ∀ id, id ∈ fzs rsh vs ∨ id ∈ ids' → (id, Ent.dead) ∈ K := fun id hid => List.mem_map.2 ⟨id, List.mem_append.2 hid, rfl⟩
          have hKn : ∀ id e, (id, e) ∈ K → id ∈ fzs rsh vs ∨ id ∈ ids' := fun id e he => by
            obtain ⟨x, hx, he⟩ := List.mem_map.1 he
            cases he
            exact List.mem_append.1 hx
          let σ : Nat → Option Nat := fun j => if j < m then some j else match (oids rsh vs)[j - m]? with | some x => x | none => none
          have hσ1 : ∀ j, j < m → σ j = some j := fun j hj => if_pos hj
          have hσ2 : ∀ k x, (oids rsh vs)[k]? = some x → σ (m + k) = x := fun k x hk => by
            show (if m + k < m then _ else _) = _
            rw [if_neg (by omega), show m + k - m = k by omega, hk]
          have hown : ∀ (k : Nat) id, (oids rsh vs)[k]? = some (some id) → id ∈ owns' (oids rsh vs) := fun k id hk => List.mem_filterMap.2 ⟨some id, List.mem_of_getElem? hk, rfl⟩
          have hlen : ((bs ++ rawB rs).map Ent.blk).length = m + (oids rsh vs).length := by simp [hbl, hblk.length]
          have hat : ∀ j b, live ((bs ++ rawB rs).map Ent.blk) j b → (j < m ∧ bs[j]? = some b) ∨ (m ≤ j ∧ (rawB rs)[j - m]? = some b) := fun j b hb => by
            have hb := (nth_map_blk _ _ _).1 hb
            rw [List.getElem?_append] at hb
            split at hb
            · exact .inl ⟨by omega, hb⟩
            · rw [hbl] at hb; exact .inr ⟨by omega, hb⟩
          have hnotK : ∀ id, id ∈ owns' (oids rsh vs) → ∀ e, (id, e) ∉ K := fun id hid e he => by
            rw [List.append_assoc] at hnd2
            obtain ⟨_, n2, n3⟩ := List.nodup_append.1 hnd2
            obtain ⟨_, _, n4⟩ := List.nodup_append.1 n2
            rcases hKn id e he with h | h
            · exact n3 id h id (List.mem_append.2 (.inl hid)) rfl
            · exact n4 id hid id h rfl
          have R : RenOk (C1.kill K) σ ((bs ++ rawB rs).map Ent.blk) := by
            refine ⟨ok_kill e4 hK, fun j j' id h1 h2 => ?_, fun j b hb => ?_⟩
            · have hlow : ∀ j id, m ≤ j → σ j = some id → (oids rsh vs)[j - m]? = some (some id) := fun j id hj h => by
                have h : (if j < m then some j else match (oids rsh vs)[j - m]? with | some x => x | none => none) = some id := h
                rw [if_neg (by omega)] at h
                split at h
                · rename_i x hx; rw [hx, h]
                · cases h
              have hmid : ∀ (k : Nat) id, (oids rsh vs)[k]? = some (some id) → m ≤ id := fun k id hk => by
                have hkl : k < (rawB rs).length := by rw [hblk.length]; exact (List.getElem?_eq_some_iff.1 hk).1
                obtain ⟨x, g1, g2⟩ := hblk.get k _ (List.getElem?_eq_getElem hkl)
                rw [hk] at g1
                cases g1
                rcases g2 with ⟨id', g3, _, g4, _⟩ | ⟨g3, _⟩
                · cases g3; exact g4
                · cases g3
              by_cases hj : j < m
              · rw [hσ1 j hj] at h1
                cases h1
                by_cases hj' : j' < m
                · rw [hσ1 j' hj'] at h2
                  cases h2; rfl
                · have := hmid _ _ (hlow j' j (by omega) h2)
                  omega
              · have g1 := hlow j id (by omega) h1
                by_cases hj' : j' < m
                · rw [hσ1 j' hj'] at h2
                  cases h2
                  have := hmid _ _ g1
                  omega
                · have g2 := hlow j' id (by omega) h2
                  -- two places of one number
                  have hn : (owns' (oids rsh vs)).Nodup := by
                    rw [List.append_assoc] at hnd2
                    exact (List.nodup_append.1 (List.nodup_append.1 hnd2).2.1).1
                  have key : ∀ (l : List (Option Nat)) (x y : Nat), (owns' l).Nodup → l[x]? = some (some id) → l[y]? = some (some id) → x = y := by
                    intro l
                    induction l with
                    | nil => intro x y _ hx; simp at hx
                    | cons o l ih =>
                      intro x y hn hx hy
                      cases o with
                      | none =>
                        cases x with
                        | zero => simp at hx
                        | succ x => cases y with
                          | zero => simp at hy
                          | succ y => exact congrArg (· + 1) (ih x y hn (by simpa using hx) (by simpa using hy))
                      | some o =>
                        have hn : (o :: owns' l).Nodup := hn
                        obtain ⟨n1, n2⟩ := List.nodup_cons.1 hn
                        have hm : ∀ z : Nat, l[z]? = some (some id) → id ∈ owns' l := fun z hz => List.mem_filterMap.2 ⟨some id, List.mem_of_getElem? hz, rfl⟩
                        cases x with
                        | zero => cases y with
                          | zero => rfl
                          | succ y =>
                            simp at hx; subst hx
                            exact absurd (hm y (by simpa using hy)) n1
                        | succ x => cases y with
                          | zero =>
                            simp at hy; subst hy
                            exact absurd (hm x (by simpa using hx)) n1
                          | succ y => exact congrArg (· + 1) (ih x y n2 (by simpa using hx) (by simpa using hy))
                  have := key _ _ _ hn g1 g2
                  omega
            · rcases hat j b hb with ⟨hj, hb⟩ | ⟨hj, hb⟩
              · have hKj : ∀ e, (j, e) ∉ K := fun e he => by have := hge' j (hKn j e he); omega
                rcases hbat j b hb with ⟨sz, es, g1, rfl⟩ | ⟨cs, ws, ds, us', g1, g2, rfl, g3⟩
                · rw [Nat.zero_add] at g1
                  exact .inl ⟨j, _, hσ1 j hj, live_put_ne hKj (hL1 _ _ g1), like_refl _⟩
                · rw [Nat.zero_add] at g1
                  refine .inl ⟨j, _, hσ1 j hj, live_put_ne hKj (hL1 _ _ g1), ?_⟩
                  show cs.length = (ws.map AV.p).length
                  obtain ⟨n, carr, e, fr, _, _, hsz, _, hc⟩ := e4.blk j _ (hL1 _ _ g1)
                  have h0 : All2 (VA C1) cs carr.toList := All2.of_get (by simpa using hsz.symm) fun i c u hc1 hu => by
                    obtain ⟨u', q1, q2, _⟩ := hc i c hc1
                    have : carr[i]? = some u := by simpa using hu
                    rw [q1] at this; cases this; exact q2
                  have hone : ∀ x ∈ carr.toList, x.oneCell' = true := fun x hx => by
                    obtain ⟨i, hi⟩ := List.mem_iff_getElem?.1 hx
                    have hlt : i < cs.length := by rw [← hsz]; have := (List.getElem?_eq_some_iff.1 hi).1; simpa using this
                    obtain ⟨u', q1, _, q3⟩ := hc i cs[i] (List.getElem?_eq_getElem hlt)
                    have : carr[i]? = some x := by simpa using hi
                    rw [q1] at this; cases this; exact q3
                  obtain ⟨_, hr⟩ := loadBox_sound e4 hL1 g2 h0 hone
                  have hall := (hr K hK fun x hx => by
                    have hd := (loadBox_sound e4 hL1 g2 h0 hone).1 x hx
                    have := hKm x.1 (.inr (g3 x.1 (List.mem_map.2 ⟨x, hx, rfl⟩)))
                    rw [← hd] at this; exact this).1
                  rw [List.length_map, hall.length]
                  simpa using hsz.symm
              · have hkl : j - m < (oids rsh vs).length := by rw [← hblk.length]; exact (List.getElem?_eq_some_iff.1 hb).1
                obtain ⟨x, g1, g2⟩ := hblk.get (j - m) b hb
                have hσj := hσ2 (j - m) x g1
                rw [Nat.add_sub_cancel' hj] at hσj
                rcases g2 with ⟨id, rfl, g3, _⟩ | ⟨rfl, sz, rfl⟩
                · exact .inl ⟨id, b, hσj, live_put_ne (hnotK id (hown _ _ g1)) (hL1 _ _ g3), like_refl _⟩
                · exact .inr ⟨hσj, sz, rfl⟩
          have hkn : ∀ j, j < m + (oids rsh vs).length → known ((bs ++ rawB rs).map Ent.blk) j := fun j hj => by
            rw [← hlen] at hj
            unfold known
            rw [nth_some _ (List.getElem?_eq_getElem hj), List.getElem_map]
            exact fun h => by cases h
          refine ⟨_, (C1.kill K).ren σ ((bs ++ rawB rs).map Ent.blk), results_eq fn a.tmps E.P C.w C.w e5, e1, R.ext (hx1.trans (ext_kill C1 hK)) fun id hid => ?_, R.okD fun j b hb => ?_, rfl, ?_⟩
          · have hlt' : id < m := by
              rcases Nat.lt_or_ge id C0.h.length with h' | h'
              · omega
              · exfalso; unfold known at hid; rw [nth_out h'] at hid; exact hid rfl
            exact ⟨hkn id (by omega), hσ1 id hlt'⟩
          · rcases hat j b hb with ⟨hj, hb⟩ | ⟨hj, hb⟩
            · have hKj : ∀ e, (j, e) ∉ K := fun e he => by have := hge' j (hKn j e he); omega
              rcases hbat j b hb with ⟨sz, es, g1, rfl⟩ | ⟨cs, ws, ds, us', g1, g2, rfl, g3⟩
              · rw [Nat.zero_add] at g1
                exact R.arr (hσ1 j hj) (live_put_ne hKj (hL1 _ _ g1))
              · rw [Nat.zero_add] at g1
                obtain ⟨n, carr, e, fr, hι, hrow, hsz, hfr, hc⟩ := e4.blk j _ (hL1 _ _ g1)
                have h0 : All2 (VA C1) cs carr.toList := All2.of_get (by simpa using hsz.symm) fun i c u hc1 hu => by
                  obtain ⟨u', q1, q2, _⟩ := hc i c hc1
                  have : carr[i]? = some u := by simpa using hu
                  rw [q1] at this; cases this; exact q2
                have hone : ∀ x ∈ carr.toList, x.oneCell' = true := fun x hx => by
                  obtain ⟨i, hi⟩ := List.mem_iff_getElem?.1 hx
                  have hlt : i < cs.length := by rw [← hsz]; have := (List.getElem?_eq_some_iff.1 hi).1; simpa using this
                  obtain ⟨u', q1, _, q3⟩ := hc i cs[i] (List.getElem?_eq_getElem hlt)
                  have : carr[i]? = some x := by simpa using hi
                  rw [q1] at this; cases this; exact q3
                obtain ⟨hd0, hr⟩ := loadBox_sound e4 hL1 g2 h0 hone
                have hall := (hr K hK fun x hx => by
                  have hd := hd0 x hx
                  have := hKm x.1 (.inr (g3 x.1 (List.mem_map.2 ⟨x, hx, rfl⟩)))
                  rw [← hd] at this; exact this).1
                have hvl : ws.length = carr.size := by rw [hall.length]; simp
                refine ⟨n, carr, e, fr, ?_, hrow, by rw [List.length_map, hvl], hfr, fun k c hk => ?_⟩
                · show (σ j).bind C1.ι = _
                  rw [hσ1 j hj]; exact hι
                · rw [List.getElem?_map] at hk
                  obtain ⟨p, hp, rfl⟩ := Option.map_eq_some_iff.1 hk
                  obtain ⟨u, q1, q2⟩ := hall.get k p hp
                  exact ⟨u, by simpa using q1, R.vp q2, q2.oneCell⟩
            · obtain ⟨x, g1, g2⟩ := hblk.get (j - m) b hb
              have hσj := hσ2 (j - m) x g1
              rw [Nat.add_sub_cancel' hj] at hσj
              rcases g2 with ⟨id, rfl, g3, _, g4⟩ | ⟨rfl, sz, rfl⟩
              · have hlv := live_put_ne (hnotK id (hown _ _ g1)) (hL1 _ _ g3)
                cases b with
                | arr sz es => exact R.arr hσj hlv
                | box cs =>
                  obtain ⟨ps, rfl⟩ := g4 cs rfl
                  refine R.box hσj hlv rfl fun k c d u hc hd hv => ?_
                  rw [hc] at hd
                  cases hd
                  rw [List.getElem?_map] at hc
                  obtain ⟨p, _, rfl⟩ := Option.map_eq_some_iff.1 hc
                  exact R.vp hv
              · exact ren_arr0 hσj
          · exact valOf_sound (takeR_vals e4 hK R hL1 hR (fun id hid => hKm id (.inl hid)) (fun k x hk => ⟨hkn (m + k) (by have := (List.getElem?_eq_some_iff.1 hk).1; omega), hσ2 k x hk⟩) e6)
        · cases h
      · cases h
    · cases h

theorem packV_sound {C : Ctx} {vs : List AV} {v : AV} {us : List Value} (h : packV vs = some v) (ha : All2 (VA C) vs us) : VA C v (tupOf us) := by
  match vs, us, ha with
  | [x], [u], ha => cases h; exact ha.1
  | [], [], _ => cases h; exact ⟨#[], rfl, trivial⟩
  | x :: y :: vs, u :: u' :: us, ha =>
    simp only [packV] at h
    split at h
    · rename_i l hl
      cases h
      exact ⟨_, rfl, tvsOf_all hl ha⟩
    · cases h
  | [], _ :: _, ha => exact ha.elim
  | [_], [], ha => exact ha.elim
  | [_], _ :: _ :: _, ha => exact ha.2.elim
  | _ :: _ :: _, [], ha => exact ha.elim
  | _ :: _ :: _, [_], ha => exact ha.2.elim

theorem inlK_sound {E : Env} (hE : okFns E = true) (hm : E.P.follows .mixedOrders = true) {F : Fun} (hF : FSound E F) : ∀ n, ISound E (inlK E F n)
  | 0 => fun _ _ _ _ _ _ _ _ h => by cases h
  | n + 1 => fun g α args h K r C us hI hokf hok hh hv => by
    simp only [inlK] at hI
    split at hI
    · cases hI
    rename_i fn hfn
    split at hI
    · cases hI
    rename_i c hc
    have hlen : us.size = args.length := by rw [hv.length]; simp
    refine calls_of_wp hfn hc ?_
    have hsr : SR C ⟨args ++ reps .undef (fn.ntmps - args.length), h⟩ { tmps := us ++ Array.replicate (fn.ntmps - us.size) Go.undef, defers := [] } := by
      refine ⟨hh, fun t => ?_, ?_⟩
      · rw [nth_eq, List.getD_eq_getElem?_getD, List.getElem?_append]
        show VA C _ ((us ++ Array.replicate (fn.ntmps - us.size) Go.undef).getD t Go.undef)
        rw [Array.getD_eq_getD_getElem?, Array.getElem?_append]
        by_cases ht : t < args.length
        · rw [if_pos ht, if_pos (by omega)]
          obtain ⟨u, h1, h2⟩ := hv.get t args[t] (List.getElem?_eq_getElem ht)
          have h1 : us[t]? = some u := by simpa using h1
          rw [List.getElem?_eq_getElem ht, h1]
          exact h2
        · rw [if_neg ht, reps_eq, List.getElem?_replicate]
          split <;> trivial
      · simp [reps_length, hlen]
    refine denK_sound (fx := ⟨E, F, g, h.length, fn.ntmps, fnArgs args, inlK E F n⟩) hE hF hm (inlK_sound hE hm hF n) (by rw [hh]) c 0 α _ _ _ C _ _ hI hok (Ext.refl C) hsr rfl (by simp; omega) fun e st' C' a' hK hok' hx' hs' hd' _ => ?_
    have key : ∀ e', e' = e → (∀ i, e' ≠ .exit i) → a'.defers = [] ∧ ∃ u, (results fn a'.tmps).run E.P C'.w = .ok u C'.w ∧ ∃ (C2 : Ctx) (v : AV), C2.w = C'.w ∧ Ok C2 ∧ Ext C C2 ∧ VA C2 v u ∧ K v C2.h = some r := by
      intro e' he hne
      subst he
      have hK : (match resVals E.P st'.slots (lookH st'.heap) fn.results.toList with
            | some vs => (match packV vs with | some v => K v st'.heap | none => none)
            | none => none) = some r := by
        cases e' with
        | nrm => exact hK
        | exit i => exact absurd rfl (hne i)
        | ret => exact hK
      split at hK
      · rename_i vs hvs
        split at hK
        · rename_i v hpv
          obtain ⟨C1, us1, h1, h2, h3, h4, h5, h6⟩ := resVals_sound hvs hok' hs'.h hs'.s
          refine ⟨hd', tupOf us1, results_eq fn a'.tmps E.P C'.w C'.w h5, C1, v, h1, h4, hx'.trans h3, packV_sound hpv h6, ?_⟩
          rw [h2, hs'.h]; exact hK
        · cases hK
      · cases hK
    cases e with
    | nrm =>
      obtain ⟨k1, u, k2, C2, v, k3, k4, k5, k6, k7⟩ := key _ rfl (fun i h => by cases h)
      exact ⟨k1, u, k2, C2, v, k3, k4, k5, k6, k7⟩
    | exit i => cases hK
    | ret =>
      obtain ⟨k1, u, k2, C2, v, k3, k4, k5, k6, k7⟩ := key _ rfl (fun i h => by cases h)
      exact ⟨k1, u, k2, C2, v, k3, k4, k5, k6, k7⟩

end Go.Proofs.YtpnpdkgdgfkpfaaGreatDoor.Vm
