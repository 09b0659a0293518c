/- The abstract machine, part 11: operations against the model's: new blocks. -/
import Derived.Test.YtpnpdkgdgfkpfaaGreatDoorVm10
namespace Go.Proofs.YtpnpdkgdgfkpfaaGreatDoor.Vm
set_option linter.unusedVariables false
set_option linter.unusedSimpArgs false

theorem zeroCells_sound {P : Program} {t : TypeId} {cs : List PV} (h : zeroCells P t = some cs) (w : World) (O : Nat → Prop) :
    ∃ z, (∀ w', (zeroValue t).run P w' = .ok z w') ∧ All2 (VP w O) cs z.cells.toList := by
  unfold zeroCells at h
  split at h
  · rename_i i hi
    split at h
    · rename_i us hz
      exact ⟨.agg us, fun w' => by simp [zeroValue, typeInfo, hi, hz], constPs_sound h⟩
    · rename_i v hna hz
      split at h
      · rename_i a ha
        cases h
        have hv := constP_sound (w := w) (O := O) ha
        refine ⟨v, fun w' => by simp [zeroValue, typeInfo, hi, hz], ?_⟩
        rw [hv.cells]
        exact ⟨hv, trivial⟩
      · cases h
    · cases h
  · cases h

theorem noFr_zero (c : Array Value) : noFr c (0, 0) := .inl rfl

theorem gives_box {C : Ctx} (hok : Ok C) {nid : Nat} (hf : nth Ent.fresh C.h nid = .fresh) (hn : nid < C.h.length) {cs : List AV} {carr : Array Value} {e : TypeId} {us : Ups} (hus : us = [])
    (ha : All2 (VA C) cs carr.toList) (h1 : ∀ x ∈ carr.toList, x.oneCell' = true) :
    Gives C [(nid, .blk (.box cs))] (.t (.ptr nid 0)) (.pointer (some ⟨C.w.heap.size, 0, none⟩)) (C.w.alloc (.cells carr e)) := by
  have hg := Grow.alloc C.w (.cells carr e)
  have hx := ext_bind C hg (B := .box cs) (x := some C.w.heap.size) hf (fun n h => by cases h; exact Nat.le_refl _)
  have hlive : live (upd (.blk (.box cs)) C.h nid) nid (.box cs) := live_upd.2 (.inl ⟨rfl, hn, rfl⟩)
  refine ⟨C.bindN (C.w.alloc (.cells carr e)) nid (some C.w.heap.size) (.box cs), rfl, rfl, hx, ok_bind hok hg hf (fun n h => by cases h; exact Nat.le_refl _) ?_, ?_⟩
  · refine ⟨C.w.heap.size, carr, e, (0, 0), ιset_same _ _ _, heap_alloc_same _ _, by simpa using ha.length.symm, noFr_zero carr, fun j c hj => ?_⟩
    obtain ⟨u, h2, h3⟩ := ha.get j c hj
    exact ⟨u, by simpa using h2, hx.va h3, h1 u (List.mem_iff_getElem?.2 ⟨j, h2⟩)⟩
  · exact ⟨live_known hlive, _, rfl, fun ds hd => ιset_same _ _ _⟩

theorem gives_arr {C : Ctx} (hok : Ok C) {nid : Nat} (hf : nth Ent.fresh C.h nid = .fresh) (hn : nid < C.h.length) {sz : Nat} {es : List (List PV)} {carr : Array Value} {e : TypeId} {fr : Nat × Nat} {w : World}
    (hg : Grow C.w w) (hr : w.heap[C.w.heap.size]? = some (.cells carr e fr)) (hfr : noFr carr fr) (cap : Nat) (hcap : es.length ≤ cap) (hcs : cap * sz ≤ carr.size) (hz : ∀ e ∈ es, e.length = sz)
    (h1 : ∀ x ∈ carr.toList, x.oneCell' = true) (hc : ∀ (i j : Nat) e c, es[i]? = some e → e[j]? = some c → ∃ u, carr[i * sz + j]? = some u ∧ C.P c u) :
    Gives C [(nid, .blk (.arr sz es))] (.t (.hsl nid)) (.slice (some ⟨C.w.heap.size, 0, none⟩) es.length cap) w := by
  have hx := ext_bind C hg (B := .arr sz es) (x := some C.w.heap.size) hf (fun n h => by cases h; exact Nat.le_refl _)
  have hlive : live (upd (.blk (.arr sz es)) C.h nid) nid (.arr sz es) := live_upd.2 (.inl ⟨rfl, hn, rfl⟩)
  refine ⟨C.bindN w nid (some C.w.heap.size) (.arr sz es), rfl, rfl, hx, ok_bind hok hg hf (fun n h => by cases h; exact Nat.le_refl _) (.inr ?_), ?_⟩
  · refine ⟨C.w.heap.size, carr, e, fr, ιset_same _ _ _, hr, Nat.le_trans (Nat.mul_le_mul_right sz hcap) hcs, hfr, hz, h1, fun i j el c he hj => ?_⟩
    obtain ⟨u, h2, h3⟩ := hc i j el c he hj
    exact ⟨u, h2, hx.vp h3⟩
  · refine ⟨live_known hlive, ⟨_, _, _, rfl⟩, fun sz' es' hd => ?_⟩
    have := live_inj hlive hd
    cases this
    unfold HS
    rw [show (C.bindN w nid (some C.w.heap.size) (.arr sz es)).ι nid = some C.w.heap.size from ιset_same _ _ _]
    exact ⟨cap, carr, e, fr, rfl, hcap, hr, hcs⟩

theorem Gives.after {C : Ctx} {us us' : Ups} {v : AV} {u : Value} {w' : World} (hd : allDead us) (h : Gives (C.kill us) us' v u w') : Gives C (us ++ us') v u w' := by
  obtain ⟨C', h1, h2, h3, h4, h5⟩ := h
  exact ⟨C', h1, by rw [h2, putUps_append]; rfl, (ext_kill C hd).trans h3, h4, h5⟩

theorem nth_putDead_fresh : ∀ {us : Ups} {h : List Ent} {nid : Nat}, (∀ e, (nid, e) ∉ us) → nth Ent.fresh h nid = .fresh → nth Ent.fresh (putUps us h) nid = .fresh
  | [], _, _, _, hf => hf
  | (i, e) :: us, h, nid, hn, hf => nth_putDead_fresh (us := us) (fun e' hm => hn e' (by simp [hm])) (by
      rw [nth_upd, if_neg (fun hc => hn e (by rw [hc.1]; simp))]
      exact hf)

theorem pureT_ne {C : Ctx} {look : Look} (hl : LookOk C look) {nid : Nat} (hf : nth Ent.fresh C.h nid = .fresh) {v : TV} {vs : List PV} {us : Ups} (h : pureT look v = some (vs, us)) : ∀ e, (nid, e) ∉ us := by
  intro e hm
  unfold pureT at h
  split at h
  · cases h; cases hm
  · cases h; cases hm
  · split at h
    · rename_i sz es hq
      cases h
      simp at hm
      obtain ⟨rfl, _⟩ := hm
      exact known_ne (live_known (hl _ _ hq)) hf rfl
    · cases h
  · cases h
theorem pureA_ne {C : Ctx} {look : Look} (hl : LookOk C look) {nid : Nat} (hf : nth Ent.fresh C.h nid = .fresh) {v : AV} {vs : List PV} {us : Ups} (h : pureA look v = some (vs, us)) : ∀ e, (nid, e) ∉ us := by
  unfold pureA at h
  split at h
  · exact pureT_ne hl hf h
  · cases h; intro e hm; cases hm
  · intro e hm
    obtain ⟨w, y, z, h1, h2⟩ := pureTs_from h _ hm
    exact pureT_ne hl hf h1 e h2
  · cases h

theorem alloc_sound {C : Ctx} (hok : Ok C) {P : Program} {nid : Nat} (hf : nth Ent.fresh C.h nid = .fresh) (hn : nid < C.h.length) {t : TypeId} {cs : List PV} (h : zeroCells P t = some cs) :
    ∃ u w', (Instr.alloc t true (.tuple #[])).run P C.w = .ok u w' ∧ Gives C [(nid, .blk (.box (cs.map AV.p)))] (.t (.ptr nid 0)) u w' := by
  obtain ⟨z, hz, ha⟩ := zeroCells_sound h C.w C.O
  refine ⟨.pointer (some ⟨C.w.heap.size, 0, none⟩), C.w.alloc (.cells z.cells t), by simp [Instr.alloc, hz, newVar, newRow], gives_box hok hf hn rfl (all2_map ha) fun x hx => ?_⟩
  obtain ⟨j, hj⟩ := List.mem_iff_getElem?.1 hx
  have hjl : j < cs.length := by rw [ha.length]; exact (List.getElem?_eq_some_iff.1 hj).1
  obtain ⟨y, hy, hp⟩ := ha.get j cs[j] (by simp [hjl])
  rw [hj] at hy; cases hy
  exact VP.oneCell hp

theorem box_sound {C : Ctx} (hok : Ok C) {P : Program} {nid : Nat} (hf : nth Ent.fresh C.h nid = .fresh) (hn : nid < C.h.length) {t : TypeId} {v : AV} {u : Value} (hv : VA C v u) (h : aggOrOne v = true) :
    ∃ u' w', (Instr.box t u).run P C.w = .ok u' w' ∧ Gives C [(nid, .blk (.box (cellsA v)))] (.t (.ptr nid 0)) u' w' := by
  obtain ⟨h1, h2⟩ := cellsA_sound h hv
  exact ⟨.pointer (some ⟨C.w.heap.size, 0, none⟩), C.w.alloc (.cells u.cells t), by simp [Instr.box, newVar, newRow], gives_box hok hf hn rfl h1 h2⟩

theorem foldl_set (off : Nat) : ∀ (vs : List Value) (k : Nat) (cs : Array Value), (vs.zipIdx k).foldl (fun cs (x : Value × Nat) => cs.setIfInBounds (off + x.2) x.1) cs =
    (lay cs.toList (off + k) vs).toArray
  | [], k, cs => by
    have hlaynil : ∀ (cs : List Value) (o : Nat), lay cs o [] = cs := by
      intro cs
      induction cs with
      | nil => intro o; cases o <;> simp [lay, lay.go]
      | cons c cs ih => intro o; cases o with
        | zero => simp [lay, lay.go]
        | succ o => simp [lay, ih o]
    simp [hlaynil]
  | v :: vs, k, cs => by
    rw [List.zipIdx_cons, List.foldl_cons, foldl_set off vs (k + 1)]
    congr 1
    have hlay : ∀ (l : List Value) (o : Nat), lay (l.set o v) (o + 1) vs = lay l o (v :: vs) := by
      intro l
      induction l with
      | nil => intro o; cases o <;> rfl
      | cons c l ih => intro o; cases o with
        | zero => simp [lay, lay.go]
        | succ o => simp [lay, ih o]
    simp only [Array.toList_setIfInBounds]
    rw [← Nat.add_assoc, hlay]

theorem lay_go_eq {α : Type} : ∀ (cs vs : List α), vs.length ≤ cs.length → lay.go cs vs = vs ++ cs.drop vs.length
  | cs, [], _ => by simp [lay.go]
  | [], v :: vs, h => by simp at h
  | c :: cs, v :: vs, h => by
    simp only [lay.go, List.cons_append, List.length_cons, List.drop_succ_cons]
    rw [lay_go_eq cs vs (by simpa using h)]

theorem lay_eq {α : Type} : ∀ (pre mid vs : List α), vs.length ≤ mid.length → lay (pre ++ mid) pre.length vs = pre ++ (vs ++ mid.drop vs.length)
  | [], mid, vs, h => by
    rw [List.nil_append, List.nil_append]
    cases mid <;> simp only [List.length_nil, lay] <;> exact lay_go_eq _ _ h
  | p :: pre, mid, vs, h => by
    simp only [List.cons_append, List.length_cons, lay]
    rw [lay_eq pre mid vs h]

theorem fillSeq_eq {pl : Nat → Option (Nat × Nat)} {look : Look} {ev : Operand → AV} : ∀ {parts : List (Nat × Operand)} {pre mid cs : List PV} {us : Ups}, fillSeq pl look ev pre.length parts = some (cs, us) → mid.length = cs.length →
    fillA pl look ev (pre ++ mid) parts = some (pre ++ cs, us)
  | [], pre, mid, cs, us, h, hl => by
    simp only [fillSeq] at h
    cases h
    have : mid = [] := List.length_eq_zero_iff.1 hl
    subst this
    rfl
  | (i, x) :: rest, pre, mid, cs, us, h, hl => by
    simp only [fillSeq] at h
    split at h
    · rename_i off size vs u h1 h2
      split at h
      · rename_i hc
        simp only [Bool.and_eq_true] at hc
        have e1 := Nat.eq_of_beq_eq_true hc.1
        have e2 := Nat.eq_of_beq_eq_true hc.2
        subst e1
        split at h
        · rename_i r us' h3
          cases h
          simp only [List.length_append] at hl
          simp only [fillA, h1, h2]
          rw [if_pos (by simp only [List.length_append, Bool.and_eq_true]; exact ⟨hc.2, Nat.ble_eq_true_of_le (by omega)⟩)]
          rw [lay_eq pre mid vs (by omega)]
          have := fillSeq_eq (pre := pre ++ vs) (mid := mid.drop vs.length) (by rw [List.length_append, e2]; exact h3) (by simp; omega)
          rw [List.append_assoc] at this
          rw [this]
          simp
        · cases h
      · cases h
    · cases h

theorem fillX_eq {pl : Nat → Option (Nat × Nat)} {look : Look} {ev : Operand → AV} {z : List PV} {parts : List (Nat × Operand)} {r : List PV × Ups} (h : fillX pl look ev z parts = some r) : fillA pl look ev z parts = some r := by
  unfold fillX at h
  split at h
  · rename_i cs us hs
    cases hb : Nat.beq cs.length z.length with
    | true =>
      rw [hb] at h
      cases h
      exact fillSeq_eq (pre := []) (mid := z) hs (Nat.eq_of_beq_eq_true hb).symm
    | false => rw [hb] at h; exact h
  · exact h

theorem fillA_sound {C : Ctx} (hok : Ok C) {look : Look} (hl : LookOk C look) {pl : Nat → Option (Nat × Nat)} {ev : Operand → AV} {ρ : Operand → Value} (hρ : ∀ x, VA C (ev x) (ρ x)) :
    ∀ {parts : List (Nat × Operand)} {cells : List PV} {out : List PV} {us : Ups}, fillA pl look ev cells parts = some (out, us) →
      allDead us ∧ (∀ nid, nth Ent.fresh C.h nid = .fresh → ∀ e, (nid, e) ∉ us) ∧ ∀ K, allDead K → (∀ x ∈ us, x ∈ K) → ∀ carr : Array Value, All2 (C.kill K).P cells carr.toList →
        ∃ o : Array Value, Instr.fill pl carr (parts.map fun (i, x) => (i, ρ x)) = some o ∧ All2 (C.kill K).P out o.toList
  | [], cells, out, us, h => by
    simp only [fillA] at h; cases h
    exact ⟨fun _ h => (by cases h), fun _ _ _ h => (by cases h), fun K _ _ carr ha => ⟨carr, rfl, ha⟩⟩
  | (i, x) :: rest, cells, out, us, h => by
    simp only [fillA] at h
    split at h
    · rename_i off size vs u hpl hpu
      split at h
      · rename_i hcond
        simp only [Bool.and_eq_true] at hcond
        have hsz : vs.length = size := Nat.eq_of_beq_eq_true hcond.1
        have hfit : off + size ≤ cells.length := Nat.le_of_ble_eq_true hcond.2
        split at h
        · rename_i r us' hr
          cases h
          obtain ⟨d1, n1, r1⟩ := fillA_sound hok hl hρ hr
          have d0 := pureA_dead hpu
          refine ⟨fun y hy => ?_, fun nid hf e hm => ?_, fun K hK hin carr ha => ?_⟩
          · rcases List.mem_append.1 hy with hy | hy
            · exact d0 y hy
            · exact d1 y hy
          · rcases List.mem_append.1 hm with hm | hm
            · exact pureA_ne hl hf hpu e hm
            · exact n1 nid hf e hm
          · have hp := pureA_sound hok hl (hρ x) hpu hK (fun y hy => hin y (by simp [hy]))
            have hlen := hp.length
            have hlc := ha.length
            obtain ⟨o, ho1, ho2⟩ := r1 K hK (fun y hy => hin y (by simp [hy])) (lay carr.toList off (ρ x).cells.toList).toArray (by
              refine All2.of_get (by simp only [List.toList_toArray]; rw [lay_length, lay_length]; exact hlc) fun j a b hj hb => ?_
              simp only [List.toList_toArray] at hb
              rw [lay_get _ _ _ _ (by omega)] at hj
              rw [lay_get _ _ _ _ (by omega)] at hb
              split at hj
              · rw [if_pos (by omega)] at hb
                obtain ⟨y, hy, hyp⟩ := hp.get _ _ hj
                rw [hb] at hy; cases hy; exact hyp
              · rw [if_neg (by omega)] at hb
                obtain ⟨y, hy, hyp⟩ := ha.get _ _ hj
                rw [hb] at hy; cases hy; exact hyp)
            refine ⟨o, ?_, ho2⟩
            have hs1 : (ρ x).cells.size = size := by simpa [hsz] using hlen.symm
            have hs2 : ¬ (off + (ρ x).cells.size > carr.size) := by
              have : carr.size = cells.length := by simpa using hlc.symm
              omega
            simp only [List.map_cons, Instr.fill, hpl]
            have := foldl_set off (ρ x).cells.toList 0 carr
            simp only [Nat.add_zero] at this
            have hz : ((ρ x).cells.zipIdx.foldl (fun cs (x : Value × Nat) => cs.setIfInBounds (off + x.2) x.1) carr) = (lay carr.toList off (ρ x).cells.toList).toArray := by
              rw [← this, ← Array.foldl_toList, Array.toList_zipIdx]
            simp only [hs1, ne_eq, not_true_eq_false, decide_false, Bool.false_or, decide_eq_true_eq]
            rw [if_neg (by rw [← hs1]; exact hs2)]
            rw [← ho1]
            congr 1
        · cases h
      · cases h
    · cases h

theorem tvsA_sound {C : Ctx} {v : AV} {u : Value} {vs : List TV} (hv : VA C v u) (h : tvsA v = some vs) : All2 (VT C) vs u.cells.toList := by
  unfold tvsA at h
  split at h
  · cases h
    have hv' : C.P _ u := hv
    rw [hv'.cells]
    exact ⟨hv, trivial⟩
  · cases h
    obtain ⟨us, rfl, ha⟩ := hv
    show All2 (VT C) (List.map TV.p _) us.toList
    have key : ∀ (cs : List PV) (xs : List Value), All2 C.P cs xs → All2 (VT C) (cs.map TV.p) xs := by
      intro cs
      induction cs with
      | nil => intro xs h; cases xs with
        | nil => trivial
        | cons => exact h.elim
      | cons c cs ih => intro xs h; cases xs with
        | nil => exact h.elim
        | cons x xs => exact ⟨h.1, ih xs h.2⟩
    exact key _ _ ha
  · cases h
    obtain ⟨hk, ⟨a, l, c, rfl⟩, hv2⟩ := hv
    exact ⟨⟨hk, ⟨a, l, c, rfl⟩, hv2⟩, trivial⟩
  · cases h
    obtain ⟨us, rfl, ha⟩ := hv
    exact ha
  · cases h

theorem fillO_sound {C : Ctx} {pl : Nat → Option (Nat × Nat)} {ev : Operand → AV} {ρ : Operand → Value} (hρ : ∀ x, VA C (ev x) (ρ x)) :
    ∀ {parts : List (Nat × Operand)} {cells out : List TV}, fillO pl ev cells parts = some out → ∀ carr : Array Value, All2 (VT C) cells carr.toList →
        ∃ o : Array Value, Instr.fill pl carr (parts.map fun (i, x) => (i, ρ x)) = some o ∧ All2 (VT C) out o.toList
  | [], cells, out, h, carr, ha => by
    simp only [fillO] at h; cases h
    exact ⟨carr, rfl, ha⟩
  | (i, x) :: rest, cells, out, h, carr, ha => by
    simp only [fillO] at h
    split at h
    · rename_i off size vs hpl hpu
      split at h
      · rename_i hcond
        simp only [Bool.and_eq_true] at hcond
        have hsz : vs.length = size := Nat.eq_of_beq_eq_true hcond.1
        have hfit : off + size ≤ cells.length := Nat.le_of_ble_eq_true hcond.2
        have hp := tvsA_sound (hρ x) hpu
        have hlen := hp.length
        have hlc := ha.length
        obtain ⟨o, ho1, ho2⟩ := fillO_sound hρ h (lay carr.toList off (ρ x).cells.toList).toArray (by
          refine All2.of_get (by simp only [List.toList_toArray]; rw [lay_length, lay_length]; exact hlc) fun j a b hj hb => ?_
          simp only [List.toList_toArray] at hb
          rw [lay_get _ _ _ _ (by omega)] at hj
          rw [lay_get _ _ _ _ (by omega)] at hb
          split at hj
          · rw [if_pos (by omega)] at hb
            obtain ⟨y, hy, hyp⟩ := hp.get _ _ hj
            rw [hb] at hy; cases hy; exact hyp
          · rw [if_neg (by omega)] at hb
            obtain ⟨y, hy, hyp⟩ := ha.get _ _ hj
            rw [hb] at hy; cases hy; exact hyp)
        refine ⟨o, ?_, ho2⟩
        have hs1 : (ρ x).cells.size = size := by simpa [hsz] using hlen.symm
        have hs2 : ¬ (off + (ρ x).cells.size > carr.size) := by
          have : carr.size = cells.length := by simpa using hlc.symm
          omega
        simp only [List.map_cons, Instr.fill, hpl]
        have := foldl_set off (ρ x).cells.toList 0 carr
        simp only [Nat.add_zero] at this
        have hz : ((ρ x).cells.zipIdx.foldl (fun cs (x : Value × Nat) => cs.setIfInBounds (off + x.2) x.1) carr) = (lay carr.toList off (ρ x).cells.toList).toArray := by
          rw [← this, ← Array.foldl_toList, Array.toList_zipIdx]
        simp only [hs1, ne_eq, not_true_eq_false, decide_false, Bool.false_or, decide_eq_true_eq]
        rw [if_neg (by rw [← hs1]; exact hs2)]
        rw [← ho1]
        congr 1
      · cases h
    · cases h

end Go.Proofs.YtpnpdkgdgfkpfaaGreatDoor.Vm
