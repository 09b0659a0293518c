/- The abstract machine, part 8: operations against the model's: memory. -/
import Derived.Test.YtpnpdkgdgfkpfaaGreatDoorVm7
namespace Go.Proofs.YtpnpdkgdgfkpfaaGreatDoor.Vm
set_option linter.unusedVariables false
set_option linter.unusedSimpArgs false

theorem canP_sound {w : World} {O : Nat → Prop} {s : Sh} {v : PV} {u : Value} (h : okP s v = true) (hv : VP w O v u) : VP w O (canP s v) u := by
  cases s <;> cases v <;> simp only [okP] at h <;> first | (cases h; done) | skip
  · cases kindEq_iff _ _ h; exact hv
  · exact hv
  · exact hv
  · exact hv
  · cases hv; exact .sl0 _ _ _
  · rename_i sz sz' es
    have : sz = sz' := Nat.eq_of_beq_eq_true h
    subst this
    exact hv

theorem okCs_length : ∀ {ss : List Sh} {cs : List PV}, okCs ss cs = true → ss.length = cs.length
  | [], [], _ => rfl
  | [], _ :: _, h => by cases h
  | _ :: _, [], h => by cases h
  | _ :: ss, _ :: cs, h => by
    simp only [okCs, Bool.and_eq_true] at h
    simp [okCs_length h.2]

theorem canCs_sound {w : World} {O : Nat → Prop} : ∀ {ss : List Sh} {cs ds : List PV} {us : List Value} {i : Nat}, okCs ss ds = true → (∀ j, j < ds.length → nth .nilp cs (i + j) = nth .nilp ds j) →
    All2 (VP w O) ds us → All2 (VP w O) (canCs ss cs i) us
  | [], cs, [], us, i, _, _, h => by cases us with | nil => trivial | cons => exact h.elim
  | [], _, _ :: _, _, _, h, _, _ => by cases h
  | _ :: _, _, [], _, _, h, _, _ => by cases h
  | s :: ss, cs, d :: ds, us, i, h, hj, hu => by
    cases us with
    | nil => exact hu.elim
    | cons u us =>
      simp only [okCs, Bool.and_eq_true] at h
      have h0 := hj 0 (by simp)
      simp only [Nat.add_zero, nth] at h0
      refine ⟨by rw [h0]; exact canP_sound h.1 hu.1, canCs_sound h.2 (fun j hl => ?_) hu.2⟩
      have := hj (j + 1) (by simp; omega)
      rw [show i + 1 + j = i + (j + 1) by omega, this]
      rfl

section ty
variable {P : Program} {w : World} {t : TypeId}
theorem tyOk_info (h : tyOk P t = true) : ∃ i, P.info? t = some i := by
  unfold tyOk Program.underlying at h
  cases hi : P.info? t with
  | none => rw [hi] at h; cases h
  | some i => exact ⟨i, rfl⟩
theorem run_sizeOf (h : tyOk P t = true) : (sizeOf t).run P w = .ok (P.cellsOf t) w := by
  obtain ⟨i, hi⟩ := tyOk_info h
  simp [sizeOf, typeInfo, Program.cellsOf, hi]
theorem run_isAgg (h : tyOk P t = true) : (isAgg t).run P w = .ok (isAggT P t) w := by
  unfold tyOk at h
  obtain ⟨d, hd⟩ := Option.isSome_iff_exists.1 h
  simp only [isAgg, isAggT, Sem.run_bind, run_underlying hd, Result.andThen_ok, hd]
  cases d <;> rfl
end ty

theorem lay_go_length {α : Type} : ∀ (cs vs : List α), (lay.go cs vs).length = cs.length
  | [], [] => rfl
  | [], _ :: _ => rfl
  | _ :: _, [] => rfl
  | _ :: cs, _ :: vs => by simp [lay.go, lay_go_length cs vs]
theorem lay_length {α : Type} : ∀ (cs : List α) (o : Nat) (vs : List α), (lay cs o vs).length = cs.length
  | cs, 0, vs => by simp only [lay]; exact lay_go_length cs vs
  | [], _ + 1, _ => rfl
  | _ :: cs, o + 1, vs => by simp [lay, lay_length cs o vs]
theorem lay_go_get {α : Type} : ∀ (cs vs : List α) (j : Nat), vs.length ≤ cs.length → (lay.go cs vs)[j]? = if j < vs.length then vs[j]? else cs[j]?
  | cs, [], j, _ => by simp [lay.go]
  | [], _ :: _, _, h => by simp at h
  | c :: cs, v :: vs, 0, _ => by simp [lay.go]
  | c :: cs, v :: vs, j + 1, h => by
    have := lay_go_get cs vs j (by simpa using h)
    simpa [lay.go] using this
theorem lay_get {α : Type} : ∀ (cs : List α) (o : Nat) (vs : List α) (j : Nat), o + vs.length ≤ cs.length → (lay cs o vs)[j]? = if o ≤ j ∧ j < o + vs.length then vs[j - o]? else cs[j]?
  | cs, 0, vs, j, h => by
    simp only [lay]
    rw [lay_go_get cs vs j (by omega)]
    simp
  | [], o + 1, vs, j, h => by simp at h
  | c :: cs, o + 1, vs, 0, h => by simp [lay]
  | c :: cs, o + 1, vs, j + 1, h => by
    have := lay_get cs o vs j (by simp at h; omega)
    simp only [lay, List.getElem?_cons_succ, this]
    by_cases hc : o ≤ j ∧ j < o + vs.length
    · rw [if_pos hc, if_pos (by omega)]
      congr 1
      omega
    · rw [if_neg hc, if_neg (by omega)]

theorem get_splice (l vs : List Value) (o j : Nat) (h : o + vs.length ≤ l.length) : (l.take o ++ vs ++ l.drop (o + vs.length))[j]? = if o ≤ j ∧ j < o + vs.length then vs[j - o]? else l[j]? := by
  simp only [List.getElem?_append, List.length_append, List.length_take, List.getElem?_take, List.getElem?_drop]
  have : min o l.length = o := by omega
  rw [this]
  by_cases h1 : j < o
  · have h2 : ¬ (o ≤ j ∧ j < o + vs.length) := by omega
    rw [if_pos (by omega), if_pos h1, if_pos h1, if_neg h2]
  · by_cases h2 : j < o + vs.length
    · rw [if_pos h2, if_neg h1, if_pos (by omega)]
    · rw [if_neg h2, if_neg (by omega)]
      congr 1
      omega

theorem run_storeCells_fr {P : Program} (g o : Nat) (t : TypeId) (fr : Nat × Nat) : ∀ (vs : List Value) (i : Nat) (cur : Array Value) (w : World), w.heap[g]? = some (.cells cur t fr) → noFr cur fr → o + i + vs.length ≤ cur.size → (∀ v ∈ vs, v.oneCell' = true) →
    (storeCells ⟨g, o, none⟩ vs i).run P w = .ok () (w.setRow g (cur.toList.take (o + i) ++ vs ++ cur.toList.drop (o + i + vs.length)).toArray)
  | [], i, cur, w, hg, _, _, _ => by
    simp only [storeCells, List.append_nil, List.length_nil, Nat.add_zero, List.take_append_drop, Array.toArray_toList]
    rw [setRow_self w g cur t fr hg]
    rfl
  | v :: rest, i, cur, w, hg, hf, hl, h1 => by
    have hi : o + i < cur.size := by simp at hl; omega
    have hadd : (⟨g, o, none⟩ : Addr).add i = ⟨g, o + i, none⟩ := by unfold Addr.add; split <;> simp_all
    have hcell : w.cell? ⟨g, o + i, none⟩ = some cur[o + i] := by simp [World.cell?, hg, hi]
    have hfro : w.frozen? ⟨g, o + i, none⟩ = false := by
      have := hf.off (o + i) hi
      simp [World.frozen?, hg]
      omega
    have hst : (store ((⟨g, o, none⟩ : Addr).add i) v).run P w = .ok () (w.setRow g (cur.setIfInBounds (o + i) v)) := by
      rw [hadd, run_store P w _ v _ (h1 v (by simp)), hcell]
      simp [hfro, setCell_eq_setRow w g (o + i) cur t fr v hg]
    have ih := run_storeCells_fr (P := P) g o t fr rest (i + 1) (cur.setIfInBounds (o + i) v) (w.setRow g (cur.setIfInBounds (o + i) v)) (setRow_heap w g cur _ t _ hg) (hf.size (by simp)) (by simp at hl ⊢; omega) (fun x hx => h1 x (by simp [hx]))
    simp only [storeCells, Sem.run_bind, hst, Result.andThen_ok, ih, setRow_setRow]
    congr 3
    have := list_seg_step cur.toList (o + i) v rest (by simp at hl ⊢; omega)
    simp only [Array.toList_setIfInBounds]
    rw [show o + (i + 1) = o + i + 1 by omega, this]
    simp [Nat.add_assoc, Nat.add_comm, Nat.add_left_comm]

theorem addr_add (b o n : Nat) : (⟨b, o, none⟩ : Addr).add n = ⟨b, o + n, none⟩ := by unfold Addr.add; split <;> simp_all

theorem all2_map {C : Ctx} : ∀ {cs : List PV} {l : List Value}, All2 C.P cs l → All2 (VA C) (cs.map AV.p) l
  | [], [], _ => trivial
  | [], _ :: _, h => h.elim
  | _ :: _, [], h => h.elim
  | _ :: _, _ :: _, ⟨h1, h2⟩ => ⟨h1, all2_map h2⟩

theorem cellsA_sound {C : Ctx} {v : AV} {u : Value} (h : aggOrOne v = true) (hv : VA C v u) : All2 (VA C) (cellsA v) u.cells.toList ∧ ∀ x ∈ u.cells.toList, x.oneCell' = true := by
  have one : ∀ {v : AV} {u : Value}, VA C v u → u.cells = #[u] → u.oneCell' = true → cellsA v = [v] → All2 (VA C) (cellsA v) u.cells.toList ∧ ∀ x ∈ u.cells.toList, x.oneCell' = true := by
    intro v u hv hc ho he
    rw [hc, he]
    exact ⟨⟨hv, trivial⟩, by simpa using ho⟩
  cases v with
  | undef => cases h
  | no => cases h
  | t v =>
    cases v with
    | p v => exact one hv (VP.cells hv) (VP.oneCell hv) rfl
    | agg cs =>
      obtain ⟨us, rfl, ha⟩ := hv
      refine ⟨?_, ?_⟩
      · show All2 (VA C) (cs.map AV.p) us.toList
        exact all2_map ha
      · intro x hx
        obtain ⟨i, hi⟩ := List.mem_iff_getElem?.1 hx
        have hlt : i < cs.length := by rw [ha.length]; exact (List.getElem?_eq_some_iff.1 hi).1
        obtain ⟨y, hy, hp⟩ := ha.get i cs[i] (by simp [hlt])
        rw [show us.toList[i]? = some x from hi] at hy
        cases hy
        exact VP.oneCell hp
    | hsl id => obtain ⟨hk, ⟨a, l, c, rfl⟩, hv2⟩ := hv; exact one ⟨hk, ⟨a, l, c, rfl⟩, hv2⟩ rfl rfl rfl
    | ptr id off => obtain ⟨hk, n, rfl, hv2⟩ := hv; exact one ⟨hk, n, rfl, hv2⟩ rfl rfl rfl
  | vptr cs => obtain ⟨b, off, rfl, h2⟩ := hv; exact one ⟨b, off, rfl, h2⟩ rfl rfl rfl
  | hptr id i o => cases h
  | fn f caps => obtain ⟨us, rfl, h2⟩ := hv; exact one ⟨us, rfl, h2⟩ rfl rfl rfl
  | tup vs => cases h
  | nptr id => cases h
  | aggo vs =>
    obtain ⟨us, rfl, ha⟩ := hv
    have key : ∀ (vs : List TV) (xs : List Value), All2 (VT C) vs xs → vs.all oneT = true → All2 (VA C) (vs.map AV.t) xs ∧ ∀ x ∈ xs, x.oneCell' = true := by
      intro vs
      induction vs with
      | nil => intro xs ha _; cases xs with
        | nil => exact ⟨trivial, fun _ h => by cases h⟩
        | cons => exact ha.elim
      | cons v vs ih => intro xs ha ho; cases xs with
        | nil => exact ha.elim
        | cons x xs =>
          simp only [List.all_cons, Bool.and_eq_true] at ho
          obtain ⟨r1, r2⟩ := ih xs ha.2 ho.2
          refine ⟨⟨ha.1, r1⟩, fun y hy => ?_⟩
          rcases List.mem_cons.1 hy with rfl | hy
          · exact (vt_one ho.1 ha.1).1
          · exact r2 y hy
    exact key vs us.toList ha h

theorem loadBox_sound {C : Ctx} (hok : Ok C) {look : Look} (hl : LookOk C look) : ∀ {cs : List AV} {xs : List Value} {vs : List PV} {ds : List AV} {us : Ups}, loadBox look cs = some (vs, ds, us) →
    All2 (VA C) cs xs → (∀ x ∈ xs, x.oneCell' = true) → allDead us ∧ ∀ K, allDead K → (∀ x ∈ us, x ∈ K) → All2 (C.kill K).P vs xs ∧ All2 (VA (C.kill K)) ds xs ∧ ds.length = cs.length
  | [], [], _, _, _, h, _, _ => by
    simp only [loadBox] at h; cases h
    exact ⟨fun _ h => (by cases h), fun _ _ _ => ⟨trivial, trivial, rfl⟩⟩
  | [], _ :: _, _, _, _, _, h, _ => h.elim
  | _ :: _, [], _, _, _, _, h, _ => h.elim
  | c :: cs, x :: xs, vs, ds, us, h, ha, h1 => by
    simp only [loadBox] at h
    split at h
    · rename_i v u vs' ds' us' hp hb
      cases h
      obtain ⟨d1, r1⟩ := loadBox_sound hok hl hb ha.2 (fun x hx => h1 x (by simp [hx]))
      have d0 := pureA_dead hp
      refine ⟨fun y hy => ?_, fun K hK hin => ?_⟩
      · rcases List.mem_append.1 hy with hy | hy
        · exact d0 y hy
        · exact d1 y hy
      · obtain ⟨r2, r3, r4⟩ := r1 K hK (fun y hy => hin y (by simp [hy]))
        have hp2 := pureA_sound hok hl ha.1 hp hK (fun y hy => hin y (by simp [hy]))
        have hx := h1 x (by simp)
        have hcx : x.cells = #[x] := by cases x <;> first | rfl | (simp [Value.oneCell'] at hx)
        rw [hcx] at hp2
        refine ⟨⟨hp2.1, r2⟩, ⟨?_, r3⟩, by simp [r4]⟩
        split
        · exact (ext_kill C hK).va ha.1
        · exact hp2.1
    · cases h

theorem pureT_live_ne {C : Ctx} {look : Look} (hl : LookOk C look) {id : Nat} {cs : List AV} (hb : live C.h id (.box cs)) {v : TV} {x : List PV} {u : Ups} (h : pureT look v = some (x, u)) : (id, Ent.dead) ∉ u := by
  intro hm
  unfold pureT at h
  split at h
  · cases h; cases hm
  · cases h; cases hm
  · rename_i id2
    split at h
    · rename_i sz es hq
      cases h
      simp at hm
      subst hm
      have := live_inj hb (hl _ _ hq)
      cases this
    · cases h
  · cases h

theorem live_box_ne {C : Ctx} {look : Look} (hl : LookOk C look) {id : Nat} {cs : List AV} (hb : live C.h id (.box cs)) : ∀ {as : List AV} {vs ds us}, loadBox look as = some (vs, ds, us) → (id, Ent.dead) ∉ us
  | [], _, _, _, h => by simp only [loadBox] at h; cases h; simp
  | c :: as, vs, ds, us, h => by
    simp only [loadBox] at h
    split at h
    · rename_i v u vs' ds' us' hp hr
      cases h
      intro hm
      rcases List.mem_append.1 hm with hm | hm
      · unfold pureA at hp
        split at hp
        · exact pureT_live_ne hl hb hp hm
        · cases hp; cases hm
        · obtain ⟨w, y, z, h1, h2⟩ := pureTs_from hp _ hm
          exact pureT_live_ne hl hb h1 h2
        · cases hp
      · exact live_box_ne hl hb hr hm
    · cases h

theorem live_put_ne : ∀ {us : Ups} {h : List Ent} {id : Nat} {b : Blk}, (∀ e, (id, e) ∉ us) → live h id b → live (putUps us h) id b
  | [], _, _, _, _, hl => hl
  | (i, e) :: us, h, id, b, hn, hl => live_put_ne (us := us) (fun e' hm => hn e' (by simp [hm])) (by
      unfold live at hl ⊢
      rw [nth_upd, if_neg (fun hc => hn e (by rw [hc.1]; simp))]
      exact hl)

theorem take_drop_all2 {α : Type} {R : α → Value → Prop} {cs : List α} {carr : Array Value} (hs : carr.size = cs.length) (h : ∀ (j : Nat) c, cs[j]? = some c → ∃ u, carr[j]? = some u ∧ R c u) (o n : Nat) :
    All2 R (cut cs o n) ((carr.toList.drop o).take n) := by
  have h0 : All2 R cs carr.toList := by
    refine All2.of_get (by simpa using hs.symm) fun i a b ha hb => ?_
    obtain ⟨u, h1, h2⟩ := h i a ha
    have hb' : carr[i]? = some b := by simpa using hb
    rw [h1] at hb'
    cases hb'
    exact h2
  exact (h0.drop o).take n

theorem run_cells {P : Program} {w : World} {n o k : Nat} {carr : Array Value} {e : TypeId} {fr : Nat × Nat} (hr : w.heap[n]? = some (.cells carr e fr)) (hk : ((carr.toList.drop o).take k).length = k) :
    (loadCells ⟨n, o, none⟩ k).run P w = .ok ((carr.toList.drop o).take k).toArray w := by
  have := run_loadCells_list (P := P) w ⟨n, o, none⟩ ((carr.toList.drop o).take k) (fun j v hv => by
    rw [addr_add, cells_get carr n _ hr]
    rw [List.getElem?_take, List.getElem?_drop] at hv
    split at hv
    · simpa using hv
    · cases hv)
  rw [hk] at this
  exact this

theorem sure_ptr {P : Program} {w : World} (a : Addr) : (Instr.sureAddr (.pointer (some a))).run P w = .ok a w := rfl

theorem run_loadAt_agg {P : Program} {w : World} {t : TypeId} (ht : tyOk P t = true) (hg : isAggT P t = true) {a : Addr} {vs : List Value} (h : (loadCells a (P.cellsOf t)).run P w = .ok vs.toArray w) :
    (Instr.loadAt t (.pointer (some a))).run P w = .ok (.agg vs.toArray) w := by
  simp [Instr.loadAt, loadVar, sure_ptr, run_isAgg ht, hg, run_sizeOf ht, h]
theorem run_loadAt_one {P : Program} {w : World} {t : TypeId} (ht : tyOk P t = true) (hg : isAggT P t = false) {a : Addr} {v : Value} (h : w.cell? a = some v) :
    (Instr.loadAt t (.pointer (some a))).run P w = .ok v w := by
  simp [Instr.loadAt, loadVar, sure_ptr, run_isAgg ht, hg, h]

theorem oneOrAgg_some {P : Program} {t : TypeId} {cs : List PV} {v : AV} (h : oneOrAgg P t cs = some v) : tyOk P t = true ∧ ((isAggT P t = true ∧ v = .t (.agg cs)) ∨ (isAggT P t = false ∧ ∃ c, cs = [c] ∧ v = .t (.p c))) := by
  unfold oneOrAgg at h
  split at h
  · rename_i h1
    refine ⟨h1, ?_⟩
    split at h
    · rename_i h2; cases h; exact .inl ⟨h2, rfl⟩
    · rename_i h2
      split at h
      · cases h; exact .inr ⟨by simpa using h2, _, rfl, rfl⟩
      · cases h
  · cases h

end Go.Proofs.YtpnpdkgdgfkpfaaGreatDoor.Vm
