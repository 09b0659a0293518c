/- The abstract machine, part 14: operations against the model's: the rest, and all together. -/
import Derived.Test.YtbacfgghneknjaaVm13
namespace Go.Proofs.Ytbacfgghneknjaa.Vm
set_option linter.unusedVariables false
set_option linter.unusedSimpArgs false

theorem appendK_sound {C : Ctx} (hok : Ok C) {P : Program} {look : Look} (hl : LookOk C look) {nid : Nat} (hf : nth Ent.fresh C.h nid = .fresh) (hn : nid < C.h.length) {ts : List TypeId} {ty : TypeId} {s x v : AV} {us : Ups} {ux uy : Value}
    (hs : VA C s ux) (hx : VA C x uy) (h : appendK P look nid ts s x two = some (v, us)) : ∃ u w', (Builtin.append_ ts.toArray ty #[ux, uy]).run P C.w = .ok u w' ∧ Gives C us v u w' := by
  unfold appendK at h
  split at h
  · rename_i t tx
    split at h
    · rename_i e e' ht htx
      split at h
      · rename_i sz' es' z hes hz
        split at h
        · rename_i hcond
          simp only [Bool.and_eq_true, Bool.or_eq_true] at hcond
          obtain ⟨⟨⟨c1, c2⟩, c3⟩, c4⟩ := hcond
          have hs1 : 1 ≤ P.cellsOf e := Nat.le_of_ble_eq_true c2
          have hb1 : 1 ≤ P.bytesOf e := Nat.le_of_ble_eq_true c3
          have hz0 : z.length = P.cellsOf e := Nat.eq_of_beq_eq_true c4
          have hszor : sz' = P.cellsOf e ∨ es' = [] := c1.elim (fun h => .inl (Nat.eq_of_beq_eq_true h).symm) (fun h => .inr (by simpa using h))
          obtain ⟨news, hsrc, hrow⟩ := esOf_src hok hl hx hes hszor htx
          have hnil : ∀ C' : Ctx, Ok C' → C'.w = C.w → nth Ent.fresh C'.h nid = .fresh → nid < C'.h.length → (RowOf C' (P.cellsOf e) es' news) → es'.length * P.bytesOf e ≤ room →
              ∃ u w', (Builtin.append_ #[t, tx] ty #[.slice none 0 0, uy]).run P C.w = .ok u w' ∧ Gives C' [(nid, .blk (.arr (P.cellsOf e) es'))] (.t (.hsl nid)) u w' := by
            intro C' hok' hw hf' hn' hrow' hrm
            by_cases hne : es' = []
            · subst hne
              obtain ⟨i, hi, _, hci⟩ := run_bytes_z hz
              refine ⟨.slice none 0 0, C.w, ?_, ?_⟩
              · have hn0 : news = [] := by have := hrow.len; simpa using this
                subst hn0
                rcases hsrc.kind with ⟨e3, hk⟩ | hk
                · have hcl := hsrc.cells
                  have hln := hsrc.len C.w
                  rw [hci] at hcl
                  simp at hln
                  simp only [List.length_nil] at hcl
                  simp [Builtin.append_, run_underlying ht, run_underlying hk, sizeOf, typeInfo, hi, hln, hcl]
                · rw [htx] at hk; cases hk
              · have hg : Grow C'.w C.w := by rw [hw]; exact Grow.refl _
                have hx' := ext_bind C' hg (B := .arr (P.cellsOf e) []) (x := none) hf' (fun n h => by cases h)
                have hlive : live (upd (.blk (.arr (P.cellsOf e) [])) C'.h nid) nid (.arr (P.cellsOf e) []) := live_upd.2 (.inl ⟨rfl, hn', rfl⟩)
                refine ⟨C'.bindN C.w nid none (.arr (P.cellsOf e) []), rfl, rfl, hx', ok_bind hok' hg hf' (fun n h => by cases h) (.inl ⟨ιset_same _ _ _, rfl⟩), ?_⟩
                refine ⟨live_known hlive, ⟨_, _, _, rfl⟩, fun sz2 es2 hd => ?_⟩
                have := live_inj hlive hd
                cases this
                unfold HS
                rw [show (C'.bindN C.w nid none (.arr (P.cellsOf e) [])).ι nid = none from ιset_same _ _ _]
                exact ⟨rfl, rfl⟩
            · have hlen : 0 < es'.length := List.length_pos_iff.2 hne
              have hsrc' : Src P (P.cellsOf e) tx uy es'.length news C'.w := by rw [hw]; exact hsrc
              have := append_grow (C := C') hok' (nid := nid) hf' hn' (ty := ty) ht hz hz0 hs1 hb1 (base := none) (sCap := 0) (es := []) (es' := es') (olds := []) (x := uy) (RowOf.nil _ _) hrow'
                (run_firstCells_none _ _ _ _ _) hsrc' (by simpa using hlen) (by simpa using hrm)
              rw [hw] at this
              simpa using this
          split at h
          · obtain ⟨hrm, h⟩ := ctl_some h
            obtain ⟨rfl, rfl⟩ := two_inj h
            cases hs
            exact hnil C hok rfl hf hn hrow (by simpa using hrm)
          · rename_i id
            split at h
            · rename_i sz0 es hb
              split at h
              · rename_i hsz0
                obtain ⟨hrm, h⟩ := ctl_some h
                obtain ⟨rfl, rfl⟩ := two_inj h
                simp only [decide_eq_true_eq] at hrm
                have hszz : sz0 = P.cellsOf e := Nat.eq_of_beq_eq_true hsz0
                subst hszz
                have hlv := hl _ _ hb
                obtain ⟨hk, _, hv⟩ := hs
                have hS := hv _ _ hlv
                unfold HS at hS
                have hdd : allDead [(id, Ent.dead)] := fun y hy => by simp at hy; rw [hy]
                have hne : id ≠ nid := known_ne hk hf
                have hf' : nth Ent.fresh (C.kill [(id, .dead)]).h nid = .fresh := nth_putDead_fresh (us := [(id, .dead)]) (fun e' hm => hne (by simp at hm; exact hm.1.symm)) hf
                have hn' : nid < (C.kill [(id, .dead)]).h.length := by show nid < (putUps [(id, .dead)] C.h).length; rw [length_putUps]; exact hn
                have hkx := ext_kill C hdd
                have hkk := ok_kill hok hdd
                have hrow' : RowOf (C.kill [(id, .dead)]) (P.cellsOf e) es' news := ⟨hrow.len, hrow.one, hrow.el, fun i j e c hi hj => by obtain ⟨u, h1, h2⟩ := hrow.rel i j e c hi hj; exact ⟨u, h1, hkx.vp h2⟩⟩
                rcases hok.blk id _ hlv with ⟨hni, hne0⟩ | ⟨n, carr, e2, fr, hi, hr, hsz, hfr, hel, hone, hc⟩
                · subst hne0
                  rw [hni] at hS
                  obtain ⟨_, rfl⟩ := hS
                  obtain ⟨u, w', h1, h2⟩ := hnil (C.kill [(id, .dead)]) hkk rfl hf' hn' hrow' (by simpa using hrm)
                  exact ⟨u, w', h1, Gives.after (us := [(id, .dead)]) hdd (by simpa using h2)⟩
                · rw [hi] at hS
                  obtain ⟨cap, carr2, e3, fr3, rfl, hle, hr2, hcap⟩ := hS
                  rw [hr] at hr2; cases hr2
                  by_cases hfit : es.length + es'.length ≤ cap
                  · exact append_room hok hf hn (ty := ty) ht hz hlv hi hr hcap hrow hsrc hfit
                  · have hold : RowOf (C.kill [(id, .dead)]) (P.cellsOf e) es (carr.toList.take (es.length * P.cellsOf e)) := by
                      refine ⟨by simp; omega, fun u hu => hone u (List.mem_of_mem_take hu), hel, fun i j el c he hj => ?_⟩
                      have hj2 : j < P.cellsOf e := by
                        have := hel el (List.mem_iff_getElem?.2 ⟨i, he⟩)
                        have h3 := (List.getElem?_eq_some_iff.1 hj).1
                        omega
                      have hlt := mul_lt_of (List.getElem?_eq_some_iff.1 he).1 hj2
                      obtain ⟨u, h1, h2⟩ := hc i j el c he hj
                      refine ⟨u, ?_, hkx.vp h2⟩
                      rw [List.getElem?_take, if_pos hlt]
                      simpa using h1
                    have hfc : (Builtin.firstCells (P.cellsOf e) es.length (.slice (some ⟨n, 0, none⟩) es.length cap)).run P C.w.drew = .ok (carr.toList.take (es.length * P.cellsOf e)).toArray C.w.drew :=
                      run_firstCells_some C.w.drew (P.cellsOf e) es.length ⟨n, 0, none⟩ es.length cap _ hold.len (fun j u hj => by
                        rw [List.getElem?_take] at hj
                        split at hj
                        · rw [addr_add, World.cell?_drew, show 0 + j = j by omega, cells_get carr n _ hr]
                          simpa using hj
                        · cases hj)
                    obtain ⟨u, w', h1, h2⟩ := append_grow (C := C.kill [(id, .dead)]) hkk (nid := nid) hf' hn' (ty := ty) ht hz hz0 hs1 hb1 hold hrow' hfc hsrc (by omega) hrm
                    exact ⟨u, w', h1, Gives.after (us := [(id, .dead)]) hdd h2⟩
              · cases h
            · cases h
          · cases h
        · cases h
      · cases h
    · cases h
  · cases h

/-! ### Strings and bytes -/
theorem str_size (s : List UInt8) : (ByteArray.mk s.toArray).size = s.length := by show s.toArray.size = _; simp

theorem lenOf_sound {C : Ctx} {look : Look} (hl : LookOk C look) {x : AV} {u : Value} {n : Nat} (hx : VA C x u) (h : lenOf look x = some n) :
    ∃ a c, u = .slice a n c := by
  unfold lenOf at h
  split at h
  · cases h
    cases hx with
    | sl0 _ a cap => exact ⟨_, _, rfl⟩
    | sl _ _ b off cap f => exact ⟨_, _, rfl⟩
  · cases h; cases hx; exact ⟨_, _, rfl⟩
  · split at h
    · rename_i sz es hb
      cases h
      obtain ⟨_, _, hv⟩ := hx
      have := hv _ _ (hl _ _ hb)
      unfold HS at this
      split at this
      · obtain ⟨cap, _, _, _, rfl, _⟩ := this; exact ⟨_, _, rfl⟩
      · obtain ⟨rfl, rfl⟩ := this; exact ⟨_, _, rfl⟩
    · cases h
  · cases h

theorem allInts_sound {C : Ctx} {k : IntKind} : ∀ {l : List AV} {r : List Int} {us : List Value}, allInts k l = some r → All2 (VA C) l us → us = r.map fun n => Value.int k n
  | [], _, [], h, _ => by simp only [allInts] at h; cases h; rfl
  | [], _, _ :: _, _, h => h.elim
  | _ :: _, _, [], _, h => h.elim
  | a :: l, r, u :: us, h, ha => by
    unfold allInts at h
    split at h
    · rename_i he; cases he
    · rename_i k' n l' he
      cases he
      split at h
      · rename_i r' hr
        split at h
        · rename_i hk
          cases h
          obtain ⟨h1, h2⟩ := ha
          cases h1
          cases kindEq_iff _ _ hk
          rw [allInts_sound hr h2]; rfl
        · cases h
      · cases h
    · cases h

theorem minA_sound {P : Program} {w : World} {k : IntKind} : ∀ (l : List Int) (x : Int), ((l.map fun n => Value.int k n).foldlM Builtin.min2 (.int k x) : Sem Value).run P w = .ok (.int k (minA l x)) w
  | [], x => rfl
  | y :: l, x => by
    simp only [List.map_cons, List.foldlM_cons, Sem.run_bind, minA]
    have : (Builtin.min2 (.int k x) (.int k y)).run P w = .ok (.int k (if y < x then y else x)) w := rfl
    rw [this, Result.andThen_ok]
    exact minA_sound l _
theorem maxA_sound {P : Program} {w : World} {k : IntKind} : ∀ (l : List Int) (x : Int), ((l.map fun n => Value.int k n).foldlM Builtin.max2 (.int k x) : Sem Value).run P w = .ok (.int k (maxA l x)) w
  | [], x => rfl
  | y :: l, x => by
    simp only [List.map_cons, List.foldlM_cons, Sem.run_bind, maxA]
    have : (Builtin.max2 (.int k x) (.int k y)).run P w = .ok (.int k (if y > x then y else x)) w := rfl
    rw [this, Result.andThen_ok]
    exact maxA_sound l _

def wrapV (r : Sem Value) : Sem Next := do pure (Next.value (← r))

theorem builtinK_sound {C : Ctx} (hok : Ok C) {P : Program} {look : Look} (hl : LookOk C look) {nid : Nat} {b : Builtin} (hn : b = .append → nth Ent.fresh C.h nid = .fresh ∧ nid < C.h.length) {ts : List TypeId} {ty : TypeId} {cts : Array Bool} {args : List AV} {us : Ups} {v : AV} {uargs : List Value}
    (ha : All2 (VA C) args uargs) (h : builtinK P look nid b ts args two = some (v, us)) : ∃ u w', (builtin b ts.toArray ty cts uargs.toArray).run P C.w = .ok (.value u) w' ∧ Gives C us v u w' := by
  unfold builtinK at h
  split at h
  · -- len
    rename_i x
    cases uargs with
    | nil => exact ha.elim
    | cons ux l =>
      cases l with
      | cons => exact ha.2.elim
      | nil =>
        have hx := ha.1
        split at h
        · rename_i t ts'
          split at h
          · rename_i n e ht
            obtain ⟨rfl, rfl⟩ := two_inj h
            exact ⟨.int .i64 n, C.w, by simp [builtin, Builtin.len_, run_underlying ht, goInt], Gives.same hok (.int _ _)⟩
          · rename_i e ht
            split at h
            · rename_i n hlen
              obtain ⟨rfl, rfl⟩ := two_inj h
              obtain ⟨a, c, rfl⟩ := lenOf_sound hl hx hlen
              exact ⟨.int .i64 n, C.w, by simp [builtin, Builtin.len_, run_underlying ht, goInt], Gives.same hok (.int _ _)⟩
            · cases h
          · rename_i ht
            split at h
            · rename_i s
              obtain ⟨rfl, rfl⟩ := two_inj h
              cases hx
              exact ⟨.int .i64 s.length, C.w, by simp [builtin, Builtin.len_, run_underlying ht, goInt, str_size], Gives.same hok (.int _ _)⟩
            · cases h
          · cases h
        · cases h
  · rename_i k a l
    split at h
    · rename_i r hr
      obtain ⟨rfl, rfl⟩ := two_inj h
      cases uargs with
      | nil => exact ha.elim
      | cons u us' =>
        have h1 := ha.1
        cases h1
        have := allInts_sound hr ha.2
        subst this
        exact ⟨_, C.w, by simp only [builtin, Builtin.min_, List.toList_toArray, Sem.run_bind, minA_sound, Result.andThen_ok, Sem.run_pure], Gives.same hok (.int _ _)⟩
    · cases h
  · rename_i k a l
    split at h
    · rename_i r hr
      obtain ⟨rfl, rfl⟩ := two_inj h
      cases uargs with
      | nil => exact ha.elim
      | cons u us' =>
        have h1 := ha.1
        cases h1
        have := allInts_sound hr ha.2
        subst this
        exact ⟨_, C.w, by simp only [builtin, Builtin.max_, List.toList_toArray, Sem.run_bind, maxA_sound, Result.andThen_ok, Sem.run_pure], Gives.same hok (.int _ _)⟩
    · cases h
  · rename_i s x
    cases uargs with
    | nil => exact ha.elim
    | cons u1 l =>
      cases l with
      | nil => exact ha.2.elim
      | cons u2 l =>
        cases l with
        | cons => exact ha.2.2.elim
        | nil =>
          obtain ⟨hf, hnn⟩ := hn rfl
          obtain ⟨u, w', h1, h2⟩ := appendK_sound hok hl hf hnn (ty := ty) ha.1 ha.2.1 h
          exact ⟨u, w', by simp [builtin, h1], h2⟩
  · cases h

end Go.Proofs.Ytbacfgghneknjaa.Vm
