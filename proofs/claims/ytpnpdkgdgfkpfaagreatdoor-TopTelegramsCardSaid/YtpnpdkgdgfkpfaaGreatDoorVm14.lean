/- The abstract machine, part 14: operations against the model's: the rest, and all together. -/
import Derived.Test.YtpnpdkgdgfkpfaaGreatDoorVm13
import Derived.Laws.IdiomStrings
import Derived.Laws.BytesArg
namespace Go.Proofs.YtpnpdkgdgfkpfaaGreatDoor.Vm
set_option linter.unusedVariables false
set_option linter.unusedSimpArgs false

theorem byteEs_row (C : Ctx) (s : List UInt8) : RowOf C 1 (byteEs s) (byteCells ⟨s.toArray⟩) where
  len := by rw [byteCells_length]; show s.toArray.size = _; simp [byteEs]
  one u hu := by obtain ⟨_, _, rfl⟩ := List.mem_map.1 hu; rfl
  el e he := by obtain ⟨_, _, rfl⟩ := List.mem_map.1 he; rfl
  rel i j e c he hj := by
    unfold byteEs at he
    rw [List.getElem?_map] at he
    obtain ⟨b, hb, rfl⟩ := Option.map_eq_some_iff.1 he
    cases j with
    | succ j => simp at hj
    | zero =>
      simp at hj
      subst hj
      refine ⟨.int .u8 b.toNat, ?_, .int _ _⟩
      unfold byteCells
      simp [hb]

theorem srcOf_src {C : Ctx} (hok : Ok C) {P : Program} {look : Look} (hl : LookOk C look) {x : AV} {ux : Value} (hx : VA C x ux) {e tx : TypeId} {sz' : Nat} {es : List (List PV)} (h : srcOf P look e tx x = some (sz', es)) (hsz : sz' = P.cellsOf e ∨ es = []) :
    ∃ cells, Src P (P.cellsOf e) tx ux es.length cells C.w ∧ RowOf C (P.cellsOf e) es cells := by
  unfold srcOf at h
  split at h
  · rename_i e' htx
    exact esOf_src hok hl hx h hsz htx
  · rename_i htx
    split at h
    · rename_i s
      cases hc : Nat.beq (P.cellsOf e) 1 with
      | false => rw [hc] at h; cases h
      | true =>
        rw [hc] at h
        cases h
        have h1 := Nat.eq_of_beq_eq_true hc
        rw [h1]
        cases hx
        have hS := Src.ofString (P := P) C.w htx ⟨s.toArray⟩
        have hl2 : (ByteArray.mk s.toArray).size = (byteEs s).length := by show s.toArray.size = _; simp [byteEs]
        rw [hl2] at hS
        exact ⟨_, hS, byteEs_row C s⟩
    · cases h
  · cases h

theorem appendK_sound {C : Ctx} (hok : Ok C) {P : Program} {look : Look} (hl : LookOk C look) {nid : Nat} (hf : nth Ent.fresh C.h nid = .fresh) (hn : nid < C.h.length) {ts : List TypeId} {ty : TypeId} {s x v : AV} {us : Ups} {ux uy : Value}
    (hs : VA C s ux) (hx : VA C x uy) (h : appendK P look nid ts s x two = some (v, us)) : ∃ u w', (Builtin.append_ ts.toArray ty #[ux, uy]).run P C.w = .ok u w' ∧ Gives C us v u w' := by
  unfold appendK at h
  split at h
  · rename_i t tx
    split at h
    · rename_i e ht
      split at h
      · rename_i sz' es' z hes hz
        split at h
        · rename_i hcond
          simp only [Bool.and_eq_true, Bool.or_eq_true] at hcond
          obtain ⟨⟨⟨c1, c2⟩, c3⟩, c4⟩ := hcond
          have hs1 : 1 ≤ P.cellsOf e := Nat.le_of_ble_eq_true c2
          have hb1 : 1 ≤ P.bytesOf e := Nat.le_of_ble_eq_true c3
          have hz0 : z.length = P.cellsOf e := Nat.eq_of_beq_eq_true c4
          have hszor : sz' = P.cellsOf e ∨ es' = [] := c1.elim (fun h => .inl (Nat.eq_of_beq_eq_true h).symm) (fun h => .inr (by simpa using h))
          obtain ⟨news, hsrc, hrow⟩ := srcOf_src hok hl hx hes hszor
          have hnil : ∀ C' : Ctx, Ok C' → C'.w = C.w → nth Ent.fresh C'.h nid = .fresh → nid < C'.h.length → (RowOf C' (P.cellsOf e) es' news) → es'.length * P.bytesOf e ≤ room →
              ∃ u w', (Builtin.append_ #[t, tx] ty #[.slice none 0 0, uy]).run P C.w = .ok u w' ∧ Gives C' [(nid, .blk (.arr (P.cellsOf e) es'))] (.t (.hsl nid)) u w' := by
            intro C' hok' hw hf' hn' hrow' hrm
            by_cases hne : es' = []
            · subst hne
              obtain ⟨i, hi, _, hci⟩ := run_bytes_z hz
              refine ⟨.slice none 0 0, C.w, ?_, ?_⟩
              · have hn0 : news = [] := by have := hrow.len; simpa using this
                subst hn0
                rcases hsrc.kind with ⟨e3, hk⟩ | hk
                · have hcl := hsrc.cells
                  have hln := hsrc.len C.w
                  rw [hci] at hcl
                  simp at hln
                  simp only [List.length_nil] at hcl
                  simp [Builtin.append_, run_underlying ht, run_underlying hk, sizeOf, typeInfo, hi, hln, hcl]
                · have hcl := hsrc.cells
                  have hln := hsrc.len C.w
                  rw [hci] at hcl
                  simp at hln
                  simp only [List.length_nil] at hcl
                  simp [Builtin.append_, run_underlying ht, run_underlying hk, sizeOf, typeInfo, hi, hln, hcl]
              · have hg : Grow C'.w C.w := by rw [hw]; exact Grow.refl _
                have hx' := ext_bind C' hg (B := .arr (P.cellsOf e) []) (x := none) hf' (fun n h => by cases h)
                have hlive : live (upd (.blk (.arr (P.cellsOf e) [])) C'.h nid) nid (.arr (P.cellsOf e) []) := live_upd.2 (.inl ⟨rfl, hn', rfl⟩)
                refine ⟨C'.bindN C.w nid none (.arr (P.cellsOf e) []), rfl, rfl, hx', ok_bind hok' hg hf' (fun n h => by cases h) (.inl ⟨ιset_same _ _ _, rfl⟩), ?_⟩
                refine ⟨live_known hlive, ⟨_, _, _, rfl⟩, fun sz2 es2 hd => ?_⟩
                have := live_inj hlive hd
                cases this
                unfold HS
                rw [show (C'.bindN C.w nid none (.arr (P.cellsOf e) [])).ι nid = none from ιset_same _ _ _]
                exact ⟨rfl, rfl⟩
            · have hlen : 0 < es'.length := List.length_pos_iff.2 hne
              have hsrc' : Src P (P.cellsOf e) tx uy es'.length news C'.w := by rw [hw]; exact hsrc
              have := append_grow (C := C') hok' (nid := nid) hf' hn' (ty := ty) ht hz hz0 hs1 hb1 (base := none) (sCap := 0) (es := []) (es' := es') (olds := []) (x := uy) (RowOf.nil _ _) hrow'
                (run_firstCells_none _ _ _ _ _) hsrc' (by simpa using hlen) (by simpa using hrm)
              rw [hw] at this
              simpa using this
          split at h
          · obtain ⟨hrm, h⟩ := ctl_some h
            obtain ⟨rfl, rfl⟩ := two_inj h
            cases hs
            exact hnil C hok rfl hf hn hrow (by simpa using hrm)
          · rename_i id
            split at h
            · rename_i sz0 es hb
              split at h
              · rename_i hsz0
                obtain ⟨hrm, h⟩ := ctl_some h
                obtain ⟨rfl, rfl⟩ := two_inj h
                simp only [decide_eq_true_eq] at hrm
                have hszz : sz0 = P.cellsOf e := Nat.eq_of_beq_eq_true hsz0
                subst hszz
                have hlv := hl _ _ hb
                obtain ⟨hk, _, hv⟩ := hs
                have hS := hv _ _ hlv
                unfold HS at hS
                have hdd : allDead [(id, Ent.dead)] := fun y hy => by simp at hy; rw [hy]
                have hne : id ≠ nid := known_ne hk hf
                have hf' : nth Ent.fresh (C.kill [(id, .dead)]).h nid = .fresh := nth_putDead_fresh (us := [(id, .dead)]) (fun e' hm => hne (by simp at hm; exact hm.1.symm)) hf
                have hn' : nid < (C.kill [(id, .dead)]).h.length := by show nid < (putUps [(id, .dead)] C.h).length; rw [length_putUps]; exact hn
                have hkx := ext_kill C hdd
                have hkk := ok_kill hok hdd
                have hrow' : RowOf (C.kill [(id, .dead)]) (P.cellsOf e) es' news := ⟨hrow.len, hrow.one, hrow.el, fun i j e c hi hj => by obtain ⟨u, h1, h2⟩ := hrow.rel i j e c hi hj; exact ⟨u, h1, hkx.vp h2⟩⟩
                rcases hok.blk id _ hlv with ⟨hni, hne0⟩ | ⟨n, carr, e2, fr, hi, hr, hsz, hfr, hel, hone, hc⟩
                · subst hne0
                  rw [hni] at hS
                  obtain ⟨_, rfl⟩ := hS
                  obtain ⟨u, w', h1, h2⟩ := hnil (C.kill [(id, .dead)]) hkk rfl hf' hn' hrow' (by simpa using hrm)
                  exact ⟨u, w', h1, Gives.after (us := [(id, .dead)]) hdd (by simpa using h2)⟩
                · rw [hi] at hS
                  obtain ⟨cap, carr2, e3, fr3, rfl, hle, hr2, hcap⟩ := hS
                  rw [hr] at hr2; cases hr2
                  by_cases hfit : es.length + es'.length ≤ cap
                  · exact append_room hok hf hn (ty := ty) ht hz hlv hi hr hcap hrow hsrc hfit
                  · have hold : RowOf (C.kill [(id, .dead)]) (P.cellsOf e) es (carr.toList.take (es.length * P.cellsOf e)) := by
                      refine ⟨by simp; omega, fun u hu => hone u (List.mem_of_mem_take hu), hel, fun i j el c he hj => ?_⟩
                      have hj2 : j < P.cellsOf e := by
                        have := hel el (List.mem_iff_getElem?.2 ⟨i, he⟩)
                        have h3 := (List.getElem?_eq_some_iff.1 hj).1
                        omega
                      have hlt := mul_lt_of (List.getElem?_eq_some_iff.1 he).1 hj2
                      obtain ⟨u, h1, h2⟩ := hc i j el c he hj
                      refine ⟨u, ?_, hkx.vp h2⟩
                      rw [List.getElem?_take, if_pos hlt]
                      simpa using h1
                    have hfc : (Builtin.firstCells (P.cellsOf e) es.length (.slice (some ⟨n, 0, none⟩) es.length cap)).run P C.w.drew = .ok (carr.toList.take (es.length * P.cellsOf e)).toArray C.w.drew :=
                      run_firstCells_some C.w.drew (P.cellsOf e) es.length ⟨n, 0, none⟩ es.length cap _ hold.len (fun j u hj => by
                        rw [List.getElem?_take] at hj
                        split at hj
                        · rw [addr_add, World.cell?_drew, show 0 + j = j by omega, cells_get carr n _ hr]
                          simpa using hj
                        · cases hj)
                    obtain ⟨u, w', h1, h2⟩ := append_grow (C := C.kill [(id, .dead)]) hkk (nid := nid) hf' hn' (ty := ty) ht hz hz0 hs1 hb1 hold hrow' hfc hsrc (by omega) hrm
                    exact ⟨u, w', h1, Gives.after (us := [(id, .dead)]) hdd h2⟩
              · cases h
            · cases h
          · cases h
        · cases h
      · cases h
    · cases h
  · cases h

theorem str_size (s : List UInt8) : (ByteArray.mk s.toArray).size = s.length := by show s.toArray.size = _; simp

theorem lenOf_sound {C : Ctx} {look : Look} (hl : LookOk C look) {x : AV} {u : Value} {n : Nat} (hx : VA C x u) (h : lenOf look x = some n) :
    ∃ a c, u = .slice a n c := by
  unfold lenOf at h
  split at h
  · cases h
    cases hx with
    | sl0 _ a cap => exact ⟨_, _, rfl⟩
    | sl _ _ b off cap f => exact ⟨_, _, rfl⟩
  · cases h; cases hx; exact ⟨_, _, rfl⟩
  · split at h
    · rename_i sz es hb
      cases h
      obtain ⟨_, _, hv⟩ := hx
      have := hv _ _ (hl _ _ hb)
      unfold HS at this
      split at this
      · obtain ⟨cap, _, _, _, rfl, _⟩ := this; exact ⟨_, _, rfl⟩
      · obtain ⟨rfl, rfl⟩ := this; exact ⟨_, _, rfl⟩
    · cases h
  · cases h

theorem allInts_sound {C : Ctx} {k : IntKind} : ∀ {l : List AV} {r : List Int} {us : List Value}, allInts k l = some r → All2 (VA C) l us → us = r.map fun n => Value.int k n
  | [], _, [], h, _ => by simp only [allInts] at h; cases h; rfl
  | [], _, _ :: _, _, h => h.elim
  | _ :: _, _, [], _, h => h.elim
  | a :: l, r, u :: us, h, ha => by
    unfold allInts at h
    split at h
    · rename_i he; cases he
    · rename_i k' n l' he
      cases he
      split at h
      · rename_i r' hr
        split at h
        · rename_i hk
          cases h
          obtain ⟨h1, h2⟩ := ha
          cases h1
          cases kindEq_iff _ _ hk
          rw [allInts_sound hr h2]; rfl
        · cases h
      · cases h
    · cases h

theorem minA_sound {P : Program} {w : World} {k : IntKind} : ∀ (l : List Int) (x : Int), ((l.map fun n => Value.int k n).foldlM Builtin.min2 (.int k x) : Sem Value).run P w = .ok (.int k (minA l x)) w
  | [], x => rfl
  | y :: l, x => by
    simp only [List.map_cons, List.foldlM_cons, Sem.run_bind, minA]
    have : (Builtin.min2 (.int k x) (.int k y)).run P w = .ok (.int k (if y < x then y else x)) w := rfl
    rw [this, Result.andThen_ok]
    exact minA_sound l _
theorem maxA_sound {P : Program} {w : World} {k : IntKind} : ∀ (l : List Int) (x : Int), ((l.map fun n => Value.int k n).foldlM Builtin.max2 (.int k x) : Sem Value).run P w = .ok (.int k (maxA l x)) w
  | [], x => rfl
  | y :: l, x => by
    simp only [List.map_cons, List.foldlM_cons, Sem.run_bind, maxA]
    have : (Builtin.max2 (.int k x) (.int k y)).run P w = .ok (.int k (if y > x then y else x)) w := rfl
    rw [this, Result.andThen_ok]
    exact maxA_sound l _

theorem isByte_spec {o : Option TypeDesc} (h : isByte o = true) : o = some (.int .u8) := by
  unfold isByte at h
  split at h
  · rfl
  · cases h

theorem byteOk_spec {e : List PV} (h : byteOk e = true) : ∃ n, e = [.int .u8 n] := by
  unfold byteOk at h
  split at h
  · exact ⟨_, rfl⟩
  · cases h

theorem toBytes_nums : ∀ (es : List (List PV)), toBytes es = (es.map fun e => intAt e 0).map fun n => UInt8.ofNat n.toNat := fun es => by
  unfold toBytes
  rw [List.map_map]; rfl

theorem run_mark {P : Program} {w : World} {n : Nat} {carr : Array Value} {e : TypeId} {fr : Nat × Nat} (hr : w.heap[n]? = some (.cells carr e fr)) :
    (markStringish ⟨n, 0, none⟩).run P w = .ok () (w.freeze ⟨n, carr.size, none⟩ 1) := by
  have : w.shape? n = some (e, carr.size) := by simp [World.shape?, hr]
  simp [markStringish, this]

theorem freeze_other (w : World) (n k b : Nat) (h : b ≠ n) : (w.freeze ⟨n, k, none⟩ 1).heap[b]? = w.heap[b]? := by
  unfold World.freeze
  rw [if_neg (by decide)]
  show (w.heap.modify n _)[b]? = _
  rw [Array.getElem?_modify]
  rw [if_neg (fun e => h e.symm)]
theorem freeze_same {w : World} {n : Nat} {carr : Array Value} {e : TypeId} {fr : Nat × Nat} (hr : w.heap[n]? = some (.cells carr e fr)) (hf : noFr carr fr) :
    ∃ fr', (w.freeze ⟨n, carr.size, none⟩ 1).heap[n]? = some (.cells carr e fr') ∧ noFr carr fr' := by
  obtain ⟨lo, hi⟩ := fr
  unfold World.freeze
  rw [if_neg (by decide)]
  refine ⟨if lo == hi then (carr.size, carr.size + 1) else (min lo carr.size, max hi (carr.size + 1)), ?_, ?_⟩
  · show (w.heap.modify n _)[n]? = _
    rw [Array.getElem?_modify, if_pos rfl, hr]
    rfl
  · by_cases h : lo = hi
    · subst h; simp only [beq_self_eq_true, if_true]; exact .inr (Nat.le_refl _)
    · have hb : (lo == hi) = false := by simpa using h
      rw [hb]
      rcases hf with h1 | h1
      · exact absurd h1 h
      · refine .inr ?_
        simp only [Bool.false_eq_true, if_false]
        have h1 : carr.size ≤ lo := h1
        omega
theorem freeze_size (w : World) (n k : Nat) : (w.freeze ⟨n, k, none⟩ 1).heap.size = w.heap.size := by
  unfold World.freeze
  rw [if_neg (by decide)]
  show (w.heap.modify n _).size = _
  simp
theorem freeze_rest (w : World) (n k : Nat) : (w.freeze ⟨n, k, none⟩ 1).tape = w.tape ∧ (w.freeze ⟨n, k, none⟩ 1).os = w.os ∧ (w.freeze ⟨n, k, none⟩ 1).output = w.output := by
  unfold World.freeze
  rw [if_neg (by decide)]
  exact ⟨rfl, rfl, rfl⟩

theorem ext_mark {C : Ctx} {id n : Nat} {carr : Array Value} {e : TypeId} {fr : Nat × Nat} {B : Blk} (hl : live C.h id B) (hi : C.ι id = some n) (hr : C.w.heap[n]? = some (.cells carr e fr)) (hf : noFr carr fr) :
    Ext C (C.setW (C.w.freeze ⟨n, carr.size, none⟩ 1)) where
  tape := (freeze_rest _ _ _).1
  os := (freeze_rest _ _ _).2.1
  out := (freeze_rest _ _ _).2.2
  size := Nat.le_of_eq (freeze_size _ _ _).symm
  X := rfl
  keep b _ ho := freeze_other _ _ _ _ fun e => ho (e ▸ ⟨id, B, hl, hi⟩)
  own _ _ h := h
  ent id' h := ⟨h, fun b hb => ⟨b, hb, rfl, like_refl _⟩⟩
  row b c2 e2 f2 _ h := by
    by_cases hb : b = n
    · subst hb
      rw [hr] at h; cases h
      obtain ⟨fr', h1, _⟩ := freeze_same hr hf
      exact ⟨_, fr', h1, rfl⟩
    · exact ⟨c2, f2, (freeze_other _ _ _ _ hb).trans h, rfl⟩

theorem convertK_sound {C : Ctx} (hok : Ok C) {P : Program} {look : Look} (hl : LookOk C look) {nid : Nat} (hf : nth Ent.fresh C.h nid = .fresh) (hn : nid < C.h.length) {src dst : TypeId} {x v : AV} {us : Ups} {ux : Value}
    (hx : VA C x ux) (h : convertK P look nid src dst x two = some (v, us)) : ∃ u w', (convert src dst ux).run P C.w = .ok u w' ∧ Gives C us v u w' := by
  unfold convertK at h
  split at h
  · rename_i k0 k k1 n h1 h2
    obtain ⟨rfl, rfl⟩ := two_inj h
    cases hx
    exact ⟨_, C.w, by simp only [convert, Sem.run_bind, run_underlying h1, run_underlying h2, Result.andThen_ok]; rfl, Gives.same hok (VP.int _ _)⟩
  · rename_i s h1 h2
    obtain ⟨rfl, rfl⟩ := two_inj h
    have hx' := hx
    cases hx
    exact ⟨_, C.w, by simp only [convert, Sem.run_bind, run_underlying h1, run_underlying h2, Result.andThen_ok]; rfl, Gives.same hok hx'⟩
  · rename_i e s h1 h2
    split at h
    · rename_i he
      obtain ⟨rfl, rfl⟩ := two_inj h
      cases hx
      have he := isByte_spec he
      have hrun := run_bytes_of_string (P := P) C.w src dst e ⟨s.toArray⟩ h1 h2 he
      have hsz : (ByteArray.mk s.toArray).size = (byteEs s).length := by show s.toArray.size = _; simp [byteEs]
      have hge : (byteEs s).length ≤ grownCap C.w (ByteArray.mk s.toArray).size 0 e := by rw [← hsz]; exact grownCap_ge _ _ _ _
      have hrl : (bytesRow ⟨s.toArray⟩ (grownCap C.w (ByteArray.mk s.toArray).size 0 e)).size = grownCap C.w (ByteArray.mk s.toArray).size 0 e := by
        have : (ByteArray.mk s.toArray).size = s.length := by show s.toArray.size = _; simp
        simp [bytesRow]
        rw [hsz] at hge ⊢
        simp [byteEs] at hge ⊢
        omega
      refine ⟨_, _, hrun, ?_⟩
      rw [hsz]
      refine gives_arr hok hf hn (Grow.drewAlloc C.w _) (heap_drewAlloc C.w _) (.inr (Nat.le_refl _)) _ (by rw [← hsz]; exact (by rw [hsz]; rw [hsz] at hge; exact hge)) (by rw [Nat.mul_one]; rw [← hsz]; exact Nat.le_of_eq hrl.symm) (byteEs_row C s).el (fun y hy => ?_) (fun i j el c hi hj => ?_)
      · unfold bytesRow at hy
        simp only [Array.toList_append, List.mem_append, Array.toList_map, List.mem_map, Array.toList_replicate, List.mem_replicate] at hy
        rcases hy with ⟨b, _, rfl⟩ | ⟨_, rfl⟩ <;> rfl
      · obtain ⟨u, g1, g2⟩ := (byteEs_row C s).rel i j el c hi hj
        refine ⟨u, ?_, g2⟩
        unfold bytesRow
        rw [Array.getElem?_append]
        have hlt := (List.getElem?_eq_some_iff.1 g1).1
        unfold byteCells at g1 hlt
        rw [if_pos (by simpa using hlt)]
        simpa using g1
    · cases h
  · rename_i e0 e id h1 h2
    split at h
    · rename_i he
      simp only [Bool.and_eq_true] at he
      obtain ⟨hsd, he⟩ := he
      have he := isByte_spec he
      split at h
      · rename_i sz a es hb
        obtain ⟨rfl, rfl⟩ := two_inj h
        have hlv := hl _ _ hb
        have hx0 := hx
        obtain ⟨hk, _, hv⟩ := hx
        have hS := hv _ _ hlv
        unfold HS at hS
        rcases hok.blk id _ hlv with ⟨hni, hne⟩ | ⟨n, carr, e2, fr, hi, hr, hsz, hfr, hel, hone, hc⟩
        · cases hne
        · rw [hi] at hS
          obtain ⟨cap, carr2, e3, fr3, rfl, hle, hr2, hcap⟩ := hS
          rw [hr] at hr2; cases hr2
          have hext := ext_mark hlv hi hr hfr
          refine ⟨.slice (some ⟨n, 0, none⟩) (a :: es).length cap, C.w.freeze ⟨n, carr.size, none⟩ 1, ?_, C.setW (C.w.freeze ⟨n, carr.size, none⟩ 1), rfl, rfl, hext, ?_, hext.va (v := .t (.hsl id)) hx0⟩
          · simp [convert, run_underlying h1, run_underlying h2, run_underlying he, hsd, run_mark hr]
          · refine hok.step hext (fun id' b hl' => ?_) (fun id1 id2 m b b' => hok.inj id1 id2 m b b')
            by_cases hid : C.ι id' = some n
            · have := hok.inj id' id n b _ hl' hlv hid hi
              subst this
              have hbb := live_inj hl' hlv
              subst hbb
              obtain ⟨fr', g1, g2⟩ := freeze_same hr hfr
              refine .inl (.inr ⟨n, carr, e2, fr', hi, g1, hsz, g2, hel, hone, fun i j e c he hj => ?_⟩)
              obtain ⟨u, k1, k2⟩ := hc i j e c he hj
              exact ⟨u, k1, hext.vp k2⟩
            · exact .inr ⟨hl', rfl, fun m hm => freeze_other _ _ _ _ fun e => hid (by rw [hm, e])⟩
      · cases h
    · cases h
  · rename_i e h1 h2
    split at h
    · rename_i he
      have he := isByte_spec he
      split at h
      · rename_i sz es hes
        split at h
        · rename_i hsz
          obtain ⟨hall, h⟩ := ctl_some h
          unfold bytesOk at hall
          obtain ⟨rfl, rfl⟩ := two_inj h
          obtain ⟨ao, cap, cells, rfl, hrow, hnil, hcell, hao⟩ := esOf_row hok hl hx hes
          have hcs : cells = (es.map fun e => intAt e 0).map (Value.int .u8) := by
            rcases hrow with rfl | hrow
            · rw [hnil rfl]; rfl
            · by_cases hne : es = []
              · subst hne; rw [hnil rfl]; rfl
              · have hs1 : sz = 1 := by
                  simp only [Bool.or_eq_true] at hsz
                  rcases hsz with h | h
                  · exact Nat.eq_of_beq_eq_true h
                  · exact absurd (by simpa using h) hne
                subst hs1
                apply List.ext_getElem?
                intro i
                have hlen := hrow.len
                rw [Nat.mul_one] at hlen
                rw [List.getElem?_map, List.getElem?_map]
                rcases Nat.lt_or_ge i es.length with hi | hi
                · obtain ⟨n, hn'⟩ := byteOk_spec (List.all_eq_true.1 hall _ (List.getElem_mem hi))
                  obtain ⟨u, k1, k2⟩ := hrow.rel i 0 es[i] (.int .u8 n) (List.getElem?_eq_getElem hi) (by rw [hn']; rfl)
                  simp only [Nat.mul_one, Nat.add_zero] at k1
                  cases k2
                  rw [k1, List.getElem?_eq_getElem hi]
                  simp only [Option.map_some]
                  rw [hn']
                  rfl
                · rw [List.getElem?_eq_none (by omega), List.getElem?_eq_none hi]
                  rfl
          have hres : (⟨((es.map fun e => intAt e 0).map fun n => UInt8.ofNat n.toNat).toArray⟩ : ByteArray) = ⟨(toBytes es).toArray⟩ := by rw [toBytes_nums]
          refine ⟨.string ⟨(toBytes es).toArray⟩, C.w, ?_, Gives.same hok (.str _)⟩
          rw [run_convert_bytes_string C.w src dst e ao es.length cap h1 he h2]
          cases ao with
          | none =>
            have : es = [] := by
              by_cases hne : es = []
              · exact hne
              · obtain ⟨b, off, hb⟩ := hao hne; cases hb
            subst this
            rfl
          | some a =>
            have hla : (loadCells a es.length).run P C.w = .ok ((es.map fun e => intAt e 0).map (Value.int .u8)).toArray C.w := by
              have := run_loadCells_list (P := P) C.w a cells (fun j u hj => by
                obtain ⟨b, off, hb, hc⟩ := hcell j u hj
                cases hb
                rw [addr_add]; exact hc)
              rw [hcs] at this
              simpa using this
            rw [run_bytesToString C.w a es.length cap _ hla, foldl_push_bytes]
            rw [← hres]
            simp only [Result.ok.injEq, Value.string.injEq, and_true]
            apply ByteArray.ext
            simp
        · cases h
      · cases h
    · cases h
  · cases h

theorem builtinK_sound {C : Ctx} (hok : Ok C) {P : Program} {look : Look} (hl : LookOk C look) {nid : Nat} {b : Builtin} (hn : b = .append → nth Ent.fresh C.h nid = .fresh ∧ nid < C.h.length) {ts : List TypeId} {ty : TypeId} {cts : Array Bool} {args : List AV} {us : Ups} {v : AV} {uargs : List Value}
    (ha : All2 (VA C) args uargs) (h : builtinK P look nid b ts args two = some (v, us)) : ∃ u w', (builtin b ts.toArray ty cts uargs.toArray).run P C.w = .ok (.value u) w' ∧ Gives C us v u w' := by
  unfold builtinK at h
  split at h
  · -- len
    rename_i x
    cases uargs with
    | nil => exact ha.elim
    | cons ux l =>
      cases l with
      | cons => exact ha.2.elim
      | nil =>
        have hx := ha.1
        split at h
        · rename_i t ts'
          split at h
          · rename_i n e ht
            obtain ⟨rfl, rfl⟩ := two_inj h
            exact ⟨.int .i64 n, C.w, by simp [builtin, Builtin.len_, run_underlying ht, goInt], Gives.same hok (.int _ _)⟩
          · rename_i e ht
            split at h
            · rename_i n hlen
              obtain ⟨rfl, rfl⟩ := two_inj h
              obtain ⟨a, c, rfl⟩ := lenOf_sound hl hx hlen
              exact ⟨.int .i64 n, C.w, by simp [builtin, Builtin.len_, run_underlying ht, goInt], Gives.same hok (.int _ _)⟩
            · cases h
          · rename_i ht
            split at h
            · rename_i s
              obtain ⟨rfl, rfl⟩ := two_inj h
              cases hx
              exact ⟨.int .i64 s.length, C.w, by simp [builtin, Builtin.len_, run_underlying ht, goInt, str_size], Gives.same hok (.int _ _)⟩
            · cases h
          · cases h
        · cases h
  · rename_i k a l
    split at h
    · rename_i r hr
      obtain ⟨rfl, rfl⟩ := two_inj h
      cases uargs with
      | nil => exact ha.elim
      | cons u us' =>
        have h1 := ha.1
        cases h1
        have := allInts_sound hr ha.2
        subst this
        exact ⟨_, C.w, by simp only [builtin, Builtin.min_, List.toList_toArray, Sem.run_bind, minA_sound, Result.andThen_ok, Sem.run_pure], Gives.same hok (.int _ _)⟩
    · cases h
  · rename_i k a l
    split at h
    · rename_i r hr
      obtain ⟨rfl, rfl⟩ := two_inj h
      cases uargs with
      | nil => exact ha.elim
      | cons u us' =>
        have h1 := ha.1
        cases h1
        have := allInts_sound hr ha.2
        subst this
        exact ⟨_, C.w, by simp only [builtin, Builtin.max_, List.toList_toArray, Sem.run_bind, maxA_sound, Result.andThen_ok, Sem.run_pure], Gives.same hok (.int _ _)⟩
    · cases h
  · rename_i s x
    cases uargs with
    | nil => exact ha.elim
    | cons u1 l =>
      cases l with
      | nil => exact ha.2.elim
      | cons u2 l =>
        cases l with
        | cons => exact ha.2.2.elim
        | nil =>
          obtain ⟨hf, hnn⟩ := hn rfl
          obtain ⟨u, w', h1, h2⟩ := appendK_sound hok hl hf hnn (ty := ty) ha.1 ha.2.1 h
          exact ⟨u, w', by simp [builtin, h1], h2⟩
  · cases h

end Go.Proofs.YtpnpdkgdgfkpfaaGreatDoor.Vm
