/- The abstract machine, part 13: operations against the model's: append. -/
import Derived.Test.YtpnpdkgdgfkpfaaGreatDoorVm12
namespace Go.Proofs.YtpnpdkgdgfkpfaaGreatDoor.Vm
set_option linter.unusedVariables false
set_option linter.unusedSimpArgs false

structure RowOf (C : Ctx) (sz : Nat) (es : List (List PV)) (cells : List Value) : Prop where
  len : cells.length = es.length * sz
  one : ∀ u ∈ cells, u.oneCell' = true
  el : ∀ e ∈ es, e.length = sz
  rel : ∀ (i j : Nat) e c, es[i]? = some e → e[j]? = some c → ∃ u, cells[i * sz + j]? = some u ∧ C.P c u

theorem RowOf.nil (C : Ctx) (sz : Nat) : RowOf C sz [] [] := ⟨by simp, by simp, by simp, fun i j e c h => by simp at h⟩

theorem RowOf.append {C : Ctx} {sz : Nat} {es es' : List (List PV)} {l l' : List Value} (h : RowOf C sz es l) (h' : RowOf C sz es' l') : RowOf C sz (es ++ es') (l ++ l') where
  len := by simp [h.len, h'.len, Nat.add_mul]
  one u hu := by rcases List.mem_append.1 hu with hu | hu; exact h.one u hu; exact h'.one u hu
  el e he := by rcases List.mem_append.1 he with he | he; exact h.el e he; exact h'.el e he
  rel i j e c he hj := by
    rw [List.getElem?_append] at he
    split at he
    · rename_i hlt
      obtain ⟨u, h1, h2⟩ := h.rel i j e c he hj
      refine ⟨u, ?_, h2⟩
      rw [List.getElem?_append, if_pos (List.getElem?_eq_some_iff.1 h1).1]
      exact h1
    · rename_i hge
      obtain ⟨u, h1, h2⟩ := h'.rel _ j e c he hj
      refine ⟨u, ?_, h2⟩
      have h3 : i * sz + j = l.length + ((i - es.length) * sz + j) := by
        rw [h.len]
        have : i = es.length + (i - es.length) := by omega
        rw [show i * sz = (es.length + (i - es.length)) * sz from by rw [← this], Nat.add_mul]
        omega
      rw [h3, List.getElem?_append_right (by omega)]
      simpa using h1

theorem esOf_row {C : Ctx} (hok : Ok C) {look : Look} (hl : LookOk C look) {x : AV} {ux : Value} (hx : VA C x ux) {sz : Nat} {es : List (List PV)} (h : esOf look x = some (sz, es)) :
    ∃ ao cap cells, ux = .slice ao es.length cap ∧ (es = [] ∨ RowOf C sz es cells) ∧ (es = [] → cells = []) ∧
      (∀ j u, cells[j]? = some u → ∃ b off, ao = some ⟨b, off, none⟩ ∧ C.w.cell? ⟨b, off + j, none⟩ = some u) ∧ (es ≠ [] → ∃ b off, ao = some ⟨b, off, none⟩) := by
  unfold esOf at h
  split at h
  · cases h
    cases hx with
    | sl0 _ a cap => exact ⟨a, cap, [], rfl, .inl rfl, fun _ => rfl, fun j u hj => by simp at hj, fun hne => absurd rfl hne⟩
    | sl _ _ b off cap f hb hO hc hz hcell hvp =>
      by_cases he : es = []
      · subst he
        exact ⟨_, cap, [], rfl, .inl rfl, fun _ => rfl, fun j u hj => by simp at hj, fun hne => absurd rfl hne⟩
      · by_cases hz0 : sz = 0
        · subst hz0
          refine ⟨_, cap, [], rfl, .inr ⟨by simp, by simp, hz, fun i j e c hi hj => ?_⟩, fun h => absurd h he, fun j u hj => by simp at hj, fun _ => ⟨b, off, rfl⟩⟩
          have := hz e (List.mem_iff_getElem?.2 ⟨i, hi⟩)
          have h3 := (List.getElem?_eq_some_iff.1 hj).1
          omega
        · have key : ∀ k, k < es.length * sz → ∃ e c, es[k / sz]? = some e ∧ e[k % sz]? = some c := by
            intro k hk
            have h1 : k / sz < es.length := (Nat.div_lt_iff_lt_mul (by omega)).2 hk
            refine ⟨es[k / sz], ?_⟩
            have h2 : k % sz < (es[k / sz]).length := by rw [hz _ (List.getElem_mem h1)]; exact Nat.mod_lt _ (by omega)
            exact ⟨(es[k / sz])[k % sz], by simp [h1], by simp [h2]⟩
          refine ⟨_, cap, (List.range (es.length * sz)).map fun k => f (k / sz) (k % sz), rfl, .inr ⟨by simp, ?_, hz, ?_⟩, fun h => absurd h he, ?_, fun _ => ⟨b, off, rfl⟩⟩
          · intro u hu
            obtain ⟨k, hk, rfl⟩ := List.mem_map.1 hu
            obtain ⟨e, c, h1, h2⟩ := key k (List.mem_range.1 hk)
            exact VP.oneCell (hvp _ _ e c h1 h2)
          · intro i j e c hi hj
            have hj2 : j < sz := by
              have := hz e (List.mem_iff_getElem?.2 ⟨i, hi⟩)
              have h3 := (List.getElem?_eq_some_iff.1 hj).1
              omega
            have hi2 : i < es.length := (List.getElem?_eq_some_iff.1 hi).1
            have hlt := mul_lt_of hi2 hj2
            have hd : (i * sz + j) / sz = i := by rw [Nat.mul_comm, Nat.mul_add_div (by omega), Nat.div_eq_of_lt hj2, Nat.add_zero]
            have hm : (i * sz + j) % sz = j := by rw [Nat.mul_comm, Nat.mul_add_mod, Nat.mod_eq_of_lt hj2]
            refine ⟨f i j, ?_, hvp i j e c hi hj⟩
            simp [hlt, hd, hm]
          · intro k u hk
            rw [List.getElem?_map] at hk
            obtain ⟨k', hk', rfl⟩ := Option.map_eq_some_iff.1 hk
            have hlt : k < es.length * sz := by
              have := (List.getElem?_eq_some_iff.1 hk').1
              simpa using this
            rw [List.getElem?_range hlt] at hk'
            cases hk'
            obtain ⟨e, c, h1, h2⟩ := key k hlt
            refine ⟨b, off, rfl, ?_⟩
            have := hcell _ _ e c h1 h2
            rw [← this]
            congr 2
            have := Nat.div_add_mod k sz
            rw [Nat.mul_comm] at this
            omega
  · cases h
    cases hx
    exact ⟨none, 0, [], rfl, .inl rfl, fun _ => rfl, fun j u hj => by simp at hj, fun hne => absurd rfl hne⟩
  · rename_i id
    split at h
    · rename_i sz0 es0 hb
      cases h
      have hlv := hl _ _ hb
      obtain ⟨hk, _, hv⟩ := hx
      have hs := hv _ _ hlv
      unfold HS at hs
      rcases hok.blk id _ hlv with ⟨hn, he⟩ | ⟨n, carr, e, fr, hi, hr, hsz, hf, hz, hone, hc⟩
      · rw [hn] at hs
        obtain ⟨rfl, rfl⟩ := hs
        exact ⟨none, 0, [], rfl, .inl rfl, fun _ => rfl, fun j u hj => by simp at hj, fun hne => absurd rfl hne⟩
      · rw [hi] at hs
        obtain ⟨cap, carr2, e2, fr2, rfl, hle, hr2, hcap⟩ := hs
        rw [hr] at hr2; cases hr2
        refine ⟨some ⟨n, 0, none⟩, cap, carr.toList.take (es.length * sz), rfl, .inr ⟨by simp; omega, fun u hu => hone u (List.mem_of_mem_take hu), hz, ?_⟩, ?_, ?_, fun _ => ⟨n, 0, rfl⟩⟩
        · intro i j el c hel hj
          have hj2 : j < sz := by
            have := hz el (List.mem_iff_getElem?.2 ⟨i, hel⟩)
            have h3 := (List.getElem?_eq_some_iff.1 hj).1
            omega
          have hlt := mul_lt_of (List.getElem?_eq_some_iff.1 hel).1 hj2
          obtain ⟨u, h1, h2⟩ := hc i j el c hel hj
          refine ⟨u, ?_, h2⟩
          rw [List.getElem?_take, if_pos hlt]
          simpa using h1
        · intro he; subst he; simp
        · intro j u hj
          rw [List.getElem?_take] at hj
          split at hj
          · refine ⟨n, 0, rfl, ?_⟩
            rw [show 0 + j = j by omega, cells_get carr n _ hr]
            simpa using hj
          · cases hj
    · cases h
  · cases h

theorem esOf_src {C : Ctx} (hok : Ok C) {P : Program} {look : Look} (hl : LookOk C look) {x : AV} {ux : Value} (hx : VA C x ux) {sz sz' : Nat} {es : List (List PV)} (h : esOf look x = some (sz', es)) (hsz : sz' = sz ∨ es = [])
    {tx e' : TypeId} (hk : P.underlying tx = some (.slice e')) : ∃ cells, Src P sz tx ux es.length cells C.w ∧ RowOf C sz es cells := by
  obtain ⟨ao, cap, cells, rfl, hrow, hnil, hcell, hao⟩ := esOf_row hok hl hx h
  by_cases he : es = []
  · have := hnil he
    subst this; subst he
    refine ⟨[], ?_, RowOf.nil C sz⟩
    cases ao with
    | none => exact Src.ofNil C.w hk cap
    | some a => exact Src.ofSlice C.w hk a 0 cap [] (by simp) (fun j u hj => by simp at hj) (by simp)
  · have hr : RowOf C sz' es cells := hrow.resolve_left he
    have hz : sz' = sz := hsz.resolve_right he
    subst hz
    obtain ⟨b, off, rfl⟩ := hao he
    refine ⟨cells, Src.ofSlice C.w hk ⟨b, off, none⟩ es.length cap cells hr.len (fun j u hj => ?_) hr.one, hr⟩
    obtain ⟨b2, off2, h1, h2⟩ := hcell j u hj
    cases h1
    rw [addr_add]
    exact h2

theorem Grow.drewAlloc (w : World) (o : Obj) : Grow w (w.drew.alloc o) :=
  ⟨rfl, rfl, rfl, by simp, fun b hb => by show (w.heap.push o)[b]? = _; rw [Array.getElem?_push, if_neg (by omega)]⟩

theorem heap_drewAlloc (w : World) (o : Obj) : (w.drew.alloc o).heap[w.heap.size]? = some o := heap_alloc_same w.drew o

theorem append_grow {C : Ctx} (hok : Ok C) {P : Program} {nid : Nat} (hf : nth Ent.fresh C.h nid = .fresh) (hn : nid < C.h.length) {t tx ty e : TypeId} (ht : P.underlying t = some (.slice e)) {z : List PV} (hz : zeroCells P e = some z)
    (hz0 : z.length = P.cellsOf e) (hs1 : 1 ≤ P.cellsOf e) (hb1 : 1 ≤ P.bytesOf e) {base : Option Addr} {sCap : Nat} {es es' : List (List PV)} {olds news : List Value} {x : Value}
    (ho : RowOf C (P.cellsOf e) es olds) (hw : RowOf C (P.cellsOf e) es' news) (hold : (Builtin.firstCells (P.cellsOf e) es.length (.slice base es.length sCap)).run P C.w.drew = .ok olds.toArray C.w.drew)
    (hsrc : Src P (P.cellsOf e) tx x es'.length news C.w) (hg : sCap < es.length + es'.length) (hroom : (es.length + es'.length) * P.bytesOf e ≤ room) :
    ∃ u w', (Builtin.append_ #[t, tx] ty #[.slice base es.length sCap, x]).run P C.w = .ok u w' ∧ Gives C [(nid, .blk (.arr (P.cellsOf e) (es ++ es')))] (.t (.hsl nid)) u w' := by
  obtain ⟨i, hi, hbi, hci⟩ := run_bytes_z hz
  obtain ⟨zv, hzv, hza⟩ := zeroCells_sound hz C.w C.O
  have hzv2 : i.zero = some zv := by
    have := hzv C.w
    simp [zeroValue, typeInfo, hi] at this
    cases hzz : i.zero with
    | none => rw [hzz] at this; simp at this
    | some v => rw [hzz] at this; simp at this; rw [this]
  have hzs : zv.cells.size = P.cellsOf e := by rw [← hz0]; simpa using hza.length.symm
  unfold room at hroom
  have h63 : ((es.length + es'.length : Nat) : Int) ≤ 9223372036854775807 := by
    have : (es.length + es'.length) * 1 ≤ (es.length + es'.length) * P.bytesOf e := Nat.mul_le_mul_left _ hb1
    omega
  have hrun := run_append_grow_src (P := P) C.w t tx ty e i zv ht hi hzv2 base es.length sCap olds (by rw [← hci]; exact hold) x es'.length news (by rw [← hci]; exact hsrc) hg h63
    (growslice_fits hg (by rw [← hbi]; exact hroom))
  refine ⟨_, _, hrun, ?_⟩
  have hcapge : es.length + es'.length ≤ grownCap C.w (es.length + es'.length) sCap e := grownCap_ge _ _ _ _
  have hrow := ho.append hw
  have hlen : (es ++ es').length = es.length + es'.length := by simp
  have := gives_arr (C := C) hok hf hn (sz := P.cellsOf e) (es := es ++ es') (e := e) (fr := (0, 0)) (Grow.drewAlloc C.w _) (heap_drewAlloc C.w _) (noFr_zero _) (grownCap C.w (es.length + es'.length) sCap e) (by rw [hlen]; exact hcapge)
    (carr := (olds ++ news).toArray ++ Builtin.zeroCells zv.cells (grownCap C.w (es.length + es'.length) sCap e - (es.length + es'.length))) (by
      rw [Array.size_append, size_zeroCells, hzs]
      have h1 : (olds ++ news).toArray.size = (es.length + es'.length) * P.cellsOf e := by simp [ho.len, hw.len, Nat.add_mul]
      rw [h1, ← Nat.add_mul]
      exact Nat.mul_le_mul_right _ (by omega)) hrow.el (by
      intro y hy
      rw [Array.toList_append] at hy
      rcases List.mem_append.1 hy with hy | hy
      · exact hrow.one y (by simpa using hy)
      · obtain ⟨k, hk⟩ := List.mem_iff_getElem?.1 hy
        unfold Builtin.zeroCells at hk
        simp at hk
        obtain ⟨k', hk', rfl⟩ := hk
        have hlt : k' % zv.cells.size < zv.cells.size := Nat.mod_lt _ (by omega)
        rw [getElem!_pos zv.cells _ hlt]
        exact All2.one hza _ (by simp)) (fun i' j el c he hj => by
      obtain ⟨u, h1, h2⟩ := hrow.rel i' j el c he hj
      refine ⟨u, ?_, h2⟩
      rw [Array.getElem?_append]
      have hlt := (List.getElem?_eq_some_iff.1 h1).1
      rw [if_pos (by simpa using hlt)]
      simpa using h1)
  rw [hlen] at this
  exact this

theorem append_room {C : Ctx} (hok : Ok C) {P : Program} {id nid n : Nat} (hf : nth Ent.fresh C.h nid = .fresh) (hn : nid < C.h.length) {t tx ty e : TypeId} (ht : P.underlying t = some (.slice e)) {z : List PV} (hz : zeroCells P e = some z)
    {cap : Nat} {es es' : List (List PV)} {news : List Value} {x : Value} (hl : live C.h id (.arr (P.cellsOf e) es)) (hi : C.ι id = some n) {carr : Array Value} {e2 : TypeId} {fr : Nat × Nat}
    (hr : C.w.heap[n]? = some (.cells carr e2 fr)) (hcap : cap * P.cellsOf e ≤ carr.size) (hw : RowOf C (P.cellsOf e) es' news) (hsrc : Src P (P.cellsOf e) tx x es'.length news C.w) (hroom : es.length + es'.length ≤ cap) :
    ∃ u w', (Builtin.append_ #[t, tx] ty #[.slice (some ⟨n, 0, none⟩) es.length cap, x]).run P C.w = .ok u w' ∧ Gives C [(id, .dead), (nid, .blk (.arr (P.cellsOf e) (es ++ es')))] (.t (.hsl nid)) u w' := by
  obtain ⟨i, hii, hbi, hci⟩ := run_bytes_z hz
  rcases hok.blk id _ hl with ⟨hnn, _⟩ | ⟨n', carr', e', fr', hi', hr', hs, hfr, hel, hone, hc⟩
  · rw [hi] at hnn; cases hnn
  · rw [hi] at hi'; cases hi'
    rw [hr] at hr'; cases hr'
    have hfit : es.length * P.cellsOf e + news.length ≤ carr.size := by
      rw [hw.len, ← Nat.add_mul]
      exact Nat.le_trans (Nat.mul_le_mul_right _ hroom) hcap
    have hst := run_storeCells_fr (P := P) n (es.length * P.cellsOf e) e2 fr news 0 carr C.w hr hfr (by simpa using hfit) hw.one
    simp only [Nat.add_zero] at hst
    refine ⟨.slice (some ⟨n, 0, none⟩) (es.length + es'.length) cap, C.w.setRow n (carr.toList.take (es.length * P.cellsOf e) ++ news ++ carr.toList.drop (es.length * P.cellsOf e + news.length)).toArray, ?_, ?_⟩
    · have hsz : i.size = P.cellsOf e := hci.symm
      rcases hsrc.kind with ⟨e3, hk⟩ | hk <;>
        simp [Builtin.append_, run_underlying ht, run_underlying hk, sizeOf, typeInfo, hii, hsz, hsrc.len, hroom, hsrc.cells, addr_add, hst]
    · have hss := splice_size carr (es.length * P.cellsOf e) news hfit
      have hx := ext_renew (B' := .arr (P.cellsOf e) (es ++ es')) hl hi hf hr hss
      have hlive : live (upd (.blk (.arr (P.cellsOf e) (es ++ es'))) (upd .dead C.h id) nid) nid (.arr (P.cellsOf e) (es ++ es')) := live_upd.2 (.inl ⟨rfl, by rw [length_upd]; exact hn, rfl⟩)
      have hlen : (es ++ es').length = es.length + es'.length := by simp
      refine ⟨C.renew id nid n _ (.arr (P.cellsOf e) (es ++ es')), rfl, rfl, hx, ok_renew hok hl hi hf hn hr hss (.inr ?_), ?_⟩
      · refine ⟨n, _, e2, fr, ιset_same _ _ _, setRow_same _ _ _ _ _ _ hr, by rw [hss, hlen]; exact Nat.le_trans (Nat.mul_le_mul_right _ hroom) hcap, hfr.size hss, ?_, ?_, ?_⟩
        · intro el hel2
          rcases List.mem_append.1 hel2 with h | h
          · exact hel el h
          · exact hw.el el h
        · intro y hy
          obtain ⟨k, hk⟩ := List.mem_iff_getElem?.1 hy
          have hk' : (carr.toList.take (es.length * P.cellsOf e) ++ news ++ carr.toList.drop (es.length * P.cellsOf e + news.length)).toArray[k]? = some y := by simpa using hk
          rw [splice_get carr _ _ hfit] at hk'
          split at hk'
          · exact hw.one y (List.mem_iff_getElem?.2 ⟨_, hk'⟩)
          · exact hone y (List.mem_iff_getElem?.2 ⟨k, by simpa using hk'⟩)
        · intro i' j el c he hj
          rw [splice_get carr _ _ hfit]
          rw [List.getElem?_append] at he
          split at he
          · rename_i hlt
            have hj2 : j < P.cellsOf e := by
              have := hel el (List.mem_iff_getElem?.2 ⟨i', he⟩)
              have h3 := (List.getElem?_eq_some_iff.1 hj).1
              omega
            have := mul_lt_of hlt hj2
            rw [if_neg (by omega)]
            obtain ⟨u, h1, h2⟩ := hc i' j el c he hj
            exact ⟨u, h1, hx.vp h2⟩
          · rename_i hge
            obtain ⟨u, h1, h2⟩ := hw.rel _ j el c he hj
            have h3 : i' * P.cellsOf e + j = es.length * P.cellsOf e + ((i' - es.length) * P.cellsOf e + j) := by
              have : i' = es.length + (i' - es.length) := by omega
              rw [show i' * P.cellsOf e = (es.length + (i' - es.length)) * P.cellsOf e from by rw [← this], Nat.add_mul]
              omega
            have hlt := (List.getElem?_eq_some_iff.1 h1).1
            rw [if_pos (by omega)]
            refine ⟨u, ?_, hx.vp h2⟩
            rw [h3, Nat.add_sub_cancel_left]
            exact h1
      · refine ⟨live_known hlive, ⟨_, _, _, rfl⟩, fun sz' es2 hd => ?_⟩
        have := live_inj hlive hd
        cases this
        unfold HS
        rw [show (C.renew id nid n (carr.toList.take (es.length * P.cellsOf e) ++ news ++ carr.toList.drop (es.length * P.cellsOf e + news.length)).toArray (.arr (P.cellsOf e) (es ++ es'))).ι nid = some n from ιset_same _ _ _]
        exact ⟨cap, _, e2, fr, by rw [hlen], by rw [hlen]; exact hroom, setRow_same _ _ _ _ _ _ hr, by rw [hss]; exact hcap⟩

end Go.Proofs.YtpnpdkgdgfkpfaaGreatDoor.Vm
