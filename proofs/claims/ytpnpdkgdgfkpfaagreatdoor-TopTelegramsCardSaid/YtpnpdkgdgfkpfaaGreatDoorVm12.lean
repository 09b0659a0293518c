/- The abstract machine, part 12: operations against the model's: slices. -/
import Derived.Test.YtpnpdkgdgfkpfaaGreatDoorVm11
import Derived.IntWalk
import Derived.Laws.Entries
namespace Go.Proofs.YtpnpdkgdgfkpfaaGreatDoor.Vm
set_option linter.unusedVariables false
set_option linter.unusedSimpArgs false

theorem All2.one {C : Ctx} {cs : List PV} {l : List Value} (h : All2 C.P cs l) : ∀ x ∈ l, x.oneCell' = true := by
  intro x hx
  obtain ⟨j, hj⟩ := List.mem_iff_getElem?.1 hx
  have hjl : j < cs.length := by rw [h.length]; exact (List.getElem?_eq_some_iff.1 hj).1
  obtain ⟨y, hy, hp⟩ := h.get j cs[j] (by simp [hjl])
  rw [hj] at hy; cases hy
  exact VP.oneCell hp

theorem run_sizeOf_z {P : Program} {e : TypeId} {z : List PV} (h : zeroCells P e = some z) {w : World} : (sizeOf e).run P w = .ok (P.cellsOf e) w := by
  unfold zeroCells at h
  split at h
  · rename_i i hi; simp [sizeOf, typeInfo, Program.cellsOf, hi]
  · cases h
theorem run_bytes_z {P : Program} {e : TypeId} {z : List PV} (h : zeroCells P e = some z) : ∃ i, P.info? e = some i ∧ P.bytesOf e = i.bytes ∧ P.cellsOf e = i.size := by
  unfold zeroCells at h
  split at h
  · rename_i i hi; exact ⟨i, hi, by simp [Program.bytesOf, hi], by simp [Program.cellsOf, hi]⟩
  · cases h

theorem chunks_get : ∀ (sz n : Nat) (cs : List PV) (i : Nat), i < n → (chunks sz n cs)[i]? = some (cut cs (i * sz) sz)
  | sz, 0, cs, i, h => by omega
  | sz, n + 1, cs, 0, _ => by simp [chunks, cut]
  | sz, n + 1, cs, i + 1, h => by
    have := chunks_get sz n (cs.drop sz) i (by omega)
    simp only [chunks, List.getElem?_cons_succ, this]
    unfold cut
    rw [List.drop_drop, Nat.succ_mul, Nat.add_comm]
theorem chunks_length : ∀ (sz n : Nat) (cs : List PV), (chunks sz n cs).length = n
  | _, 0, _ => rfl
  | sz, n + 1, cs => by simp [chunks, chunks_length sz n]
theorem chunks_size {sz n : Nat} {cs : List PV} (h : cs.length = n * sz) : ∀ e ∈ chunks sz n cs, e.length = sz := by
  intro e he
  obtain ⟨i, hi⟩ := List.mem_iff_getElem?.1 he
  have hin : i < n := by
    have := (List.getElem?_eq_some_iff.1 hi).1
    rwa [chunks_length] at this
  rw [chunks_get sz n cs i hin] at hi
  cases hi
  unfold cut
  have : (i + 1) * sz ≤ n * sz := Nat.mul_le_mul_right sz hin
  rw [Nat.succ_mul] at this
  simp
  omega
theorem chunks_cell {sz n : Nat} {cs : List PV} {i j : Nat} {e : List PV} {c : PV} (h1 : (chunks sz n cs)[i]? = some e) (h2 : e[j]? = some c) : cs[i * sz + j]? = some c := by
  have hin : i < n := by
    have := (List.getElem?_eq_some_iff.1 h1).1
    rwa [chunks_length] at this
  rw [chunks_get sz n cs i hin] at h1
  cases h1
  unfold cut at h2
  rw [List.getElem?_take, List.getElem?_drop] at h2
  split at h2
  · exact h2
  · cases h2

theorem flatten_reps_length {z : List PV} : ∀ n, (reps z n).flatten.length = n * z.length
  | 0 => by simp [reps]
  | n + 1 => by simp [reps, flatten_reps_length n, Nat.succ_mul]; omega

theorem flatten_reps_get {z : List PV} (hz : 0 < z.length) : ∀ (n i : Nat), i < n * z.length → (reps z n).flatten[i]? = z[i % z.length]?
  | 0, i, h => by omega
  | n + 1, i, h => by
    simp only [reps, List.flatten_cons, List.getElem?_append]
    split
    · rename_i h1; rw [Nat.mod_eq_of_lt h1]
    · rename_i h1
      rw [Nat.succ_mul] at h
      rw [flatten_reps_get hz n _ (by omega)]
      rw [Nat.mod_eq_sub_mod (by omega : z.length ≤ i)]

theorem zeros_all2 {C : Ctx} {z : List PV} {zv : Array Value} (h : All2 C.P z zv.toList) (hz : 0 < z.length) (n m : Nat) (hm : m = n * z.length) :
    All2 C.P (reps z n).flatten ((Array.range m).map fun i => zv[i % zv.size]!).toList := by
  subst hm
  have hs : zv.size = z.length := by simpa using h.length.symm
  refine All2.of_get (by rw [flatten_reps_length]; simp) fun i a b ha hb => ?_
  have hi : i < n * z.length := by
    have := (List.getElem?_eq_some_iff.1 ha).1
    rwa [flatten_reps_length] at this
  rw [flatten_reps_get hz n i hi] at ha
  obtain ⟨y, hy, hp⟩ := h.get _ _ ha
  have hlt : i % z.length < zv.size := by rw [hs]; exact Nat.mod_lt _ hz
  have hy' : zv[i % z.length] = y := by
    have : zv[i % z.length]? = some y := by simpa using hy
    rw [Array.getElem?_eq_getElem hlt] at this
    exact Option.some.inj this
  simp [hi, hs] at hb
  rw [← hb]
  have : zv[i % z.length]! = y := by rw [getElem!_pos zv _ hlt]; exact hy'
  simp [this] at *
  first | exact hp | (rw [this]; exact hp)

theorem nrmC_sound {C : Ctx} : ∀ {ss : List Sh} {cs : List PV} {us : List Value}, All2 C.P cs us → All2 C.P (nrmC ss cs) us
  | [], cs, us, h => by cases cs <;> exact h
  | s :: ss, [], us, h => h
  | s :: ss, c :: cs, us, h => by
    cases us with
    | nil => exact h.elim
    | cons u us =>
      refine ⟨?_, nrmC_sound h.2⟩
      split
      · split
        · have h0 : u = .slice none 0 0 := (fun u (h : C.P .nils u) => show u = .slice none 0 0 by cases h; rfl) _ h.1
          rw [h0]
          exact .sl0 _ none 0
        · exact h.1
      · exact h.1

theorem nrmS_sound {C : Ctx} {P : Program} {e : TypeId} {n : Nat} {cs : List PV} {us : List Value} (h : All2 C.P cs us) : All2 C.P (nrmS P e n cs) us := by
  unfold nrmS
  split
  · exact nrmC_sound h
  · exact h

theorem buildSlice_sound {C : Ctx} (hok : Ok C) {P : Program} {look : Look} (hl : LookOk C look) {nid : Nat} (hf : nth Ent.fresh C.h nid = .fresh) (hn : nid < C.h.length) {ev : Operand → AV} {ρ : Operand → Value} (hρ : ∀ x, VA C (ev x) (ρ x))
    {t e : TypeId} (ht : P.underlying t = some (.slice e)) {z : List PV} (hz : zeroCells P e = some z) (hz0 : z.length = P.cellsOf e) (hz1 : 1 ≤ z.length) {n : Nat} (hn2 : n * z.length ≤ 16777216)
    {parts : Array (Nat × Operand)} {cs : List PV} {us : Ups} (h : fillA (fun i => some (i * z.length, z.length)) look ev (reps z n).flatten parts.toList = some (cs, us)) :
    ∃ u w', (Instr.buildSlice t n (parts.map fun (i, x) => (i, ρ x))).run P C.w = .ok u w' ∧ Gives C (us ++ [(nid, .blk (.arr z.length (chunks z.length n (nrmS P e n cs))))]) (.t (.hsl nid)) u w' := by
  obtain ⟨hd, hne, hr⟩ := fillA_sound hok hl hρ h
  obtain ⟨zv, hzv, hza⟩ := zeroCells_sound hz (C.kill us).w (C.kill us).O
  have hlen : zv.cells.size = z.length := by simpa using hza.length.symm
  obtain ⟨o, ho1, ho2⟩ := hr us hd (fun x hx => hx) ((Array.range (n * z.length)).map fun i => zv.cells[i % zv.cells.size]!) (zeros_all2 (C := C.kill us) hza (by omega) n _ rfl)
  have ho2' := nrmS_sound (P := P) (e := e) (n := n) ho2
  have hk := ok_kill hok hd
  have hol : cs.length = n * z.length := by
    -- the fill keeps the length
    have hfl : ∀ {parts cells out us}, fillA (fun i => some (i * z.length, z.length)) look ev cells parts = some (out, us) → out.length = cells.length := by
      intro parts
      induction parts with
      | nil => intro cells out us h; simp only [fillA] at h; cases h; rfl
      | cons p rest ih =>
        intro cells out us h
        obtain ⟨i, x⟩ := p
        simp only [fillA] at h
        split at h
        · split at h
          · split at h
            · rename_i r us' hr
              cases h
              rw [ih hr, lay_length]
            · cases h
          · cases h
        · cases h
    rw [hfl h, flatten_reps_length]
  have hol' : (nrmS P e n cs).length = n * z.length := by rw [ho2'.length, ← ho2.length, hol]
  have hos : o.size = n * z.length := by rw [← hol]; simpa using ho2.length.symm
  refine ⟨.slice (some ⟨C.w.heap.size, 0, none⟩) n n, C.w.alloc (.cells o e), ?_, ?_⟩
  · simp only [Instr.buildSlice, Sem.run_bind, run_underlying ht, Result.andThen_ok, run_sizeOf_z hz, ← hz0]
    rw [if_neg (by omega)]
    by_cases h0 : n * z.length = 0
    · have hn0 : n = 0 := by
        rcases Nat.mul_eq_zero.1 h0 with h | h
        · exact h
        · omega
      subst hn0
      simp only [Nat.zero_mul] at ho1 ⊢
      simp only [if_true, Sem.run_pure, Sem.run_bind, Result.andThen_ok]
      have hr0 : ((Array.range 0).map fun i => zv.cells[i % zv.cells.size]!) = ((Array.range 0).map fun i => (#[] : Array Value)[i % (#[] : Array Value).size]!) := by simp
      rw [hr0] at ho1
      have ho1' : Instr.fill (fun i => some (i * z.length, z.length)) ((Array.range 0).map fun i => (#[] : Array Value)[i % (#[] : Array Value).size]!) (parts.map fun (i, x) => (i, ρ x)).toList = some o := by
        rw [← ho1]; congr 1; simp
      simp only [ho1']
      simp [newRow]
    · rw [if_neg h0]
      simp only [Sem.run_bind, hzv, Result.andThen_ok, Sem.run_pure]
      have ho1' : Instr.fill (fun i => some (i * z.length, z.length)) ((Array.range (n * z.length)).map fun i => zv.cells[i % zv.cells.size]!) (parts.map fun (i, x) => (i, ρ x)).toList = some o := by
        rw [← ho1]; congr 1; simp
      simp only [ho1']
      simp [newRow]
  · refine Gives.after hd ?_
    have hg : Grow (C.kill us).w (C.w.alloc (.cells o e)) := Grow.alloc C.w (.cells o e)
    have hchl : (chunks z.length n (nrmS P e n cs)).length = n := chunks_length _ _ _
    have := gives_arr (C := C.kill us) hk (nid := nid) (nth_putDead_fresh (hne nid hf) hf) (by show nid < (putUps us C.h).length; rw [length_putUps]; exact hn) (sz := z.length) (es := chunks z.length n (nrmS P e n cs)) (carr := o) (e := e) (fr := (0, 0))
      hg (heap_alloc_same _ _) (noFr_zero o) n (by omega) (by omega) (chunks_size hol') (All2.one ho2') (fun i j el c he hj => by
        obtain ⟨u, h1, h2⟩ := ho2'.get _ _ (chunks_cell he hj)
        exact ⟨u, by simpa using h1, h2⟩)
    rw [hchl] at this
    exact this

theorem reps_get {α : Type} {x y : α} : ∀ {n i : Nat}, (reps x n)[i]? = some y → x = y ∧ i < n
  | 0, i, h => by simp [reps] at h
  | n + 1, 0, h => by simp [reps] at h; exact ⟨h, by omega⟩
  | n + 1, i + 1, h => by
    simp only [reps, List.getElem?_cons_succ] at h
    obtain ⟨h1, h2⟩ := reps_get h
    exact ⟨h1, by omega⟩
theorem reps_length {α : Type} (x : α) : ∀ n, (reps x n).length = n
  | 0 => rfl
  | n + 1 => by simp [reps, reps_length x n]

theorem wrap_id {n : Int} (h0 : 0 ≤ n) (h1 : n ≤ 9223372036854775807) : IntKind.i64.wrap n = n := IntWalk.i64_in n (by omega)

theorem makeSliceK_sound {C : Ctx} (hok : Ok C) {P : Program} {nid : Nat} (hf : nth Ent.fresh C.h nid = .fresh) (hn : nid < C.h.length) {t : TypeId} {l c v : AV} {us : Ups} {ul uc : Value} (hl : VA C l ul) (hc : VA C c uc)
    (h : makeSliceK P nid t l c two = some (v, us)) : ∃ u w', (Instr.makeSlice t ul uc).run P C.w = .ok u w' ∧ Gives C us v u w' := by
  unfold makeSliceK at h
  split at h
  · rename_i e n m ht
    cases hl; cases hc
    split at h
    · rename_i z hz
      split at h
      · rename_i hcond
        simp only [Bool.and_eq_true] at hcond
        have hz0 : z.length = P.cellsOf e := Nat.eq_of_beq_eq_true hcond.1
        have hz1 : 1 ≤ z.length := Nat.le_of_ble_eq_true hcond.2
        obtain ⟨hb, h⟩ := ctl_some h
        obtain ⟨rfl, rfl⟩ := two_inj h
        simp only [Bool.and_eq_true, decide_eq_true_eq] at hb
        obtain ⟨b1, b2, b3, b4⟩ := hb
        obtain ⟨i, hi, hbi, hci⟩ := run_bytes_z hz
        obtain ⟨zv, hzv, hza⟩ := zeroCells_sound hz C.w C.O
        have hlen : zv.cells.size = z.length := by simpa using hza.length.symm
        have w1 := wrap_id b1 (by omega)
        have w2 := wrap_id (by omega : 0 ≤ m) b3
        unfold room at b4
        have hall := zeros_all2 (C := C) hza (by omega) m.toNat _ rfl
        refine ⟨.slice (some ⟨C.w.heap.size, 0, none⟩) n.toNat m.toNat, C.w.alloc (.cells ((Array.range (m.toNat * z.length)).map fun i => zv.cells[i % zv.cells.size]!) e), ?_, ?_⟩
        · have hnot1 : ¬ m < 0 := by omega
          have hnot2 : ¬ ((i.bytes : Int) * m > 281474976710656) := by
            rw [hbi] at b4
            rw [Int.mul_comm]
            omega
          have hnot3 : ¬ n < 0 := by omega
          have hnot4 : ¬ n > m := by omega
          simp only [Instr.makeSlice, Sem.run_bind, run_underlying ht, Result.andThen_ok, asInt, asIntOf, Sem.run_pure, typeInfo, run_program, hi, w1, w2]
          have hbig : (decide (m < 0) || decide ((i.bytes : Int) * m > 2 ^ 48)) = false := by
            simp only [Bool.or_eq_false_iff, decide_eq_false_iff_not]
            exact ⟨hnot1, hnot2⟩
          rw [hbig]
          simp only [hnot3, hnot4, decide_false, Bool.or_self, Bool.false_eq_true, if_false, Sem.run_bind, run_askRoom, Result.andThen_ok, run_sizeOf_z hz, ← hz0]
          by_cases h0 : m.toNat * z.length = 0
          · have hm0 : m.toNat = 0 := by
              rcases Nat.mul_eq_zero.1 h0 with h | h
              · exact h
              · omega
            have hn0 : n.toNat = 0 := by omega
            simp [hm0, hn0, newRow, Array.range_zero']
          · simp [h0, hzv, newRow]
        · have hg : Grow C.w (C.w.alloc (.cells ((Array.range (m.toNat * z.length)).map fun i => zv.cells[i % zv.cells.size]!) e)) := Grow.alloc _ _
          have := gives_arr (C := C) hok hf hn (sz := z.length) (es := reps z n.toNat) (e := e) (fr := (0, 0)) hg (heap_alloc_same _ _) (noFr_zero _) m.toNat (by rw [reps_length]; omega) (by simp)
            (fun el hel => by
              obtain ⟨k, hk⟩ := List.mem_iff_getElem?.1 hel
              rw [(reps_get hk).1]) (All2.one hall) (fun i' j el c he hj => by
              obtain ⟨rfl, hlt⟩ := reps_get he
              have hj2 : j < z.length := (List.getElem?_eq_some_iff.1 hj).1
              have hlt2 : i' * z.length + j < m.toNat * z.length := mul_lt_of (by omega) hj2
              have hcell : (reps z m.toNat).flatten[i' * z.length + j]? = some c := by
                rw [flatten_reps_get (by omega) _ _ hlt2, Nat.add_comm, Nat.add_mul_mod_self_right, Nat.mod_eq_of_lt hj2, hj]
              obtain ⟨u, h1, h2⟩ := hall.get _ _ hcell
              exact ⟨u, by rw [← Array.getElem?_toList]; exact h1, h2⟩)
          rw [reps_length] at this
          exact this
      · cases h
    · cases h
  · cases h

end Go.Proofs.YtpnpdkgdgfkpfaaGreatDoor.Vm
