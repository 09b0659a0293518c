/- The abstract machine, part 9: operations against the model's: loads, stores, new blocks, aggregates. -/
import Derived.Test.YtpnpdkgdgfkpfaaGreatDoorVm8
namespace Go.Proofs.YtpnpdkgdgfkpfaaGreatDoor.Vm
set_option linter.unusedVariables false
set_option linter.unusedSimpArgs false

theorem ctl_some {α : Type} {b : Bool} {x : Option α} {r : α} (h : ctl b x none = some r) : b = true ∧ x = some r := by
  cases b
  · cases h
  · exact ⟨rfl, h⟩

theorem two_inj {v v' : AV} {us us' : Ups} (h : two v us = some (v', us')) : v = v' ∧ us = us' := by
  unfold two at h; cases h; exact ⟨rfl, rfl⟩

theorem getE_some {α : Type} {es : List (List PV)} {i : Int} {K : List PV → Option α} {r : α} (h : getE es i K = some r) : 0 ≤ i ∧ i.toNat < es.length ∧ es[i.toNat]? = some (nth [] es i.toNat) ∧ K (nth [] es i.toNat) = some r := by
  unfold getE at h
  obtain ⟨h1, h2⟩ := ctl_some h
  simp only [Bool.and_eq_true, decide_eq_true_eq] at h1
  have hlt : i.toNat < es.length := by omega
  exact ⟨h1.1, hlt, by rw [nth_eq]; simp [List.getD, hlt], h2⟩

theorem loadK_sound {C : Ctx} (hok : Ok C) {P : Program} {look : Look} (hl : LookOk C look) {t : TypeId} {a v : AV} {us : Ups} {ua : Value} (ha : VA C a ua) (h : loadK P look t a two = some (v, us)) :
    ∃ u, (Instr.loadAt t ua).run P C.w = .ok u C.w ∧ Gives C us v u C.w := by
  unfold loadK at h
  split at h
  case isFalse => cases h
  rename_i hty
  split at h
  · -- a box
    rename_i id o
    split at h
    · rename_i cs hb
      have hlv := hl _ _ hb
      obtain ⟨hk, n, rfl, hp⟩ := ha
      have hi := hp cs hlv
      obtain ⟨n', carr, e, fr, hi', hr, hs, hf, hc⟩ := hok.blk id _ hlv
      rw [hi] at hi'; cases hi'
      split at h
      · rename_i hag
        have h0 : All2 (VA C) (cut cs o (P.cellsOf t)) ((carr.toList.drop o).take (P.cellsOf t)) := take_drop_all2 hs (fun j c hj => by obtain ⟨u, h1, h2, _⟩ := hc j c hj; exact ⟨u, h1, h2⟩) o _
        have hone : ∀ x ∈ (carr.toList.drop o).take (P.cellsOf t), x.oneCell' = true := by
          intro x hx
          have hx' : x ∈ carr.toList := List.mem_of_mem_drop (List.mem_of_mem_take hx)
          obtain ⟨i, hi⟩ := List.mem_iff_getElem?.1 hx'
          have hlt : i < cs.length := by rw [← hs]; have := (List.getElem?_eq_some_iff.1 hi).1; simpa using this
          obtain ⟨u, h1, _, h3⟩ := hc i cs[i] (by simp [hlt])
          have hi' : carr[i]? = some x := by simpa using hi
          rw [hi'] at h1; cases h1; exact h3
        split at h
        · rename_i hlen hlb
          obtain ⟨rfl, rfl⟩ := two_inj h
          obtain ⟨hd, hr2⟩ := loadBox_sound hok hl hlb h0 hone
          obtain ⟨r1, r2, _⟩ := hr2 [] hd (fun x hx => hx)
          have hll : ((carr.toList.drop o).take (P.cellsOf t)).length = P.cellsOf t := by rw [← h0.length]; exact Nat.eq_of_beq_eq_true hlen
          exact ⟨_, run_loadAt_agg hty hag (run_cells hr hll), Gives.same hok ⟨_, rfl, r1⟩⟩
        · rename_i vs ds us0 hnil hlen hlb
          obtain ⟨rfl, rfl⟩ := two_inj h
          obtain ⟨hd, hr2⟩ := loadBox_sound hok hl hlb h0 hone
          obtain ⟨r1, r2, r3⟩ := hr2 _ hd (fun x hx => hx)
          have hll : ((carr.toList.drop o).take (P.cellsOf t)).length = P.cellsOf t := by rw [← h0.length]; exact Nat.eq_of_beq_eq_true hlen
          refine ⟨_, run_loadAt_agg hty hag (run_cells hr hll), ?_⟩
          -- freeze, then the box as it is, read otherwise
          have hne : ∀ e', (id, e') ∉ us0 := by
            intro e' hm
            have := hd _ hm
            simp only at this
            subst this
            exact live_box_ne hl hlv hlb hm
          have hlv' : live (C.kill us0).h id (.box cs) := live_put_ne hne hlv
          have hlc : o + ds.length ≤ cs.length ∨ ds.length = 0 := by
            have : (cut cs o (P.cellsOf t)).length ≤ cs.length - o := by unfold cut; simp; omega
            rw [r3]
            omega
          have hds : ∀ (j : Nat) c, (lay cs o ds)[j]? = some c → ∃ u, carr[j]? = some u ∧ VA (C.kill us0) c u ∧ u.oneCell' = true := by
            have hbase : ∀ (j : Nat) c, cs[j]? = some c → ∃ u, carr[j]? = some u ∧ VA (C.kill us0) c u ∧ u.oneCell' = true := by
              intro j c hj
              obtain ⟨u, h1, h2, h3⟩ := hc j c hj
              exact ⟨u, h1, (ext_kill C hd).va h2, h3⟩
            intro j c hj
            rcases hlc with hlc | hz0
            · rw [lay_get cs o ds j hlc] at hj
              split at hj
              · rename_i hjo
                obtain ⟨u, h1, h2⟩ := r2.get (j - o) c hj
                rw [List.getElem?_take, List.getElem?_drop] at h1
                split at h1
                · have h1' : carr[j]? = some u := by rw [show o + (j - o) = j by omega] at h1; simpa using h1
                  have hjl : j < cs.length := by rw [← hs]; exact (Array.getElem?_eq_some_iff.1 h1').1
                  obtain ⟨u2, k1, _, k3⟩ := hc j cs[j] (by simp [hjl])
                  rw [h1'] at k1; cases k1
                  exact ⟨u, h1', h2, k3⟩
                · cases h1
              · exact hbase j c hj
            · have hdn : ds = [] := List.length_eq_zero_iff.1 hz0
              subst hdn
              have hlaynil : ∀ (cs : List AV) (o : Nat), lay cs o [] = cs := by
                intro cs
                induction cs with
                | nil => intro o; cases o <;> simp [lay, lay.go]
                | cons c cs ih => intro o; cases o with
                  | zero => simp [lay, lay.go]
                  | succ o => simp [lay, ih o]
              rw [hlaynil] at hj
              exact hbase j c hj
          have hx1 := ext_kill C hd
          have hk1 := ok_kill hok hd
          have hlk : like (.box cs) (.box (lay cs o ds)) := (lay_length cs o ds).symm
          have hr' : (C.kill us0).w.heap[n]? = some (.cells carr e fr) := hr
          have hx2 := ext_write (C := C.kill us0) (carr' := carr) hlv' hi hr' rfl hlk
          have hk2 := ok_write hk1 (carr' := carr) hlv' hi hr' rfl hlk
            ⟨n, carr, e, fr, hi, setRow_same _ _ _ _ _ _ hr', by rw [lay_length]; exact hs, hf, fun j c hj => by
              obtain ⟨u, h1, h2, h3⟩ := hds j c hj
              exact ⟨u, h1, hx2.va h2, h3⟩⟩
          have hw : ((C.kill us0).write id n carr (.box (lay cs o ds))).w = C.w := setRow_self C.w n carr e fr hr
          exact ⟨_, hw, by rw [putUps_append]; rfl, hx1.trans hx2, hk2, ⟨_, rfl, r1.mono fun _ _ h => hx2.vp h⟩⟩
        · cases h
      · rename_i hag
        split at h
        · rename_i c rest hd
          obtain ⟨rfl, rfl⟩ := two_inj h
          have hc0 : cs[o]? = some c := by
            have := congrArg List.head? hd
            simpa [List.head?_drop] using this
          obtain ⟨u, h1, h2, _⟩ := hc o c hc0
          refine ⟨u, run_loadAt_one hty (by simpa using hag) ?_, Gives.same hok h2⟩
          rw [cells_get carr n _ hr]; exact h1
        · cases h
    · cases h
  · -- read-only cells
    rename_i cs
    obtain ⟨b, off, rfl, hb, hO, hc⟩ := ha
    split at h
    · rename_i hag
      split at h
      · rename_i hle
        obtain ⟨rfl, rfl⟩ := two_inj h
        have hle' : P.cellsOf t ≤ cs.length := Nat.le_of_ble_eq_true hle
        let f : Nat → Value := fun j => (C.w.cell? ⟨b, off + j, none⟩).getD Go.undef
        have hrun := run_loadCells (P := P) C.w ⟨b, off, none⟩ (P.cellsOf t) f (fun j hj => by
          rw [addr_add]
          obtain ⟨x, hx, _⟩ := hc j cs[j] (by simp)
          simp [f, hx])
        refine ⟨_, run_loadAt_agg hty hag hrun, Gives.same hok ⟨_, rfl, ?_⟩⟩
        refine All2.of_get (by simp [hle']) fun j c x hj hx => ?_
        rw [List.getElem?_take] at hj
        split at hj
        · rename_i hjl
          obtain ⟨y, hy, hp⟩ := hc j c hj
          simp [hjl] at hx
          rw [← hx]
          simp [f, hy, hp]
        · cases hj
      · cases h
    · rename_i hag
      split at h
      · rename_i c rest
        obtain ⟨rfl, rfl⟩ := two_inj h
        obtain ⟨x, hx, hp⟩ := hc 0 c (by simp)
        exact ⟨x, run_loadAt_one hty (by simpa using hag) (by simpa using hx), Gives.same hok hp⟩
      · cases h
  · -- an element of an owned slice
    rename_i id i o
    split at h
    · rename_i sz es ss hb hsh
      have hlv := hl _ _ hb
      obtain ⟨hk, n, k0, rfl, hp⟩ := ha
      obtain ⟨hlt, hi, rfl⟩ := hp sz es hlv
      split at h
      · rename_i hcond
        simp only [Bool.and_eq_true] at hcond
        have hosz : o + ss.length ≤ sz := Nat.le_of_ble_eq_true hcond.1
        have hlen : ss.length = cond (isAggT P t) (P.cellsOf t) 1 := Nat.eq_of_beq_eq_true hcond.2
        obtain ⟨hcs, h⟩ := ctl_some h
        rcases hok.blk id _ hlv with ⟨hn, _⟩ | ⟨n', carr, e, fr, hi', hr, hs, hf, hz, hone, hc⟩
        · rw [hi] at hn; cases hn
        · rw [hi] at hi'; cases hi'
          have hei : es[i]? = some (nth [] es i) := by rw [nth_eq]; simp [List.getD, hlt]
          have hesz : (nth [] es i).length = sz := hz _ (List.mem_iff_getElem?.2 ⟨i, hei⟩)
          -- the cells
          have hrel : All2 C.P (canCs ss (nth [] es i) o) ((carr.toList.drop (i * sz + o)).take ss.length) := by
            refine canCs_sound hcs (fun j hj => ?_) ?_
            · unfold cut at hj ⊢
              simp at hj
              rw [nth_eq PV.nilp, nth_eq PV.nilp]
              simp only [List.getD_eq_getElem?_getD, List.getElem?_take, List.getElem?_drop]
              rw [if_pos (by omega)]
            · have hsz2 : (i + 1) * sz ≤ carr.size := Nat.le_trans (Nat.mul_le_mul_right sz hlt) hs
              have hsz3 : i * sz + sz ≤ carr.size := by rw [Nat.succ_mul] at hsz2; exact hsz2
              refine All2.of_get (by simp [cut]; omega) fun j c x hj hx => ?_
              unfold cut at hj
              rw [List.getElem?_take, List.getElem?_drop] at hj hx
              split at hj
              · rename_i hjl
                obtain ⟨y, hy, hp2⟩ := hc i (o + j) _ c hei hj
                rw [if_pos hjl] at hx
                have hx' : carr[i * sz + (o + j)]? = some x := by
                  rw [show i * sz + (o + j) = i * sz + o + j by omega]; simpa using hx
                rw [hx'] at hy; cases hy; exact hp2
              · cases hj
          have hll : ((carr.toList.drop (i * sz + o)).take ss.length).length = ss.length := by
            have hsz2 : (i + 1) * sz ≤ carr.size := Nat.le_trans (Nat.mul_le_mul_right sz hlt) hs
            have hsz3 : i * sz + sz ≤ carr.size := by rw [Nat.succ_mul] at hsz2; exact hsz2
            simp; omega
          split at h
          · rename_i v' hv'
            obtain ⟨rfl, rfl⟩ := two_inj h
            obtain ⟨_, ⟨hag, rfl⟩ | ⟨hag, c, hcc, rfl⟩⟩ := oneOrAgg_some hv'
            · rw [hag] at hlen
              have hlen' : ss.length = P.cellsOf t := hlen
              rw [hlen'] at hll hrel
              exact ⟨_, run_loadAt_agg hty hag (run_cells hr hll), Gives.same hok ⟨_, rfl, hrel⟩⟩
            · rw [hag] at hlen
              have hlen' : ss.length = 1 := hlen
              rw [hlen'] at hll hrel
              rw [hcc] at hrel
              cases hd : (carr.toList.drop (i * sz + o)).take 1 with
              | nil => rw [hd] at hll; cases hll
              | cons x l =>
                rw [hd] at hrel
                have hx : carr[i * sz + o]? = some x := by
                  have := congrArg List.head? hd
                  simpa [List.head?_take, List.head?_drop] using this
                exact ⟨x, run_loadAt_one hty hag (by rw [cells_get carr n _ hr]; exact hx), Gives.same hok hrel.1⟩
          · cases h
      · cases h
    · cases h
  · cases h

end Go.Proofs.YtpnpdkgdgfkpfaaGreatDoor.Vm
