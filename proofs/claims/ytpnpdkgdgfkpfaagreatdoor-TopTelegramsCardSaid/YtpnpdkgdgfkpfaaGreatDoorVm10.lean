/- The abstract machine, part 10: operations against the model's: stores, new blocks, aggregates. -/
import Derived.Test.YtpnpdkgdgfkpfaaGreatDoorVm9
namespace Go.Proofs.YtpnpdkgdgfkpfaaGreatDoor.Vm
set_option linter.unusedVariables false
set_option linter.unusedSimpArgs false

def Puts (C : Ctx) (us : Ups) (w' : World) : Prop := ∃ C' : Ctx, C'.w = w' ∧ C'.h = putUps us C.h ∧ Ext C C' ∧ Ok C'

theorem run_storeAt {P : Program} {w : World} {t : TypeId} (ht : tyOk P t = true) {n o : Nat} {u : Value} {carr : Array Value} {e : TypeId} {fr : Nat × Nat}
    (hr : w.heap[n]? = some (.cells carr e fr)) (hf : noFr carr fr) (hs : u.cells.toList.length = P.cellsOf t) (hfit : o + u.cells.toList.length ≤ carr.size) (h1 : ∀ x ∈ u.cells.toList, x.oneCell' = true) :
    (Instr.storeAt t (.pointer (some ⟨n, o, none⟩)) u).run P w = .ok () (w.setRow n (carr.toList.take o ++ u.cells.toList ++ carr.toList.drop (o + u.cells.toList.length)).toArray) := by
  have hst := run_storeCells_fr (P := P) n o e fr u.cells.toList 0 carr w hr hf (by simpa using hfit) h1
  have hs' : u.cells.size = P.cellsOf t := by simpa using hs
  simp only [Nat.add_zero] at hst
  simp [Instr.storeAt, storeVar, sure_ptr, run_sizeOf ht, hs', hst]

theorem splice_size (carr : Array Value) (o : Nat) (vs : List Value) (h : o + vs.length ≤ carr.size) : (carr.toList.take o ++ vs ++ carr.toList.drop (o + vs.length)).toArray.size = carr.size := by
  simp; omega

theorem splice_get (carr : Array Value) (o : Nat) (vs : List Value) (h : o + vs.length ≤ carr.size) (j : Nat) :
    (carr.toList.take o ++ vs ++ carr.toList.drop (o + vs.length)).toArray[j]? = if o ≤ j ∧ j < o + vs.length then vs[j - o]? else carr[j]? := by
  have := get_splice carr.toList vs o j (by simpa using h)
  simpa using this

theorem mul_lt_of {i k sz j : Nat} (hik : i < k) (hj : j < sz) : i * sz + j < k * sz := by
  have h1 : (i + 1) * sz ≤ k * sz := Nat.mul_le_mul_right sz hik
  rw [Nat.succ_mul] at h1
  omega

theorem storeK_sound {C : Ctx} (hok : Ok C) {P : Program} {look : Look} (hl : LookOk C look) {t : TypeId} {a x v : AV} {us : Ups} {ua ux : Value} (ha : VA C a ua) (hx : VA C x ux)
    (h : storeK P look t a x two = some (v, us)) : ∃ w', (Instr.storeAt t ua ux).run P C.w = .ok () w' ∧ Puts C us w' ∧ v = .no := by
  unfold storeK at h
  split at h
  case isFalse => cases h
  rename_i hty
  split at h
  · rename_i id o
    split at h
    · rename_i cs hb hagg
      split at h
      · rename_i hcond
        obtain ⟨rfl, rfl⟩ := two_inj h
        simp only [Bool.and_eq_true] at hcond
        have hsz : (cellsA x).length = P.cellsOf t := Nat.eq_of_beq_eq_true hcond.1
        have hfit : o + (cellsA x).length ≤ cs.length := Nat.le_of_ble_eq_true hcond.2
        have hlv := hl _ _ hb
        obtain ⟨hk, n, rfl, hp⟩ := ha
        have hi := hp cs hlv
        obtain ⟨n', carr, e, fr, hi', hr, hs, hf, hc⟩ := hok.blk id _ hlv
        rw [hi] at hi'; cases hi'
        obtain ⟨hca, hco⟩ := cellsA_sound hagg hx
        have hlen := hca.length
        have hfit' : o + ux.cells.toList.length ≤ carr.size := by omega
        refine ⟨_, run_storeAt hty hr hf (by omega) hfit' hco, ?_, rfl⟩
        have hlk : like (.box cs) (.box (lay cs o (cellsA x))) := (lay_length _ _ _).symm
        have hss := splice_size carr o ux.cells.toList hfit'
        have hx2 := ext_write hlv hi hr hss hlk
        refine ⟨C.write id n _ (.box (lay cs o (cellsA x))), rfl, rfl, hx2, ok_write hok hlv hi hr hss hlk ?_⟩
        refine ⟨n, _, e, fr, hi, setRow_same _ _ _ _ _ _ hr, by rw [hss, hs, lay_length], hf.size hss, fun j c hj => ?_⟩
        rw [lay_get _ _ _ _ hfit] at hj
        rw [splice_get carr o _ hfit']
        split at hj
        · rename_i hjo
          obtain ⟨u, h1, h2⟩ := hca.get _ _ hj
          rw [if_pos (by omega)]
          exact ⟨u, h1, hx2.va h2, hco u (List.mem_iff_getElem?.2 ⟨_, h1⟩)⟩
        · rename_i hjo
          rw [if_neg (by omega)]
          obtain ⟨u, h1, h2, h3⟩ := hc j c hj
          exact ⟨u, h1, hx2.va h2, h3⟩
      · cases h
    · cases h
  · rename_i id i o
    split at h
    · rename_i sz es vs us0 hb hpu
      split at h
      · rename_i hcond
        obtain ⟨rfl, rfl⟩ := two_inj h
        simp only [Bool.and_eq_true] at hcond
        have hsz : vs.length = P.cellsOf t := Nat.eq_of_beq_eq_true hcond.1.1
        have hfit : o + vs.length ≤ sz := Nat.le_of_ble_eq_true hcond.1.2
        have hlv := hl _ _ hb
        obtain ⟨hk, n, k0, rfl, hp⟩ := ha
        obtain ⟨hlt, hi, rfl⟩ := hp sz es hlv
        have hd := pureA_dead hpu
        -- what is stored
        have hpure := pureA_sound hok hl hx hpu hd (fun y hy => hy)
        have hone : ∀ y ∈ ux.cells.toList, y.oneCell' = true := by
          intro y hy
          obtain ⟨j, hj⟩ := List.mem_iff_getElem?.1 hy
          have hjl : j < vs.length := by rw [hpure.length]; exact (List.getElem?_eq_some_iff.1 hj).1
          obtain ⟨z, hz, hp2⟩ := hpure.get j vs[j] (by simp [hjl])
          rw [hj] at hz; cases hz
          exact VP.oneCell hp2
        have hlen := hpure.length
        by_cases hdead : (id, Ent.dead) ∈ us0
        · have := List.all_eq_true.1 hcond.2 _ hdead
          simp at this
        · have hne : ∀ e', (id, e') ∉ us0 := fun e' hm => by
            have := hd _ hm
            simp only at this
            subst this
            exact hdead hm
          have hlv' : live (C.kill us0).h id (.arr sz es) := live_put_ne hne hlv
          have hk1 := ok_kill hok hd
          have hx1 := ext_kill C hd
          rcases hok.blk id _ hlv with ⟨hn, _⟩ | ⟨n', carr, e, fr, hi', hr, hs, hf, hz, hone2, hc⟩
          · rw [hi] at hn; cases hn
          · rw [hi] at hi'; cases hi'
            have hei : es[i]? = some (nth [] es i) := by rw [nth_eq]; simp [List.getD, hlt]
            have hesz : (nth [] es i).length = sz := hz _ (List.mem_iff_getElem?.2 ⟨i, hei⟩)
            have hrow : i * sz + sz ≤ carr.size := by
              have : (i + 1) * sz ≤ carr.size := Nat.le_trans (Nat.mul_le_mul_right sz hlt) hs
              rw [Nat.succ_mul] at this; exact this
            have hfit' : i * sz + o + ux.cells.toList.length ≤ carr.size := by omega
            refine ⟨_, run_storeAt hty hr hf (by omega) hfit' hone, ?_, rfl⟩
            have hlk : like (.arr sz es) (.arr sz (setEs es i o vs)) := ⟨rfl, by simp [setEs, length_upd]⟩
            have hss := splice_size carr (i * sz + o) ux.cells.toList hfit'
            have hr' : (C.kill us0).w.heap[n]? = some (.cells carr e fr) := hr
            have hx2 := ext_write (C := C.kill us0) hlv' hi hr' hss hlk
            refine ⟨(C.kill us0).write id n _ (.arr sz (setEs es i o vs)), rfl, by rw [putUps_append]; rfl, hx1.trans hx2, ok_write hk1 hlv' hi hr' hss hlk (.inr ?_)⟩
            refine ⟨n, _, e, fr, hi, setRow_same _ _ _ _ _ _ hr', by simp only [setEs, length_upd]; rw [hss]; exact hs, hf.size hss, ?_, ?_, ?_⟩
            · intro el hel
              obtain ⟨k, hk⟩ := List.mem_iff_getElem?.1 hel
              unfold setEs at hk
              rw [upd_eq, List.getElem?_set] at hk
              split at hk
              · have hk' : some (lay (nth [] es i) o vs) = some el := by simpa [hlt] using hk
                cases hk'; rw [lay_length]; exact hesz
              · exact hz _ (List.mem_iff_getElem?.2 ⟨k, hk⟩)
            · intro y hy
              obtain ⟨k, hk⟩ := List.mem_iff_getElem?.1 hy
              have hk' : (carr.toList.take (i * sz + o) ++ ux.cells.toList ++ carr.toList.drop (i * sz + o + ux.cells.toList.length)).toArray[k]? = some y := by simpa using hk
              rw [splice_get carr _ _ hfit'] at hk'
              split at hk'
              · exact hone y (List.mem_iff_getElem?.2 ⟨_, hk'⟩)
              · exact hone2 y (List.mem_iff_getElem?.2 ⟨k, by simpa using hk'⟩)
            · intro i' j el c he hj
              unfold setEs at he
              rw [upd_eq, List.getElem?_set] at he
              rw [splice_get carr _ _ hfit']
              split at he
              · rename_i hii
                subst hii
                have he' : some (lay (nth [] es i) o vs) = some el := by simpa [hlt] using he
                cases he'
                rw [lay_get _ _ _ _ (by omega)] at hj
                split at hj
                · rename_i hjo
                  obtain ⟨u, h1, h2⟩ := hpure.get _ _ hj
                  rw [if_pos (by omega)]
                  exact ⟨u, by rw [show i * sz + j - (i * sz + o) = j - o by omega]; exact h1, hx2.vp h2⟩
                · rename_i hjo
                  rw [if_neg (by omega)]
                  obtain ⟨u, h1, h2⟩ := hc i j _ c hei hj
                  exact ⟨u, h1, hx2.vp (hx1.vp h2)⟩
              · rename_i hii
                have hjs : j < sz := by
                  have := hz _ (List.mem_iff_getElem?.2 ⟨i', he⟩)
                  have h3 := (List.getElem?_eq_some_iff.1 hj).1
                  omega
                obtain ⟨u, h1, h2⟩ := hc i' j el c he hj
                rw [if_neg ?_]
                · exact ⟨u, h1, hx2.vp (hx1.vp h2)⟩
                · intro hr2
                  rcases Nat.lt_or_gt_of_ne hii with h1 | h1
                  · have := mul_lt_of (sz := sz) (j := o + (i' * sz + j - (i * sz + o))) h1 (by omega)
                    omega
                  · have := mul_lt_of (sz := sz) h1 hjs
                    omega
      · cases h
    · cases h
  · cases h

end Go.Proofs.YtpnpdkgdgfkpfaaGreatDoor.Vm
