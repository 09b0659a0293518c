/- The abstract machine, part 25: which blocks a step touches. -/
import Derived.Test.YtpnpdkgdgfkpfaaGreatDoorVm24
namespace Go.Proofs.YtpnpdkgdgfkpfaaGreatDoor.Vm
set_option linter.unusedVariables false
set_option linter.unusedSimpArgs false

def Touch (look : Look) (b : Bool) (nid : Nat) (us : Ups) : Prop := ∀ u ∈ us, (look u.1).isSome = true ∨ (b = true ∧ (u.1 = nid ∨ u.1 = nid + 1))

theorem Touch.nil {look : Look} {b : Bool} {nid : Nat} : Touch look b nid [] := fun u hu => by cases hu
theorem Touch.append {look : Look} {b : Bool} {nid : Nat} {us vs : Ups} (h : Touch look b nid us) (k : Touch look b nid vs) : Touch look b nid (us ++ vs) := fun u hu => (List.mem_append.1 hu).elim (h u) (k u)
theorem Touch.one {look : Look} {b : Bool} {nid : Nat} {id : Nat} {e : Ent} {x : Blk} (h : look id = some x) : Touch look b nid [(id, e)] := fun u hu => by
  simp only [List.mem_singleton] at hu; subst hu; exact .inl (by rw [h]; rfl)
theorem Touch.new {look : Look} {nid : Nat} {e : Ent} : Touch look true nid [(nid, e)] := fun u hu => by
  simp only [List.mem_singleton] at hu; subst hu; exact .inr ⟨rfl, .inl rfl⟩
theorem Touch.cons {look : Look} {b : Bool} {nid : Nat} {id : Nat} {e : Ent} {x : Blk} {us : Ups} (h : look id = some x) (k : Touch look b nid us) : Touch look b nid ((id, e) :: us) := Touch.append (us := [(id, e)]) (.one h) k

theorem pureT_touch {look : Look} {b : Bool} {nid : Nat} {v : TV} {vs : List PV} {us : Ups} (h : pureT look v = some (vs, us)) : Touch look b nid us := by
  cases v with
  | p v => cases h; exact .nil
  | agg cs => cases h; exact .nil
  | hsl id =>
    simp only [pureT] at h
    split at h
    · rename_i hl; cases h; exact .one hl
    · cases h
  | ptr id o => cases h

theorem pureA_touch {look : Look} {b : Bool} {nid : Nat} {v : AV} {vs : List PV} {us : Ups} (h : pureA look v = some (vs, us)) : Touch look b nid us := by
  unfold pureA at h
  split at h
  · exact pureT_touch h
  · cases h; exact .nil
  · intro y hy
    obtain ⟨w, x, z, h1, h2⟩ := pureTs_from h y hy
    exact pureT_touch h1 y h2
  · cases h

theorem loadBox_touch {look : Look} {b : Bool} {nid : Nat} : ∀ {cs : List AV} {vs : List PV} {ds : List AV} {us : Ups}, loadBox look cs = some (vs, ds, us) → Touch look b nid us
  | [], _, _, _, h => by cases h; exact .nil
  | c :: cs, vs, ds, us, h => by
    simp only [loadBox] at h
    split at h
    · rename_i h1 h2
      cases h
      exact (pureA_touch h1).append (loadBox_touch h2)
    · cases h

theorem fillA_touch {look : Look} {b : Bool} {nid : Nat} {pl : Nat → Option (Nat × Nat)} {ev : Operand → AV} : ∀ {parts : List (Nat × Operand)} {cells r : List PV} {us : Ups}, fillA pl look ev cells parts = some (r, us) → Touch look b nid us
  | [], _, _, _, h => by cases h; exact .nil
  | (i, x) :: l, cells, r, us, h => by
    simp only [fillA] at h
    split at h
    · rename_i h2
      split at h
      · split at h
        · rename_i h3
          cases h
          exact (pureA_touch h2).append (fillA_touch h3)
        · cases h
      · cases h
    · cases h

theorem loadK_touch {P : Program} {look : Look} {b : Bool} {nid : Nat} {t : TypeId} {a v : AV} {us : Ups} (h : loadK P look t a two = some (v, us)) : Touch look b nid us := by
  unfold loadK at h
  split at h
  · split at h
    · split at h
      · rename_i hl
        split at h
        · split at h
          · obtain ⟨_, rfl⟩ := two_inj h; exact .nil
          · rename_i hb
            obtain ⟨_, rfl⟩ := two_inj h
            exact (loadBox_touch hb).append (.one hl)
          · cases h
        · split at h
          · obtain ⟨_, rfl⟩ := two_inj h; exact .nil
          · cases h
      · cases h
    · split at h
      · split at h
        · obtain ⟨_, rfl⟩ := two_inj h; exact .nil
        · cases h
      · split at h
        · obtain ⟨_, rfl⟩ := two_inj h; exact .nil
        · cases h
    · split at h
      · split at h
        · obtain ⟨_, h⟩ := ctl_some h
          split at h
          · obtain ⟨_, rfl⟩ := two_inj h; exact .nil
          · cases h
        · cases h
      · cases h
    · cases h
  · cases h

theorem storeK_touch {P : Program} {look : Look} {b : Bool} {nid : Nat} {t : TypeId} {a x v : AV} {us : Ups} (h : storeK P look t a x two = some (v, us)) : Touch look b nid us := by
  unfold storeK at h
  split at h
  · split at h
    · split at h
      · rename_i hl _
        split at h
        · obtain ⟨_, rfl⟩ := two_inj h; exact .one hl
        · cases h
      · cases h
    · split at h
      · rename_i hl hp
        split at h
        · obtain ⟨_, rfl⟩ := two_inj h; exact (pureA_touch hp).append (.one hl)
        · cases h
      · cases h
    · cases h
  · cases h

theorem indexAddrK_touch {P : Program} {look : Look} {b : Bool} {nid : Nat} {t : TypeId} {x ix v : AV} {us : Ups} (h : indexAddrK P look t x ix two = some (v, us)) : Touch look b nid us := by
  unfold indexAddrK at h
  split at h
  · split at h
    · split at h
      · split at h
        · obtain ⟨_, _, _, h⟩ := getE_some h
          obtain ⟨_, h⟩ := ctl_some h
          obtain ⟨_, rfl⟩ := two_inj h; exact .nil
        · cases h
      · cases h
    · split at h
      · split at h
        · obtain ⟨_, h⟩ := ctl_some h
          obtain ⟨_, rfl⟩ := two_inj h; exact .nil
        · cases h
      · cases h
    · cases h
  · split at h
    · split at h
      · obtain ⟨_, _, _, _, h⟩ := casesI_some h; obtain ⟨_, rfl⟩ := two_inj h; exact .nil
      · obtain ⟨_, _, _, _, h⟩ := casesI_some h; obtain ⟨_, rfl⟩ := two_inj h; exact .nil
      · obtain ⟨_, _, _, _, h⟩ := casesI_some h; obtain ⟨_, rfl⟩ := two_inj h; exact .nil
      · cases h
    · cases h
  · cases h

theorem indexK_touch {P : Program} {look : Look} {b : Bool} {nid : Nat} {t : TypeId} {x ix v : AV} {us : Ups} (h : indexK P t x ix two = some (v, us)) : Touch look b nid us := by
  unfold indexK at h
  split at h
  · split at h
    · split at h
      · obtain ⟨_, _, _, h⟩ := getE_some h
        obtain ⟨_, h⟩ := ctl_some h
        split at h
        · obtain ⟨_, rfl⟩ := two_inj h; exact .nil
        · cases h
      · cases h
    · cases h
  · obtain ⟨_, h⟩ := ctl_some h
    obtain ⟨_, rfl⟩ := two_inj h; exact .nil
  · cases h

theorem sliceK_touch {P : Program} {look : Look} {b : Bool} {nid : Nat} {t : TypeId} {x v : AV} {lo hi : Option Int} {us : Ups} (h : sliceK P look t x lo hi two = some (v, us)) : Touch look b nid us := by
  unfold sliceK at h
  split at h
  · obtain ⟨_, h⟩ := ctl_some h
    obtain ⟨_, rfl⟩ := two_inj h; exact .nil
  · split at h
    · obtain ⟨_, h⟩ := ctl_some h
      obtain ⟨_, rfl⟩ := two_inj h; exact .nil
    · cases h
  · split at h
    · rename_i hl
      split at h
      · obtain ⟨_, h⟩ := ctl_some h
        obtain ⟨_, rfl⟩ := two_inj h; exact .one hl
      · cases h
    · cases h
  · cases h

theorem appendK_touch {P : Program} {look : Look} {nid : Nat} {ts : List TypeId} {s x v : AV} {us : Ups} (h : appendK P look nid ts s x two = some (v, us)) : Touch look true nid us := by
  unfold appendK at h
  split at h
  · split at h
    · split at h
      · split at h
        · split at h
          · obtain ⟨_, h⟩ := ctl_some h
            obtain ⟨_, rfl⟩ := two_inj h; exact .new
          · split at h
            · rename_i hl
              split at h
              · obtain ⟨_, h⟩ := ctl_some h
                obtain ⟨_, rfl⟩ := two_inj h; exact .cons hl .new
              · cases h
            · cases h
          · cases h
        · cases h
      · cases h
    · cases h
  · cases h

theorem makeSliceK_touch {P : Program} {look : Look} {nid : Nat} {t : TypeId} {l c v : AV} {us : Ups} (h : makeSliceK P nid t l c two = some (v, us)) : Touch look true nid us := by
  unfold makeSliceK at h
  split at h
  · split at h
    · split at h
      · obtain ⟨_, h⟩ := ctl_some h
        obtain ⟨_, rfl⟩ := two_inj h; exact .new
      · cases h
    · cases h
  · cases h

theorem binK_touch {P : Program} {look : Look} {b : Bool} {nid : Nat} {op : BinOp} {xt : TypeId} {x y v : AV} {us : Ups} (h : binK P op xt x y (fun v => two (.t (.p v)) []) = some (v, us)) : Touch look b nid us := by
  have hn := binK_nat P op xt x y some (fun v => two (.t (.p v)) [])
  have h' := hn.trans h
  obtain ⟨p, _, hp⟩ := Option.bind_eq_some_iff.1 h'
  obtain ⟨_, rfl⟩ := two_inj hp
  exact .nil

theorem execK_touch {P : Program} {look : Look} {nid : Nat} {op : Op} {ev : Operand → AV} {v : AV} {us : Ups} (h : execK P look nid op ev two = some (v, us)) : Touch look (brings op) nid us := by
  unfold execK at h
  split at h
  · obtain ⟨_, rfl⟩ := two_inj h; exact .nil
  · obtain ⟨_, rfl⟩ := two_inj h; exact .nil
  · split at h
    · rename_i t hc
      cases t
      · obtain ⟨_, rfl⟩ := two_inj h; exact .nil
      · obtain ⟨_, rfl⟩ := two_inj h; exact .nil
    · cases h
  · split at h
    · split at h
      · obtain ⟨_, rfl⟩ := two_inj h; exact .new
      · cases h
    · cases h
  · split at h
    · obtain ⟨_, rfl⟩ := two_inj h; exact .new
    · cases h
  · split at h
    · split at h
      · split at h
        · split at h
          · split at h
            · obtain ⟨_, rfl⟩ := two_inj h; exact .nil
            · cases h
          · cases h
        · split at h
          · rename_i hf
            obtain ⟨_, rfl⟩ := two_inj h; exact fillA_touch (fillX_eq hf)
          · cases h
      · cases h
    · cases h
  · split at h
    · split at h
      · split at h
        · split at h
          · rename_i hf
            obtain ⟨_, rfl⟩ := two_inj h; exact (fillA_touch (fillX_eq hf)).append .new
          · cases h
        · cases h
      · cases h
    · cases h
  · exact loadK_touch h
  · exact storeK_touch h
  · split at h
    · obtain ⟨_, rfl⟩ := two_inj h; exact .nil
    · obtain ⟨_, rfl⟩ := two_inj h; exact .nil
    · obtain ⟨_, rfl⟩ := two_inj h; exact .nil
    · cases h
  · rename_i y _
    cases hni : isNilI y with
    | true =>
      rw [hni, cond_true] at h
      unfold nilK at h
      split at h
      · split at h
        · obtain ⟨_, rfl⟩ := two_inj h; exact .nil
        · obtain ⟨_, rfl⟩ := two_inj h; exact .nil
        · cases h
      · cases h
    | false => rw [hni, cond_false] at h; exact binK_touch h
  · unfold unK at h
    split at h
    · obtain ⟨_, rfl⟩ := two_inj h; exact .nil
    · obtain ⟨_, rfl⟩ := two_inj h; exact .nil
    · cases h
  · unfold convertK at h
    split at h
    · obtain ⟨_, rfl⟩ := two_inj h; exact .nil
    · obtain ⟨_, rfl⟩ := two_inj h; exact .nil
    · split at h
      · obtain ⟨_, rfl⟩ := two_inj h; exact .new
      · cases h
    · split at h
      · split at h
        · obtain ⟨_, rfl⟩ := two_inj h; exact .nil
        · cases h
      · cases h
    · split at h
      · split at h
        · split at h
          · obtain ⟨_, h⟩ := ctl_some h
            obtain ⟨_, rfl⟩ := two_inj h; exact .nil
          · cases h
        · cases h
      · cases h
    · cases h
  · split at h
    · obtain ⟨_, rfl⟩ := two_inj h; exact .nil
    · cases h
  · exact makeSliceK_touch h
  · split at h
    · exact sliceK_touch h
    · cases h
  · split at h
    · split at h
      · split at h
        · split at h
          · obtain ⟨_, rfl⟩ := two_inj h; exact .nil
          · cases h
        · cases h
      · cases h
    · cases h
  · split at h
    · split at h
      · split at h
        · split at h
          · obtain ⟨_, rfl⟩ := two_inj h; exact .nil
          · cases h
        · cases h
      · cases h
    · cases h
  · exact indexAddrK_touch h
  · exact indexK_touch h
  · split at h
    · split at h
      · obtain ⟨_, rfl⟩ := two_inj h; exact .nil
      · cases h
    · cases h
  · unfold builtinK at h
    split at h
    · split at h
      · split at h
        · obtain ⟨_, rfl⟩ := two_inj h; exact .nil
        · split at h
          · obtain ⟨_, rfl⟩ := two_inj h; exact .nil
          · cases h
        · split at h
          · obtain ⟨_, rfl⟩ := two_inj h; exact .nil
          · cases h
        · cases h
      · cases h
    · split at h
      · obtain ⟨_, rfl⟩ := two_inj h; exact .nil
      · cases h
    · split at h
      · obtain ⟨_, rfl⟩ := two_inj h; exact .nil
      · cases h
    · exact appendK_touch h
    · cases h
  · cases h

theorem bring_touch {look : Look} {nid : Nat} : ∀ {rsh : List RSh} {n i : Nat} {rs : List RV}, nid ≤ n → n + owns rsh ≤ nid + 2 → Touch look true nid (bring n rsh i rs).2
  | [], _, _, _, _, _ => .nil
  | .one s :: l, n, i, rs, h1, h2 => bring_touch (rsh := l) h1 h2
  | .agg ss :: l, n, i, rs, h1, h2 => bring_touch (rsh := l) h1 h2
  | .own sz :: l, n, i, rs, h1, h2 => by
    simp only [owns] at h2
    have := bring_touch (look := look) (rsh := l) (n := n + 1) (i := i + 1) (rs := rs) (nid := nid) (by omega) (by omega)
    intro u hu
    simp only [bring, List.mem_cons] at hu
    rcases hu with rfl | hu
    · exact .inr ⟨rfl, by simp only; omega⟩
    · exact this u hu
  | .ownp ss :: l, n, i, rs, h1, h2 => by
    simp only [owns] at h2
    have := bring_touch (look := look) (rsh := l) (n := n + 1) (i := i + 1) (rs := rs) (nid := nid) (by omega) (by omega)
    intro u hu
    simp only [bring, List.mem_cons] at hu
    rcases hu with rfl | hu
    · exact .inr ⟨rfl, by simp only; omega⟩
    · exact this u hu

theorem callK_touch {E : Env} {F : Fun} {look : Look} {nid f : Nat} {args : List AV} {v : AV} {us : Ups} (h : callK E F look nid f args two = some (v, us)) : Touch look true nid us := by
  unfold callK at h
  split at h
  · split at h
    · cases h
    · split at h
      · cases h
      · split at h
        · rename_i hown
          dsimp only at h
          split at h
          · rename_i hpa hpb
            unfold bnd at h
            obtain ⟨r, _, h⟩ := Option.bind_eq_some_iff.1 h
            obtain ⟨_, h⟩ := ctl_some h
            obtain ⟨_, rfl⟩ := two_inj h
            refine Touch.append (fun u hu => ?_) (bring_touch (Nat.le_refl _) (by have := Nat.le_of_ble_eq_true hown; omega))
            obtain ⟨_, _, hat⟩ := passB_at hpb
            obtain ⟨k, b, h1, h2, h3⟩ := mem_zipUps (id := u.1) (e := u.2) hu
            obtain ⟨b', _, h4, _⟩ := hat k _ h1
            exact .inl (by rw [h4]; rfl)
          · cases h
        · dsimp only at h
          split at h <;> cases h
  · cases h

theorem frzA_touch {E : Env} {look : Look} {f : Nat} {b : Bool} {nid : Nat} : ∀ {args : List AV} {i : Nat}, Touch look b nid (frzA E look f i args).2
  | [], i => .nil
  | a :: l, i => by
    have ih := frzA_touch (E := E) (look := look) (f := f) (b := b) (nid := nid) (args := l) (i := i + 1)
    simp only [frzA]
    split
    · cases has2 f i E.frz with
      | false => exact ih
      | true =>
        rw [cond_true]
        split
        · rename_i hl; exact .cons hl ih
        · exact ih
    · split
      · rename_i hp
        refine Touch.append (fun y hy => ?_) ih
        obtain ⟨w, x, z, h1, h2⟩ := pureTs_from hp y hy
        exact pureT_touch h1 y h2
      · exact ih
    · exact ih

theorem callF_touch {E : Env} {F : Fun} {look : Look} {nid f : Nat} {args : List AV} {v : AV} {us : Ups} (h : callF E F look nid f args two = some (v, us)) : Touch look true nid us := by
  unfold callF at h
  have hn' := (callK_nat E F (frzLook look (frzA E look f 0 args).2) nid f (frzA E look f 0 args).1 two (fun p : P2 => two p.1 ((frzA E look f 0 args).2 ++ p.2))).trans h
  obtain ⟨⟨v', us'⟩, h1, h2⟩ := Option.bind_eq_some_iff.1 hn'
  obtain ⟨rfl, rfl⟩ := two_inj h2
  refine frzA_touch.append fun u hu => (callK_touch h1 u hu).imp (fun h => ?_) fun h => h
  unfold frzLook at h
  cases hc : (frzA E look f 0 args).2.any fun x => Nat.beq x.1 u.1 with
  | true => rw [hc] at h; cases h
  | false => rw [hc] at h; exact h

theorem bldOf_touch {look : Look} {id : Nat} {js : List Nat} {es : List (List PV)} (h : bldOf look id = some (js, es)) : (∃ b, look id = some b) ∧ ∀ j ∈ js, ∃ b, look j = some b := by
  unfold bldOf at h
  split at h
  · rename_i c0 c1 hl
    refine ⟨⟨_, hl⟩, ?_⟩
    split at h
    · unfold bldEs at h
      split at h
      · cases h; intro j hj; cases hj
      · split at h
        · rename_i hlj
          split at h
          · cases h
            intro j hj
            simp only [List.mem_singleton] at hj
            subst hj
            exact ⟨_, hlj⟩
          · cases h
        · cases h
      · cases h
    · cases h
  · cases h

theorem hprK_touch {k : HPrim} {look : Look} {nid : Nat} {args : List AV} {v : AV} {us : Ups} (h : hprK k look nid args two = some (v, us)) : Touch look true nid us := by
  have hjs : ∀ {js : List Nat} {b : Bool}, (∀ j ∈ js, ∃ b, look j = some b) → Touch look b nid (js.map fun j => (j, Ent.dead)) := fun hj u hu => by
    obtain ⟨j, hm, rfl⟩ := List.mem_map.1 hu
    obtain ⟨b, hb⟩ := hj j hm
    exact .inl (by show (look j).isSome = true; rw [hb]; rfl)
  unfold hprK at h
  split at h
  · split at h
    · rename_i hb
      obtain ⟨⟨x, hx⟩, hj⟩ := bldOf_touch hb
      obtain ⟨_, h⟩ := ctl_some h
      obtain ⟨_, rfl⟩ := two_inj h
      exact (hjs hj).append (Touch.append (us := [_]) .new (.one hx))
    · cases h
  · split at h
    · rename_i hb
      obtain ⟨_, hj⟩ := bldOf_touch hb
      obtain ⟨_, h⟩ := ctl_some h
      obtain ⟨_, rfl⟩ := two_inj h
      exact hjs hj
    · cases h
  · split at h
    · rename_i hl
      split at h
      · obtain ⟨_, rfl⟩ := two_inj h
        exact .cons hl .new
      · cases h
    · cases h
  · cases h

theorem opK_touch {E : Env} {F : Fun} {look : Look} {nid : Nat} {op : Op} {ev : Operand → AV} {v : AV} {us : Ups} (h : opK E F look nid op ev two = some (v, us)) : Touch look (brings op) nid us := by
  unfold opK at h
  split at h
  · rename_i hop
    split at h
    · split at h
      · split at h
        · exact hprK_touch h
        · cases h
      · exact callF_touch h
    · exact callF_touch h
    · cases h
  · exact execK_touch h

theorem eff_fresh {E : Env} {F : Fun} {ops : Array Oper} {dr : Bool} {t : It} {st : St} {r : Tr} {e : AV × Ups} (h : eff E F ops dr t st = some (r, e)) {n : Nat} (hf : nth Ent.fresh st.heap n = .fresh) (hn : brings t.o.op = true → n ≠ t.nid ∧ n ≠ t.nid + 1) :
    nth Ent.fresh (put t e st).heap n = .fresh := by
  obtain ⟨v, us⟩ := e
  show nth Ent.fresh (putUps us st.heap) n = _
  rw [putUps_get_of_not, hf]
  rcases eff_op h with ⟨_, _, rfl⟩ | ⟨_, look, hl, hop⟩
  · intro u hu; cases hu
  · intro u hu he
    rcases opK_touch hop u hu with h1 | ⟨hb, h1⟩
    · obtain ⟨b, hb⟩ := Option.isSome_iff_exists.1 h1
      have := lookH_live.1 (hl _ _ hb)
      rw [he] at this
      unfold live at this
      rw [hf] at this
      cases this
    · have := hn hb
      omega

theorem put_length (t : It) (e : AV × Ups) (st : St) : (put t e st).heap.length = st.heap.length := length_putUps _ _

end Go.Proofs.YtpnpdkgdgfkpfaaGreatDoor.Vm
