/- The abstract machine, part 22: calls. -/
import Derived.Test.YtpnpdkgdgfkpfaaGreatDoorVm21
namespace Go.Proofs.YtpnpdkgdgfkpfaaGreatDoor.Vm
set_option linter.unusedVariables false
set_option linter.unusedSimpArgs false

def rawT : Nat → List RV → List TV
  | _, [] => []
  | n, .p v :: l => .p v :: rawT n l
  | n, .agg cs :: l => .agg cs :: rawT n l
  | n, .own _ _ :: l => .hsl n :: rawT (n + 1) l
  | n, .ownp _ :: l => .ptr n 0 :: rawT (n + 1) l
def rawB : List RV → List Blk
  | [] => []
  | .p _ :: l => rawB l
  | .agg _ :: l => rawB l
  | .own sz es :: l => .arr sz es :: rawB l
  | .ownp cs :: l => .box (cs.map AV.p) :: rawB l

def FOk (E : Env) (f : Nat) (args : List AV) (hs : List Blk) (rs : List RV) (hs' : List Blk) : Prop :=
  ∀ C : Ctx, Ok C → C.h = hs.map Ent.blk → ∀ us : Array Value, All2 (VA C) args us.toList →
    Calls E.P f us C.w fun e w' => match e with
      | .returned u => ∃ D : Ctx, D.w = w' ∧ Ext C D ∧ Ok D ∧ D.h = (hs' ++ rawB rs).map Ent.blk ∧ VA D (valOf (rawT hs.length rs)) u
      | _ => False

def HprOk (E : Env) : Prop := ∀ g k, findP g E.hpr = some k → hasN g E.okf = true ∧ ∀ (C : Ctx) (look : Look) (nid : Nat) (args : List AV) (v : AV) (us : Ups) (uargs : Array Value), Ok C → LookOk C look →
  (nth Ent.fresh C.h nid = .fresh ∧ nth Ent.fresh C.h (nid + 1) = .fresh ∧ nid + 1 < C.h.length) → All2 (VA C) args uargs.toList → hprK k look nid args two = some (v, us) →
    Calls E.P g uargs C.w fun e w' => match e with
      | .returned u => Gives C us v u w'
      | _ => False
structure FSound (E : Env) (F : Fun) : Prop where
  fn : ∀ f args hs rs hs', F f args hs = some (rs, hs') → hasN f E.okf = true → FOk E f args hs rs hs'
  hp : HprOk E

structure PrimsOk (E : Env) : Prop where
  pr : ∀ f p, findP f E.prims = some p → ∀ F, FSound E F → ∀ args rs, p.run F args = some rs → FOk E f args [] rs []
  hp : HprOk E

theorem mem_addN {l : List Nat} {x y : Nat} : y ∈ addN l x ↔ y ∈ l ∨ y = x := by
  unfold addN
  cases h : hasN x l with
  | true => simp only [cond_true]; exact ⟨.inl, fun h' => h'.elim id fun e => e ▸ hasN_iff.1 h⟩
  | false => simp
theorem nodup_addN {l : List Nat} {x : Nat} (h : l.Nodup) : (addN l x).Nodup := by
  unfold addN
  cases hh : hasN x l with
  | true => exact h
  | false =>
    simp only [cond_false]
    refine List.nodup_append.2 ⟨h, by simp, fun a ha b hb => ?_⟩
    simp only [List.mem_singleton] at hb
    subst hb
    intro he
    subst he
    rw [hasN_iff.2 ha] at hh
    cases hh

def capIds (s : List Nat) (c : TV) : List Nat := match c with | .ptr id _ => addN s id | _ => s
theorem capIds_mono {caps : List TV} : ∀ {s : List Nat} {x : Nat}, x ∈ s → x ∈ caps.foldl capIds s := by
  induction caps with
  | nil => intro s x h; exact h
  | cons c caps ih =>
    intro s x h
    refine ih ?_
    unfold capIds
    split
    · exact mem_addN.2 (.inl h)
    · exact h
theorem capIds_nodup {caps : List TV} : ∀ {s : List Nat}, s.Nodup → (caps.foldl capIds s).Nodup := by
  induction caps with
  | nil => intro s h; exact h
  | cons c caps ih =>
    intro s h
    refine ih ?_
    unfold capIds
    split
    · exact nodup_addN h
    · exact h
theorem capIds_mem {caps : List TV} : ∀ {s : List Nat} {id o : Nat}, TV.ptr id o ∈ caps → id ∈ caps.foldl capIds s := by
  induction caps with
  | nil => intro s id o h; cases h
  | cons c caps ih =>
    intro s id o h
    rcases List.mem_cons.1 h with rfl | h
    · show id ∈ caps.foldl capIds (addN s id)
      exact capIds_mono (mem_addN.2 (.inr rfl))
    · exact ih h

def argIds (E : Env) (f i : Nat) (a : AV) (ids : List Nat) : List Nat :=
  match a with
  | .t (.ptr id _) => addN ids id
  | .t (.hsl id) => cond (has2 f i E.mutA) (addN ids id) ids
  | .fn _ caps => caps.foldl capIds ids
  | _ => ids
theorem passIds_cons (E : Env) (f i : Nat) (a : AV) (l : List AV) (ids : List Nat) : passIds E f i (a :: l) ids = passIds E f (i + 1) l (argIds E f i a ids) := rfl
theorem argIds_mono {E : Env} {f i : Nat} {a : AV} {ids : List Nat} {x : Nat} (h : x ∈ ids) : x ∈ argIds E f i a ids := by
  unfold argIds
  split
  · exact mem_addN.2 (.inl h)
  · cases has2 f i E.mutA
    · exact h
    · exact mem_addN.2 (.inl h)
  · exact capIds_mono h
  · exact h
theorem argIds_nodup {E : Env} {f i : Nat} {a : AV} {ids : List Nat} (h : ids.Nodup) : (argIds E f i a ids).Nodup := by
  unfold argIds
  split
  · exact nodup_addN h
  · cases has2 f i E.mutA
    · exact h
    · exact nodup_addN h
  · exact capIds_nodup h
  · exact h
theorem passIds_mono {E : Env} {f : Nat} : ∀ {l : List AV} {i : Nat} {ids : List Nat} {x : Nat}, x ∈ ids → x ∈ passIds E f i l ids
  | [], _, _, _, h => h
  | a :: l, i, ids, x, h => passIds_mono (l := l) (argIds_mono h)
theorem passIds_nodup {E : Env} {f : Nat} : ∀ {l : List AV} {i : Nat} {ids : List Nat}, ids.Nodup → (passIds E f i l ids).Nodup
  | [], _, _, h => h
  | a :: l, i, ids, h => passIds_nodup (l := l) (argIds_nodup h)

def lentIds (E : Env) (f : Nat) : Nat → List AV → List Nat
  | _, [] => []
  | i, a :: l => (match a with | .t (.hsl id) => cond (has2 f i E.mutA) [] [id] | _ => []) ++ lentIds E f (i + 1) l

theorem lends_false {E : Env} {f : Nat} : ∀ {l : List AV} {i : Nat}, lends E f i l = false → lentIds E f i l = []
  | [], _, _ => rfl
  | a :: l, i, h => by
    have ih := lends_false (E := E) (f := f) (l := l) (i := i + 1)
    cases a with
    | t v =>
      cases v with
      | hsl id =>
        simp only [lends, Bool.or_eq_false_iff, Bool.not_eq_false'] at h
        simp only [lentIds, h.1, cond_true, List.nil_append]
        exact ih h.2
      | _ => simp only [lends] at h; simp only [lentIds, List.nil_append]; exact ih h
    | _ => simp only [lends] at h; simp only [lentIds, List.nil_append]; exact ih h

theorem pureCells_map : ∀ {cs : List AV} {vs : List PV}, pureCells cs = some vs → cs = vs.map AV.p
  | [], _, h => by simp only [pureCells] at h; cases h; rfl
  | a :: l, vs, h => by
    unfold pureCells at h
    split at h
    · rename_i he; cases he
    · rename_i v l' he
      cases he
      split at h
      · rename_i r hr
        cases h
        rw [pureCells_map hr]; rfl
      · cases h
    · cases h

theorem passB_at {look : Look} : ∀ {ids : List Nat} {bs : List Blk} {ss : List (List Sh ⊕ Nat)}, passB look ids = some (bs, ss) → bs.length = ids.length ∧ ss.length = ids.length ∧ ∀ (i : Nat) id, ids[i]? = some id → ∃ b, bs[i]? = some b ∧ look id = some b ∧ pureBlk b
  | [], _, _, h => by simp only [passB] at h; cases h; exact ⟨rfl, rfl, fun i id h => by simp at h⟩
  | id :: l, bs, ss, h => by
    unfold passB at h
    split at h
    · rename_i bs' ss' cs h1 h2
      split at h
      · rename_i vs hvs
        split at h
        · rename_i s hs
          cases h
          obtain ⟨g1, g2, g3⟩ := passB_at h1
          refine ⟨by simp [g1], by simp [g2], fun i id' hi => ?_⟩
          cases i with
          | zero =>
            simp only [List.getElem?_cons_zero, Option.some.injEq] at hi
            subst hi
            exact ⟨_, rfl, h2, .inr ⟨vs, by rw [pureCells_map hvs]⟩⟩
          | succ i => simpa using g3 i id' (by simpa using hi)
        · cases h
      · cases h
    · rename_i bs' ss' sz es h1 h2
      cases h
      obtain ⟨g1, g2, g3⟩ := passB_at h1
      refine ⟨by simp [g1], by simp [g2], fun i id' hi => ?_⟩
      cases i with
      | zero =>
        simp only [List.getElem?_cons_zero, Option.some.injEq] at hi
        subst hi
        exact ⟨_, rfl, h2, .inl ⟨sz, es, rfl⟩⟩
      | succ i => simpa using g3 i id' (by simpa using hi)
    · cases h

theorem passA_lent {E : Env} {look : Look} {f : Nat} {ids : List Nat} : ∀ {l : List AV} {i : Nat} {as : List AV}, passA E look f ids i l = some as → ∀ id ∈ lentIds E f i l, id ∉ ids ∧ ∃ sz es, look id = some (.arr sz es)
  | [], _, _, _, id, h => by cases h
  | a :: l, i, as, h, id, hid => by
    unfold passA at h
    split at h
    · cases h
    · rename_i r hr
      unfold lentIds at hid
      rcases List.mem_append.1 hid with h1 | h1
      · split at h1
        · rename_i id'
          simp only at h
          cases hm : has2 f i E.mutA with
          | true => rw [hm] at h1; cases h1
          | false =>
            rw [hm] at h1 h
            simp only [cond_false, List.mem_singleton] at h1 h
            subst h1
            cases hh : hasN id ids with
            | true => rw [hh] at h; cases h
            | false =>
              rw [hh] at h
              simp only [cond_false] at h
              split at h
              · rename_i sz es hl
                exact ⟨fun hm => (by rw [hasN_iff.2 hm] at hh; cases hh), sz, es, hl⟩
              · cases h
        · cases h1
      · exact passA_lent hr id h1

section args
variable {C : Ctx} {ids L : List Nat} {bs : List Blk} (H : SubOk C ids L bs)
include H

theorem SubOk.known {id : Nat} (h : id ∈ ids) : known (C.sub ids L bs).h (idx id ids) := by
  obtain ⟨b, h1, _⟩ := H.at_ _ id (idx_get h)
  exact live_known ((nth_map_blk bs _ b).2 h1)

theorem SubOk.back {id : Nat} {b : Blk} (h : id ∈ ids) (hl : live (C.sub ids L bs).h (idx id ids) b) : live C.h id b ∧ (C.sub ids L bs).ι (idx id ids) = C.ι id := by
  obtain ⟨_, id', h1, h2, _, h4⟩ := H.live_at hl
  rw [idx_get h] at h1
  cases h1
  exact ⟨h2, h4⟩

theorem SubOk.ptr {id o : Nat} {u : Value} (h : id ∈ ids) (hv : VT C (.ptr id o) u) : VT (C.sub ids L bs) (.ptr (idx id ids) o) u := by
  obtain ⟨_, b, hu, hp⟩ := hv
  refine ⟨H.known h, b, hu, fun cs hl => ?_⟩
  obtain ⟨h1, h2⟩ := H.back h hl
  rw [h2]; exact hp cs h1

theorem SubOk.hsl {id : Nat} {u : Value} (h : id ∈ ids) (hv : VT C (.hsl id) u) : VT (C.sub ids L bs) (.hsl (idx id ids)) u := by
  obtain ⟨_, hform, hp⟩ := hv
  refine ⟨H.known h, hform, fun sz es hl => ?_⟩
  obtain ⟨h1, h2⟩ := H.back h hl
  have := hp sz es h1
  unfold HS at this ⊢
  rw [h2]; exact this

theorem SubOk.agg {cs : List PV} {u : Value} (hv : VT C (.agg cs) u) : VT (C.sub ids L bs) (.agg cs) u := by
  obtain ⟨us, rfl, ha⟩ := hv
  exact ⟨us, rfl, ha.mono fun _ _ => H.vp⟩

theorem SubOk.lend {id sz : Nat} {es : List (List PV)} {u : Value} (hL : id ∈ L) (hl : live C.h id (.arr sz es)) (hv : VT C (.hsl id) u) : (C.sub ids L bs).P (.sl sz es) u := by
  obtain ⟨_, _, hp⟩ := hv
  have hu := hp sz es hl
  unfold HS at hu
  have hb := H.ok.blk id _ hl
  cases hi : C.ι id with
  | none =>
    rw [hi] at hu
    obtain ⟨rfl, rfl⟩ := hu
    exact .sl0 sz none 0
  | some n =>
    rw [hi] at hu
    obtain ⟨cap, carr, e, fr, rfl, hle, hr, hcap⟩ := hu
    rcases hb with ⟨h1, _⟩ | ⟨m, carr2, e2, fr2, h1, h2, hs, hf, hz, hone, hc⟩
    · rw [hi] at h1; cases h1
    · rw [hi] at h1; cases h1
      rw [hr] at h2; cases h2
      have hO : ¬ (C.sub ids L bs).O n := by
        rintro (hx | ho)
        · exact hx.2 id (.inr hL) hi
        · obtain ⟨id2, hm, B, g1, g2⟩ := H.own ho
          have := H.ok.inj id2 id n B _ g1 hl g2 hi
          subst this
          exact (H.lent id2 hL).2 hm
      refine .sl sz es n 0 cap (fun i j => carr.getD (i * sz + j) Go.undef) (Array.getElem?_eq_some_iff.1 hr).1 hO hle hz (fun i j e c he hj => ?_) (fun i j e c he hj => ?_)
      · obtain ⟨x, hx, _⟩ := hc i j e c he hj
        show C.w.cell? _ = _
        rw [show 0 + i * sz + j = i * sz + j by omega, cells_get carr n _ hr, hx]
        simp [Array.getD_eq_getD_getElem?, hx]
      · obtain ⟨x, hx, hp⟩ := hc i j e c he hj
        simp only [Array.getD_eq_getD_getElem?, hx, Option.getD_some]
        exact H.vp hp

theorem passTV_sound : ∀ {l r : List TV} {us : List Value}, passTV ids l = some r → (∀ id o, TV.ptr id o ∈ l → id ∈ ids) → All2 (VT C) l us → All2 (VT (C.sub ids L bs)) r us
  | [], _, [], h, _, _ => by simp only [passTV] at h; cases h; trivial
  | [], _, _ :: _, _, _, h => h.elim
  | _ :: _, _, [], _, _, h => h.elim
  | a :: l, r, u :: us, h, hm, ha => by
    have hm' : ∀ id o, TV.ptr id o ∈ l → id ∈ ids := fun id o ho => hm id o (by simp [ho])
    cases a with
    | hsl id => simp only [passTV] at h; cases h
    | ptr id o =>
      simp only [passTV] at h
      split at h
      · rename_i r' hr
        cases h
        exact ⟨H.ptr (hm id o (by simp)) ha.1, passTV_sound hr hm' ha.2⟩
      · cases h
    | p v =>
      simp only [passTV] at h
      split at h
      · rename_i r' hr
        cases h
        exact ⟨H.vp ha.1, passTV_sound hr hm' ha.2⟩
      · cases h
    | agg cs =>
      simp only [passTV] at h
      split at h
      · rename_i r' hr
        cases h
        exact ⟨H.agg ha.1, passTV_sound hr hm' ha.2⟩
      · cases h

theorem passA_sound {E : Env} {look : Look} (hl : LookOk C look) {f : Nat} : ∀ {l : List AV} {i : Nat} {cur : List Nat} {as : List AV} {us : List Value}, passIds E f i l cur = ids → (∀ id ∈ lentIds E f i l, id ∈ L) →
    passA E look f ids i l = some as → All2 (VA C) l us → All2 (VA (C.sub ids L bs)) as us
  | [], _, _, _, [], _, _, h, _ => by simp only [passA] at h; cases h; trivial
  | [], _, _, _, _ :: _, _, _, _, h => h.elim
  | _ :: _, _, _, _, [], _, _, _, h => h.elim
  | a :: l, i, cur, as, u :: us, hids, hlent, h, ha => by
    unfold passA at h
    split at h
    · cases h
    · rename_i r hr
      rw [passIds_cons] at hids
      have ih := passA_sound hl (l := l) (us := us) hids (fun id hid => hlent id (by unfold lentIds; exact List.mem_append.2 (.inr hid))) hr ha.2
      have hmem : ∀ id, id ∈ argIds E f i a cur → id ∈ ids := fun id hid => by rw [← hids]; exact passIds_mono hid
      have ha1 := ha.1
      split at h
      · cases h; exact ⟨H.vp ha1, ih⟩
      · cases h; exact ⟨H.agg ha1, ih⟩
      · rename_i id o
        cases h
        exact ⟨H.ptr (hmem id (mem_addN.2 (.inr rfl))) ha1, ih⟩
      · rename_i id
        cases hm : has2 f i E.mutA with
        | true =>
          rw [hm] at h
          simp only [cond_true] at h
          cases h
          exact ⟨H.hsl (hmem id (by simp only [argIds, hm, cond_true]; exact mem_addN.2 (.inr rfl))) ha1, ih⟩
        | false =>
          rw [hm] at h
          simp only [cond_false] at h
          cases hh : hasN id ids with
          | true => rw [hh] at h; cases h
          | false =>
            rw [hh] at h
            simp only [cond_false] at h
            split at h
            · rename_i sz es hlk
              cases h
              exact ⟨H.lend (hlent id (by unfold lentIds; simp [hm])) (hl _ _ hlk) ha1, ih⟩
            · cases h
      · rename_i g caps
        split at h
        · rename_i c hc
          cases h
          obtain ⟨uus, hu, hall⟩ := ha1
          exact ⟨⟨uus, hu, passTV_sound H hc (fun id o ho => hmem id (capIds_mem ho)) hall⟩, ih⟩
        · cases h
      · rename_i cs
        cases h
        obtain ⟨b, off, hu, hb, hO, hc⟩ := ha1
        refine ⟨⟨b, off, hu, hb, fun ho => hO (H.O ho), fun j c hj => ?_⟩, ih⟩
        obtain ⟨x, h1, h2⟩ := hc j c hj
        exact ⟨x, h1, H.vp h2⟩
      · cases h

end args

end Go.Proofs.YtpnpdkgdgfkpfaaGreatDoor.Vm
