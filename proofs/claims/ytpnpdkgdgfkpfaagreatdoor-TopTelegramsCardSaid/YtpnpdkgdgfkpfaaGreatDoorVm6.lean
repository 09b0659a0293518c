/- The abstract machine, part 6: the steps that change memory. -/
import Derived.Test.YtpnpdkgdgfkpfaaGreatDoorVm5
namespace Go.Proofs.YtpnpdkgdgfkpfaaGreatDoor.Vm
set_option linter.unusedVariables false

theorem Ok.step {C C' : Ctx} (hx : Ext C C') (hok : Ok C)
    (hb : ∀ id b, live C'.h id b → BlkR C' id b ∨ (live C.h id b ∧ C'.ι id = C.ι id ∧ ∀ n, C.ι id = some n → C'.w.heap[n]? = C.w.heap[n]?))
    (inj : ∀ id id' n b b', live C'.h id b → live C'.h id' b' → C'.ι id = some n → C'.ι id' = some n → id = id') : Ok C' where
  gr := hx.gr hok.gr
  blk id b hl := by
    rcases hb id b hl with h | ⟨h1, h2, h3⟩
    · exact h
    · exact hx.blkR (hok.blk id b h1) h2 h3
  inj := inj
  x n hn := by
    rw [hx.X] at hn
    obtain ⟨h1, h2⟩ := hok.x n hn
    exact ⟨Nat.lt_of_lt_of_le h1 hx.size, fun h => h2 (hx.own n h1 h)⟩

theorem Ok.lt {C : Ctx} (hok : Ok C) {id : Nat} {b : Blk} {n : Nat} (hl : live C.h id b) (hi : C.ι id = some n) : n < C.w.heap.size ∧ ∃ carr e fr, C.w.heap[n]? = some (.cells carr e fr) := by
  have := hok.blk id b hl
  cases b with
  | box cs =>
    obtain ⟨m, carr, e, fr, h1, h2, _⟩ := this
    rw [hi] at h1; cases h1
    exact ⟨(Array.getElem?_eq_some_iff.1 h2).1, carr, e, fr, h2⟩
  | arr sz es =>
    rcases this with ⟨h1, _⟩ | ⟨m, carr, e, fr, h1, h2, _⟩
    · rw [hi] at h1; cases h1
    · rw [hi] at h1; cases h1
      exact ⟨(Array.getElem?_eq_some_iff.1 h2).1, carr, e, fr, h2⟩

def Ctx.setW (C : Ctx) (w : World) : Ctx := ⟨w, C.ι, C.h, C.X⟩

theorem ext_drawn (C : Ctx) (w : World) (h1 : w.heap = C.w.heap) (h2 : w.tape = C.w.tape) (h3 : w.os = C.w.os) (h4 : w.output = C.w.output) : Ext C (C.setW w) where
  tape := h2
  os := h3
  out := h4
  size := by show _ ≤ w.heap.size; rw [h1]; exact Nat.le_refl _
  X := rfl
  keep b _ _ := by show w.heap[b]? = _; rw [h1]
  own _ _ h := h
  ent id h := ⟨h, fun b hb => ⟨b, hb, rfl, like_refl _⟩⟩
  row b carr e fr _ h := ⟨carr, fr, by show w.heap[b]? = _; rw [h1]; exact h, rfl⟩

theorem ok_drawn {C : Ctx} (hok : Ok C) (w : World) (h1 : w.heap = C.w.heap) (h2 : w.tape = C.w.tape) (h3 : w.os = C.w.os) (h4 : w.output = C.w.output) : Ok (C.setW w) :=
  hok.step (ext_drawn C w h1 h2 h3 h4) (fun id b hl => .inr ⟨hl, rfl, fun n _ => by show w.heap[n]? = _; rw [h1]⟩) (fun id id' n b b' => hok.inj id id' n b b')

def allDead (us : Ups) : Prop := ∀ u ∈ us, u.2 = .dead

theorem live_upd {h : List Ent} {id id' : Nat} {e : Ent} {b : Blk} : live (upd e h id) id' b ↔ (id = id' ∧ id' < h.length ∧ e = .blk b) ∨ (¬ (id = id' ∧ id' < h.length) ∧ live h id' b) := by
  unfold live
  rw [nth_upd]
  by_cases hc : id = id' ∧ id' < h.length
  · rw [if_pos hc]
    exact ⟨fun he => .inl ⟨hc.1, hc.2, he⟩, fun he => he.elim (fun h1 => h1.2.2) (fun h1 => absurd hc h1.1)⟩
  · rw [if_neg hc]
    exact ⟨fun he => .inr ⟨hc, he⟩, fun he => he.elim (fun h1 => absurd ⟨h1.1, h1.2.1⟩ hc) (fun h1 => h1.2)⟩
theorem known_upd {h : List Ent} {id id' : Nat} {e : Ent} (he : e ≠ .fresh) (hk : known h id') : known (upd e h id) id' := by
  unfold known at hk ⊢
  rw [nth_upd]
  split
  · exact he
  · exact hk

theorem length_putUps : ∀ (us : Ups) (h : List Ent), (putUps us h).length = h.length
  | [], _ => rfl
  | (id, e) :: us, h => by rw [putUps, length_putUps us]; exact length_upd ..
theorem putUps_append : ∀ (us vs : Ups) (h : List Ent), putUps (us ++ vs) h = putUps vs (putUps us h)
  | [], _, _ => rfl
  | (id, e) :: us, vs, h => by simp [putUps, putUps_append us vs]

theorem live_dead {h : List Ent} {id id' : Nat} {b : Blk} (hl : live (upd .dead h id) id' b) : live h id' b := by
  rcases live_upd.1 hl with ⟨_, _, h⟩ | ⟨_, h⟩
  · cases h
  · exact h
theorem live_putDead : ∀ {us : Ups} (_ : allDead us) {h : List Ent} {id : Nat} {b : Blk}, live (putUps us h) id b → live h id b
  | [], _, _, _, _, hl => hl
  | (id, e) :: us, hd, h, id', b, hl => by
    obtain rfl : e = .dead := hd (id, e) (by simp)
    exact live_dead (live_putDead (fun u hu => hd u (by simp [hu])) hl)
theorem known_putUps : ∀ {us : Ups} (_ : ∀ u ∈ us, u.2 ≠ .fresh) {h : List Ent} {id : Nat}, known h id → known (putUps us h) id
  | [], _, _, _, hk => hk
  | (id, e) :: us, hd, h, id', hk => known_putUps (us := us) (fun u hu => hd u (by simp [hu])) (known_upd (e := e) (hd (id, e) (by simp)) hk)
theorem allDead.nf {us : Ups} (hd : allDead us) : ∀ u ∈ us, u.2 ≠ .fresh := fun u hu => by rw [hd u hu]; simp

def Ctx.kill (C : Ctx) (us : Ups) : Ctx := ⟨C.w, C.ι, putUps us C.h, C.X⟩

theorem ext_kill (C : Ctx) {us : Ups} (hd : allDead us) : Ext C (C.kill us) where
  tape := rfl
  os := rfl
  out := rfl
  size := Nat.le_refl _
  X := rfl
  keep _ _ _ := rfl
  own b _ h := by
    obtain ⟨id, blk, hl, hi⟩ := h
    exact ⟨id, blk, live_putDead hd hl, hi⟩
  ent id hk := ⟨known_putUps hd.nf hk, fun b hb => ⟨b, live_putDead hd hb, rfl, like_refl _⟩⟩
  row b carr e fr _ h := ⟨carr, fr, h, rfl⟩

theorem ok_kill {C : Ctx} (hok : Ok C) {us : Ups} (hd : allDead us) : Ok (C.kill us) :=
  hok.step (ext_kill C hd) (fun id b hl => .inr ⟨live_putDead hd hl, rfl, fun _ _ => rfl⟩)
    (fun id id' n b b' h1 h2 => hok.inj id id' n b b' (live_putDead hd h1) (live_putDead hd h2))

theorem not_live_put : ∀ {us : Ups} (_ : allDead us) {h : List Ent} {id : Nat} (_ : (id, Ent.dead) ∈ us) {b : Blk}, ¬ live (putUps us h) id b
  | (id, e) :: us, hd, h, id', hm, b, hl => by
    obtain rfl : e = .dead := hd (id, e) (by simp)
    have hd' : allDead us := fun u hu => hd u (by simp [hu])
    rcases List.mem_cons.1 hm with h1 | h1
    · obtain ⟨rfl, _⟩ := Prod.mk.inj h1
      have := live_putDead hd' hl
      rcases live_upd.1 this with ⟨_, _, h⟩ | ⟨h2, h3⟩
      · cases h
      · -- beyond the heap
        have hlt : id' < h.length := by
          rcases Nat.lt_or_ge id' h.length with h' | h'
          · exact h'
          · unfold live at h3
            rw [nth_eq] at h3
            simp [List.getD, List.getElem?_eq_none h'] at h3
        exact h2 ⟨rfl, hlt⟩
    · exact not_live_put hd' h1 hl

def ιset (ι : Nat → Option Nat) (nid : Nat) (x : Option Nat) : Nat → Option Nat := fun i => if i = nid then x else ι i
theorem ιset_same (ι : Nat → Option Nat) (nid : Nat) (x : Option Nat) : ιset ι nid x nid = x := by simp [ιset]
theorem ιset_other {ι : Nat → Option Nat} {nid i : Nat} {x : Option Nat} (h : i ≠ nid) : ιset ι nid x i = ι i := by simp [ιset, h]

def Ctx.bindN (C : Ctx) (w : World) (nid : Nat) (x : Option Nat) (B : Blk) : Ctx := ⟨w, ιset C.ι nid x, upd (.blk B) C.h nid, C.X⟩

structure Grow (w w' : World) : Prop where
  tape : w'.tape = w.tape
  os : w'.os = w.os
  out : w'.output = w.output
  size : w.heap.size ≤ w'.heap.size
  keep : ∀ b, b < w.heap.size → w'.heap[b]? = w.heap[b]?

theorem Grow.refl (w : World) : Grow w w := ⟨rfl, rfl, rfl, Nat.le_refl _, fun _ _ => rfl⟩
theorem Grow.alloc (w : World) (o : Obj) : Grow w (w.alloc o) :=
  ⟨rfl, rfl, rfl, by simp, fun b hb => by show (w.heap.push o)[b]? = _; rw [Array.getElem?_push, if_neg (by omega)]⟩

theorem known_ne {h : List Ent} {id nid : Nat} (hk : known h id) (hf : nth Ent.fresh h nid = .fresh) : id ≠ nid := fun e => hk (e ▸ hf)

theorem ext_bind (C : Ctx) {w : World} (hg : Grow C.w w) {nid : Nat} {x : Option Nat} {B : Blk} (hf : nth Ent.fresh C.h nid = .fresh)
    (hx : ∀ n, x = some n → C.w.heap.size ≤ n) : Ext C (C.bindN w nid x B) where
  tape := hg.tape
  os := hg.os
  out := hg.out
  size := hg.size
  X := rfl
  keep b hb _ := hg.keep b hb
  own b hb h := by
    obtain ⟨id, blk, hl, hi⟩ := h
    by_cases he : id = nid
    · subst he
      have hi' : ιset C.ι id x id = some b := hi
      rw [ιset_same] at hi'
      have := hx b hi'
      omega
    · have hi' : ιset C.ι nid x id = some b := hi
      rw [ιset_other he] at hi'
      rcases live_upd.1 hl with ⟨h1, _, _⟩ | ⟨_, h1⟩
      · exact absurd h1.symm he
      · exact ⟨id, blk, h1, hi'⟩
  ent id hk := by
    have hne := known_ne hk hf
    refine ⟨known_upd (by simp) hk, fun b hb => ?_⟩
    rcases live_upd.1 hb with ⟨h1, _, _⟩ | ⟨_, h1⟩
    · exact absurd h1.symm hne
    · exact ⟨b, h1, ιset_other hne, like_refl _⟩
  row b carr e fr _ h := ⟨carr, fr, by rw [show (C.bindN w nid x B).w.heap[b]? = w.heap[b]? from rfl, hg.keep b (Array.getElem?_eq_some_iff.1 h).1]; exact h, rfl⟩

theorem ok_bind {C : Ctx} (hok : Ok C) {w : World} (hg : Grow C.w w) {nid : Nat} {x : Option Nat} {B : Blk} (hf : nth Ent.fresh C.h nid = .fresh)
    (hx : ∀ n, x = some n → C.w.heap.size ≤ n) (hB : BlkR (C.bindN w nid x B) nid B) : Ok (C.bindN w nid x B) := by
  refine hok.step (ext_bind C hg hf hx) (fun id b hl => ?_) (fun id id' n b b' h1 h2 e1 e2 => ?_)
  · rcases live_upd.1 hl with ⟨rfl, _, h1⟩ | ⟨hn, h1⟩
    · cases h1; exact .inl hB
    · have hne := known_ne (live_known h1) hf
      refine .inr ⟨h1, ιset_other hne, fun n hn => hg.keep n (hok.lt h1 hn).1⟩
  · have key : ∀ {id b}, live (C.bindN w nid x B).h id b → (C.bindN w nid x B).ι id = some n → (id = nid ∧ x = some n) ∨ (id ≠ nid ∧ live C.h id b ∧ C.ι id = some n) := by
      intro id b hl hi
      by_cases he : id = nid
      · subst he
        have hi' : ιset C.ι id x id = some n := hi
        rw [ιset_same] at hi'
        exact .inl ⟨rfl, hi'⟩
      · have hi' : ιset C.ι nid x id = some n := hi
        rw [ιset_other he] at hi'
        rcases live_upd.1 hl with ⟨h1, _, _⟩ | ⟨_, h1⟩
        · exact absurd h1.symm he
        · exact .inr ⟨he, h1, hi'⟩
    rcases key h1 e1 with ⟨a1, a2⟩ | ⟨a1, a2, a3⟩ <;> rcases key h2 e2 with ⟨b1, b2⟩ | ⟨b1, b2, b3⟩
    · rw [a1, b1]
    · have := hx n a2; have := (hok.lt b2 b3).1; omega
    · have := hx n b2; have := (hok.lt a2 a3).1; omega
    · exact hok.inj id id' n b b' a2 b2 a3 b3

theorem heap_alloc_same (w : World) (o : Obj) : (w.alloc o).heap[w.heap.size]? = some o := by
  show (w.heap.push o)[w.heap.size]? = _
  simp

def Ctx.write (C : Ctx) (id n : Nat) (carr : Array Value) (B : Blk) : Ctx := ⟨C.w.setRow n carr, C.ι, upd (.blk B) C.h id, C.X⟩

theorem setRow_other (w : World) (n b : Nat) (carr : Array Value) (h : b ≠ n) : (w.setRow n carr).heap[b]? = w.heap[b]? := by
  unfold World.setRow
  simp only [Array.getElem?_modify]
  rw [if_neg (fun e => h e.symm)]
theorem setRow_same (w : World) (n : Nat) (carr carr' : Array Value) (e : TypeId) (fr : Nat × Nat) (h : w.heap[n]? = some (.cells carr e fr)) :
    (w.setRow n carr').heap[n]? = some (.cells carr' e fr) := by
  unfold World.setRow
  simp [Array.getElem?_modify, h]
theorem setRow_size (w : World) (n : Nat) (carr : Array Value) : (w.setRow n carr).heap.size = w.heap.size := by simp [World.setRow]

theorem ext_write {C : Ctx} {id n : Nat} {carr carr' : Array Value} {e : TypeId} {fr : Nat × Nat} {B B' : Blk} (hl : live C.h id B) (hi : C.ι id = some n)
    (hr : C.w.heap[n]? = some (.cells carr e fr)) (hs : carr'.size = carr.size) (hlk : like B B') : Ext C (C.write id n carr' B') where
  tape := rfl
  os := rfl
  out := rfl
  size := by show _ ≤ (C.w.setRow n carr').heap.size; rw [setRow_size]; exact Nat.le_refl _
  X := rfl
  keep b _ ho := setRow_other _ _ _ _ fun hb => ho ⟨id, B, hl, hb ▸ hi⟩
  own b _ h := by
    obtain ⟨id', blk, hl', hi'⟩ := h
    rcases live_upd.1 hl' with ⟨rfl, _, _⟩ | ⟨_, h1⟩
    · exact ⟨_, B, hl, hi'⟩
    · exact ⟨id', blk, h1, hi'⟩
  ent id' hk := by
    refine ⟨known_upd (by simp) hk, fun b hb => ?_⟩
    rcases live_upd.1 hb with ⟨rfl, _, h2⟩ | ⟨_, h1⟩
    · cases h2; exact ⟨B, hl, rfl, hlk⟩
    · exact ⟨b, h1, rfl, like_refl _⟩
  row b c2 e2 f2 _ h := by
    by_cases hb : b = n
    · subst hb
      rw [hr] at h; cases h
      exact ⟨carr', fr, setRow_same _ _ _ _ _ _ hr, hs⟩
    · exact ⟨c2, f2, by rw [show (C.write id n carr' B').w.heap[b]? = (C.w.setRow n carr').heap[b]? from rfl, setRow_other _ _ _ _ hb]; exact h, rfl⟩

theorem ok_write {C : Ctx} (hok : Ok C) {id n : Nat} {carr carr' : Array Value} {e : TypeId} {fr : Nat × Nat} {B B' : Blk} (hl : live C.h id B) (hi : C.ι id = some n)
    (hr : C.w.heap[n]? = some (.cells carr e fr)) (hs : carr'.size = carr.size) (hlk : like B B') (hB : BlkR (C.write id n carr' B') id B') : Ok (C.write id n carr' B') := by
  have hback : ∀ {id' b'}, live (C.write id n carr' B').h id' b' → ∃ b, live C.h id' b := by
    intro id' b' h
    rcases live_upd.1 h with ⟨rfl, _, _⟩ | ⟨_, h1⟩
    · exact ⟨B, hl⟩
    · exact ⟨b', h1⟩
  refine hok.step (ext_write hl hi hr hs hlk) (fun id' b hl' => ?_) (fun id1 id2 m b b' h1 h2 e1 e2 => ?_)
  · rcases live_upd.1 hl' with ⟨rfl, _, h2⟩ | ⟨hn, h1⟩
    · cases h2; exact .inl hB
    · refine .inr ⟨h1, rfl, fun m hm => setRow_other _ _ _ _ fun hmn => ?_⟩
      subst hmn
      have := hok.inj id' id m b B h1 hl hm hi
      subst this
      have hlt : id' < C.h.length := by
        rcases Nat.lt_or_ge id' C.h.length with h' | h'
        · exact h'
        · unfold live at h1
          rw [nth_eq] at h1
          simp [List.getD, List.getElem?_eq_none h'] at h1
      exact hn ⟨rfl, hlt⟩
  · obtain ⟨c1, k1⟩ := hback h1
    obtain ⟨c2, k2⟩ := hback h2
    exact hok.inj id1 id2 m c1 c2 k1 k2 e1 e2

def Ctx.renew (C : Ctx) (id nid n : Nat) (carr : Array Value) (B : Blk) : Ctx := ⟨C.w.setRow n carr, ιset C.ι nid (some n), upd (.blk B) (upd .dead C.h id) nid, C.X⟩

theorem live_renew {h : List Ent} {id nid id' : Nat} {B b : Blk} (hl : live (upd (.blk B) (upd .dead h id) nid) id' b) : (id' = nid ∧ b = B) ∨ (id' ≠ id ∧ live h id' b ∧ id' ≠ nid) ∨ (id' = nid) := by
  rcases live_upd.1 hl with ⟨h1, _, h2⟩ | ⟨h1, h2⟩
  · cases h2; exact .inl ⟨h1.symm, rfl⟩
  · rcases live_upd.1 h2 with ⟨_, _, h3⟩ | ⟨h3, h4⟩
    · cases h3
    · by_cases hn : id' = nid
      · exact .inr (.inr hn)
      · refine .inr (.inl ⟨fun he => h3 ⟨he.symm, ?_⟩, h4, hn⟩)
        rcases Nat.lt_or_ge id' h.length with h' | h'
        · exact h'
        · unfold live at h4
          rw [nth_eq] at h4
          simp [List.getD, List.getElem?_eq_none h'] at h4

theorem ext_renew {C : Ctx} {id nid n : Nat} {carr carr' : Array Value} {e : TypeId} {fr : Nat × Nat} {B B' : Blk} (hl : live C.h id B) (hi : C.ι id = some n) (hf : nth Ent.fresh C.h nid = .fresh)
    (hr : C.w.heap[n]? = some (.cells carr e fr)) (hs : carr'.size = carr.size) : Ext C (C.renew id nid n carr' B') where
  tape := rfl
  os := rfl
  out := rfl
  size := by show _ ≤ (C.w.setRow n carr').heap.size; rw [setRow_size]; exact Nat.le_refl _
  X := rfl
  keep b _ ho := setRow_other _ _ _ _ fun hb => ho ⟨id, B, hl, hb ▸ hi⟩
  own b _ h := by
    obtain ⟨id', blk, hl', hi'⟩ := h
    by_cases he : id' = nid
    · subst he
      have hi2 : ιset C.ι id' (some n) id' = some b := hi'
      rw [ιset_same] at hi2
      cases hi2
      exact ⟨id, B, hl, hi⟩
    · have hi2 : ιset C.ι nid (some n) id' = some b := hi'
      rw [ιset_other he] at hi2
      rcases live_renew hl' with ⟨h1, _⟩ | ⟨_, h1, _⟩ | h1
      · exact absurd h1 he
      · exact ⟨id', blk, h1, hi2⟩
      · exact absurd h1 he
  ent id' hk := by
    have hne := known_ne hk hf
    refine ⟨known_upd (by simp) (known_upd (by simp) hk), fun b hb => ?_⟩
    rcases live_renew hb with ⟨h1, _⟩ | ⟨_, h1, _⟩ | h1
    · exact absurd h1 hne
    · exact ⟨b, h1, ιset_other hne, like_refl _⟩
    · exact absurd h1 hne
  row b c2 e2 f2 _ h := by
    by_cases hb : b = n
    · subst hb
      rw [hr] at h; cases h
      exact ⟨carr', fr, setRow_same _ _ _ _ _ _ hr, hs⟩
    · exact ⟨c2, f2, by rw [show (C.renew id nid n carr' B').w.heap[b]? = (C.w.setRow n carr').heap[b]? from rfl, setRow_other _ _ _ _ hb]; exact h, rfl⟩

theorem ok_renew {C : Ctx} (hok : Ok C) {id nid n : Nat} {carr carr' : Array Value} {e : TypeId} {fr : Nat × Nat} {B B' : Blk} (hl : live C.h id B) (hi : C.ι id = some n)
    (hf : nth Ent.fresh C.h nid = .fresh) (hn : nid < C.h.length)
    (hr : C.w.heap[n]? = some (.cells carr e fr)) (hs : carr'.size = carr.size) (hB : BlkR (C.renew id nid n carr' B') nid B') : Ok (C.renew id nid n carr' B') := by
  refine hok.step (ext_renew hl hi hf hr hs) (fun id' b hl' => ?_) (fun id1 id2 m b b' h1 h2 e1 e2 => ?_)
  · by_cases he : id' = nid
    · subst he
      have : b = B' := by
        rcases live_upd.1 hl' with ⟨_, _, h2⟩ | ⟨h2, _⟩
        · cases h2; rfl
        · exact absurd ⟨rfl, by rw [length_upd]; exact hn⟩ h2
      subst this
      exact .inl hB
    · rcases live_renew hl' with ⟨h1, _⟩ | ⟨h0, h1, _⟩ | h1
      · exact absurd h1 he
      · refine .inr ⟨h1, ιset_other he, fun m hm => setRow_other _ _ _ _ fun hmn => ?_⟩
        subst hmn
        exact h0 (hok.inj id' id m b B h1 hl hm hi)
      · exact absurd h1 he
  · have key : ∀ {id' b}, live (C.renew id nid n carr' B').h id' b → (C.renew id nid n carr' B').ι id' = some m → (id' = nid ∧ n = m) ∨ (id' ≠ id ∧ live C.h id' b ∧ C.ι id' = some m) := by
      intro id' b hl' hi'
      by_cases he : id' = nid
      · subst he
        have hi2 : ιset C.ι id' (some n) id' = some m := hi'
        rw [ιset_same] at hi2
        exact .inl ⟨rfl, Option.some.inj hi2⟩
      · have hi2 : ιset C.ι nid (some n) id' = some m := hi'
        rw [ιset_other he] at hi2
        rcases live_renew hl' with ⟨h1, _⟩ | ⟨h0, h1, _⟩ | h1
        · exact absurd h1 he
        · exact .inr ⟨h0, h1, hi2⟩
        · exact absurd h1 he
    rcases key h1 e1 with ⟨a1, a2⟩ | ⟨a1, a2, a3⟩ <;> rcases key h2 e2 with ⟨b1, b2⟩ | ⟨b1, b2, b3⟩
    · rw [a1, b1]
    · subst a2; exact absurd (hok.inj id2 id n b' B b2 hl b3 hi) b1
    · subst b2; exact absurd (hok.inj id1 id n b B a2 hl a3 hi) a1
    · exact hok.inj id1 id2 m b b' a2 b2 a3 b3

end Go.Proofs.YtpnpdkgdgfkpfaaGreatDoor.Vm
