/- The abstract machine, part 21: what is handed over to a call, and what comes back. -/
import Derived.Test.YtpnpdkgdgfkpfaaGreatDoorVm20
namespace Go.Proofs.YtpnpdkgdgfkpfaaGreatDoor.Vm
set_option linter.unusedVariables false
set_option linter.unusedSimpArgs false
set_option linter.unusedSectionVars false

theorem nth_map_blk (bs : List Blk) (i : Nat) (b : Blk) : nth Ent.fresh (bs.map Ent.blk) i = .blk b ↔ bs[i]? = some b := by
  rw [nth_eq]
  simp only [List.getD_eq_getElem?_getD, List.getElem?_map]
  cases bs[i]? <;> simp

theorem VP.sub {w : World} {O O' : Nat → Prop} (h : ∀ b, b < w.heap.size → O' b → O b) {v : PV} {u : Value} (hv : VP w O v u) : VP w O' v u :=
  hv.ext (Nat.le_refl _) (fun _ _ _ => rfl) h

theorem nodup_inj {l : List Nat} (hn : l.Nodup) : ∀ {i j x : Nat}, l[i]? = some x → l[j]? = some x → i = j := by
  induction l with
  | nil => intro i j x h; simp at h
  | cons a l ih =>
    obtain ⟨h1, h2⟩ := List.nodup_cons.1 hn
    intro i j x hi hj
    cases i with
    | zero =>
      cases j with
      | zero => rfl
      | succ j =>
        simp only [List.getElem?_cons_zero, Option.some.injEq, List.getElem?_cons_succ] at hi hj
        subst hi
        exact absurd (List.mem_of_getElem? hj) h1
    | succ i =>
      cases j with
      | zero =>
        simp only [List.getElem?_cons_zero, Option.some.injEq, List.getElem?_cons_succ] at hi hj
        subst hj
        exact absurd (List.mem_of_getElem? hi) h1
      | succ j =>
        simp only [List.getElem?_cons_succ] at hi hj
        rw [ih h2 hi hj]

def pureBlk (b : Blk) : Prop := (∃ sz es, b = .arr sz es) ∨ ∃ vs : List PV, b = .box (vs.map AV.p)

def subX (C : Ctx) (ids L : List Nat) (b : Nat) : Prop := C.O b ∧ ∀ id, id ∈ ids ∨ id ∈ L → C.ι id ≠ some b
def Ctx.sub (C : Ctx) (ids L : List Nat) (bs : List Blk) : Ctx := ⟨C.w, fun i => (ids[i]?).bind C.ι, bs.map Ent.blk, subX C ids L⟩

structure SubOk (C : Ctx) (ids L : List Nat) (bs : List Blk) : Prop where
  ok : Ok C
  nodup : ids.Nodup
  len : bs.length = ids.length
  at_ : ∀ (i : Nat) id, ids[i]? = some id → ∃ b, bs[i]? = some b ∧ live C.h id b ∧ pureBlk b
  lent : ∀ id ∈ L, (∃ b, live C.h id b) ∧ id ∉ ids

section sub
variable {C : Ctx} {ids L : List Nat} {bs : List Blk} (H : SubOk C ids L bs)
include H

theorem SubOk.live_at {i : Nat} {b : Blk} (h : live (C.sub ids L bs).h i b) : bs[i]? = some b ∧ ∃ id, ids[i]? = some id ∧ live C.h id b ∧ pureBlk b ∧ (C.sub ids L bs).ι i = C.ι id := by
  have hb := (nth_map_blk bs i b).1 h
  refine ⟨hb, ?_⟩
  have hlt : i < ids.length := by rw [← H.len]; exact (List.getElem?_eq_some_iff.1 hb).1
  obtain ⟨b', h1, h2, h3⟩ := H.at_ i ids[i] (List.getElem?_eq_getElem hlt)
  rw [hb] at h1; cases h1
  exact ⟨ids[i], List.getElem?_eq_getElem hlt, h2, h3, by simp [Ctx.sub, List.getElem?_eq_getElem hlt]⟩

theorem SubOk.own {b : Nat} (h : (C.sub ids L bs).own b) : ∃ id ∈ ids, ∃ B, live C.h id B ∧ C.ι id = some b := by
  obtain ⟨i, B, hl, hi⟩ := h
  obtain ⟨_, id, h1, h2, _, h4⟩ := H.live_at hl
  exact ⟨id, List.mem_of_getElem? h1, B, h2, by rw [← h4]; exact hi⟩

theorem SubOk.O {b : Nat} (h : (C.sub ids L bs).O b) : C.O b := by
  rcases h with h | h
  · exact h.1
  · obtain ⟨id, _, B, h1, h2⟩ := H.own h
    exact .inr ⟨id, B, h1, h2⟩

theorem SubOk.vp {v : PV} {u : Value} (h : C.P v u) : (C.sub ids L bs).P v u := VP.sub (fun _ _ => H.O) h

theorem SubOk.sub : Ok (C.sub ids L bs) where
  gr := ⟨fun b hb => ⟨(H.ok.gr.low b hb).1, fun ho => by
    obtain ⟨id, _, B, h1, h2⟩ := H.own ho
    exact (H.ok.gr.low b hb).2 ⟨id, B, h1, h2⟩⟩, H.ok.gr.at_⟩
  blk i b hl := by
    obtain ⟨_, id, _, h2, h3, h4⟩ := H.live_at hl
    have hb := H.ok.blk id b h2
    rcases h3 with ⟨sz, es, rfl⟩ | ⟨vs, rfl⟩
    · rcases hb with ⟨g1, g2⟩ | ⟨n, carr, e, fr, g1, g2, g3, g4, g5, g6, g7⟩
      · exact .inl ⟨h4.trans g1, g2⟩
      · exact .inr ⟨n, carr, e, fr, h4.trans g1, g2, g3, g4, g5, g6, fun i j e c he hj => by
          obtain ⟨u, k1, k2⟩ := g7 i j e c he hj
          exact ⟨u, k1, H.vp k2⟩⟩
    · obtain ⟨n, carr, e, fr, g1, g2, g3, g4, g5⟩ := hb
      refine ⟨n, carr, e, fr, h4.trans g1, g2, g3, g4, fun j c hc => ?_⟩
      obtain ⟨u, k1, k2, k3⟩ := g5 j c hc
      refine ⟨u, k1, ?_, k3⟩
      simp only [List.getElem?_map] at hc
      cases hv : vs[j]? with
      | none => rw [hv] at hc; cases hc
      | some v => rw [hv] at hc; cases hc; exact H.vp k2
  inj i i' n b b' h1 h2 e1 e2 := by
    obtain ⟨_, id, g1, g2, _, g4⟩ := H.live_at h1
    obtain ⟨_, id', k1, k2, _, k4⟩ := H.live_at h2
    have := H.ok.inj id id' n b b' g2 k2 (g4 ▸ e1) (k4 ▸ e2)
    subst this
    exact nodup_inj H.nodup g1 k1
  x n hn := by
    refine ⟨?_, fun ho => ?_⟩
    · rcases hn.1 with h | ⟨id, b, h1, h2⟩
      · exact (H.ok.x n h).1
      · exact (H.ok.lt h1 h2).1
    · obtain ⟨id, hm, B, _, h2⟩ := H.own ho
      exact hn.2 id (.inl hm) h2

end sub

theorem idx_get {x : Nat} : ∀ {l : List Nat}, x ∈ l → l[idx x l]? = some x
  | [], h => by cases h
  | y :: l, h => by
    unfold idx
    cases hb : Nat.beq x y with
    | true => have := Nat.eq_of_beq_eq_true hb; subst this; rfl
    | false =>
      have hne : x ≠ y := fun e => by subst e; simp at hb
      have hm : x ∈ l := (List.mem_cons.1 h).resolve_left hne
      simp only [cond_false, List.getElem?_cons_succ]
      exact idx_get hm

theorem idx_of {l : List Nat} (hn : l.Nodup) {k x : Nat} (h : l[k]? = some x) : idx x l = k := by
  have hm := List.mem_of_getElem? h
  exact nodup_inj hn (idx_get hm) h

def TB (raw can : Blk) : Prop := (raw = can ∧ ∃ sz es, raw = .arr sz es) ∨ ∃ (ss : List Sh) (vs : List PV), raw = .box (vs.map AV.p) ∧ can = .box ((canCs ss vs 0).map AV.p) ∧ okCs ss vs = true

def noslBlk : Blk → Bool
  | .box cs => cs.all noslA
  | .arr _ es => es.all fun e => e.all noslP

theorem VP.nosl {w : World} {O O' : Nat → Prop} {v : PV} {u : Value} (hn : noslP v = true) (h : VP w O v u) : VP w O' v u := by
  cases h <;> first | (cases hn; done) | (constructor; done)

def mergeι (C D : Ctx) (cid : List Nat) : Nat → Option Nat := fun id => if id ∈ cid then D.ι (idx id cid) else C.ι id
def Ctx.merge (C D : Ctx) (cid : List Nat) (ds : List Blk) : Ctx := ⟨D.w, mergeι C D cid, putUps (zipUps cid ds) C.h, C.X⟩

theorem mem_zipUps : ∀ {cid : List Nat} {ds : List Blk} {id : Nat} {e : Ent}, (id, e) ∈ zipUps cid ds → ∃ (k : Nat) (b : Blk), cid[k]? = some id ∧ ds[k]? = some b ∧ e = .blk b
  | [], _, _, _, h => by simp [zipUps] at h
  | _ :: _, [], _, _, h => by simp [zipUps] at h
  | x :: cid, b :: ds, id, e, h => by
    simp only [zipUps, List.mem_cons, Prod.mk.injEq] at h
    rcases h with ⟨rfl, rfl⟩ | h
    · exact ⟨0, b, rfl, rfl, rfl⟩
    · obtain ⟨k, b', h1, h2, h3⟩ := mem_zipUps h
      exact ⟨k + 1, b', h1, h2, h3⟩

theorem nodup_put : ∀ {cid : List Nat} {ds : List Blk} {h : List Ent} {k id : Nat} {b : Blk}, cid.Nodup → cid[k]? = some id → ds[k]? = some b → id < h.length → nth Ent.fresh (putUps (zipUps cid ds) h) id = .blk b
  | [], _, _, k, _, _, _, h1, _, _ => by simp at h1
  | _ :: _, [], _, k, _, _, _, _, h2, _ => by simp at h2
  | x :: cid, d :: ds, h, 0, id, b, hn, h1, h2, hl => by
    simp only [List.getElem?_cons_zero, Option.some.injEq] at h1 h2
    subst h1 h2
    rw [zipUps, putUps, putUps_get_of_not, nth_upd, if_pos ⟨rfl, hl⟩]
    intro u hu he
    obtain ⟨k, b', g1, _, _⟩ := mem_zipUps (show (u.1, u.2) ∈ _ from hu)
    rw [he] at g1
    exact (List.nodup_cons.1 hn).1 (List.mem_of_getElem? g1)
  | x :: cid, d :: ds, h, k + 1, id, b, hn, h1, h2, hl => by
    rw [zipUps, putUps]
    exact nodup_put (List.nodup_cons.1 hn).2 (by simpa using h1) (by simpa using h2) (by rw [length_upd]; exact hl)

structure MergeOk (C : Ctx) (ids L : List Nat) (bs : List Blk) (D : Ctx) (nids : List Nat) (R ds : List Blk) : Prop where
  sub : SubOk C ids L bs
  ext : Ext (C.sub ids L bs) D
  ok : Ok D
  h : D.h = R.map Ent.blk
  len : R.length = ids.length + nids.length
  dlen : ds.length = R.length
  tb : ∀ (k : Nat) r d, R[k]? = some r → ds[k]? = some d → TB r d
  fresh : ∀ n ∈ nids, nth Ent.fresh C.h n = .fresh ∧ n < C.h.length
  nnod : nids.Nodup
  nosl : L = [] ∨ ∀ b ∈ R, noslBlk b = true

theorem live_lt {h : List Ent} {id : Nat} {b : Blk} (hl : live h id b) : id < h.length := by
  rcases Nat.lt_or_ge id h.length with h' | h'
  · exact h'
  · unfold live at hl
    rw [nth_out h'] at hl
    cases hl

theorem canCs_length : ∀ (ss : List Sh) (cs : List PV) (i : Nat), (canCs ss cs i).length = ss.length
  | [], _, _ => rfl
  | s :: ss, cs, i => by simp [canCs, canCs_length ss]

section merge
variable {C : Ctx} {ids L : List Nat} {bs : List Blk} {D : Ctx} {nids : List Nat} {R ds : List Blk} (M : MergeOk C ids L bs D nids R ds)
include M

theorem MergeOk.idlive {id : Nat} (h : id ∈ ids) : ∃ b, live C.h id b := by
  obtain ⟨i, hi⟩ := List.getElem?_of_mem h
  obtain ⟨b, _, h2, _⟩ := M.sub.at_ i id hi
  exact ⟨b, h2⟩

theorem MergeOk.ne {id n : Nat} (h : known C.h id) (hn : n ∈ nids) : id ≠ n := fun he => h (he ▸ (M.fresh n hn).1)

theorem MergeOk.nodup : (ids ++ nids).Nodup := by
  refine List.nodup_append.2 ⟨M.sub.nodup, M.nnod, fun a ha b hb => ?_⟩
  obtain ⟨B, hB⟩ := M.idlive ha
  exact M.ne (live_known hB) hb

theorem MergeOk.clt {k id : Nat} (h : (ids ++ nids)[k]? = some id) : id < C.h.length := by
  rcases List.mem_append.1 (List.mem_of_getElem? h) with h1 | h1
  · obtain ⟨B, hB⟩ := M.idlive h1
    exact live_lt hB
  · exact (M.fresh id h1).2

theorem MergeOk.liveD {k : Nat} {r : Blk} (h : R[k]? = some r) : live D.h k r := by
  unfold live
  rw [M.h]
  exact (nth_map_blk R k r).2 h

theorem MergeOk.ι_at {k id : Nat} (h : (ids ++ nids)[k]? = some id) : (C.merge D (ids ++ nids) ds).ι id = D.ι k := by
  show mergeι C D (ids ++ nids) id = _
  unfold mergeι
  rw [if_pos (List.mem_of_getElem? h), idx_of M.nodup h]

theorem MergeOk.ι_out {id : Nat} (h : id ∉ ids ++ nids) : (C.merge D (ids ++ nids) ds).ι id = C.ι id := by
  show mergeι C D (ids ++ nids) id = _
  unfold mergeι
  rw [if_neg h]

theorem MergeOk.handed {k id : Nat} (h : ids[k]? = some id) : ∃ b r, bs[k]? = some b ∧ R[k]? = some r ∧ live C.h id b ∧ D.ι k = C.ι id ∧ like b r := by
  obtain ⟨b, h1, h2, h3⟩ := M.sub.at_ k id h
  have hlt : k < R.length := by
    have := (List.getElem?_eq_some_iff.1 h).1
    have := M.len
    omega
  have hR : R[k]? = some R[k] := List.getElem?_eq_getElem hlt
  have hk : live (C.sub ids L bs).h k b := (nth_map_blk bs k b).2 h1
  obtain ⟨_, he⟩ := M.ext.ent k (live_known hk)
  obtain ⟨b', g1, g2, g3⟩ := he R[k] (M.liveD hR)
  have := live_inj g1 hk
  subst this
  refine ⟨_, _, h1, hR, h2, ?_, g3⟩
  rw [g2]
  show ((ids[k]?).bind C.ι) = _
  rw [h]; rfl

theorem MergeOk.cases {id : Nat} {b : Blk} (h : live (C.merge D (ids ++ nids) ds).h id b) :
    (∃ k r, (ids ++ nids)[k]? = some id ∧ ds[k]? = some b ∧ R[k]? = some r ∧ TB r b ∧ live D.h k r ∧ (C.merge D (ids ++ nids) ds).ι id = D.ι k) ∨
    (id ∉ ids ++ nids ∧ live C.h id b ∧ (C.merge D (ids ++ nids) ds).ι id = C.ι id) := by
  have hcl : (ids ++ nids).length = ds.length := by rw [List.length_append, M.dlen, M.len]
  by_cases hm : id ∈ ids ++ nids
  · left
    obtain ⟨k, hk⟩ := List.getElem?_of_mem hm
    have hlt : k < ds.length := by rw [← hcl]; exact (List.getElem?_eq_some_iff.1 hk).1
    have hd : ds[k]? = some ds[k] := List.getElem?_eq_getElem hlt
    have hp := nodup_put (h := C.h) M.nodup hk hd (M.clt hk)
    have h' : nth Ent.fresh (putUps (zipUps (ids ++ nids) ds) C.h) id = .blk b := h
    rw [hp] at h'
    cases h'
    have hR : R[k]? = some (R[k]'(by rw [← M.dlen]; exact hlt)) := List.getElem?_eq_getElem _
    exact ⟨k, _, hk, hd, hR, M.tb k _ _ hR hd, M.liveD hR, M.ι_at hk⟩
  · right
    refine ⟨hm, ?_, M.ι_out hm⟩
    rcases live_putUps h with h1 | h1
    · obtain ⟨k, b', g1, _, _⟩ := mem_zipUps h1
      exact absurd (List.mem_of_getElem? g1) hm
    · exact h1

theorem MergeOk.ownD {n : Nat} (h : D.own n) (hn : n < C.w.heap.size) : ∃ id ∈ ids, ∃ B, live C.h id B ∧ C.ι id = some n := M.sub.own (M.ext.own n hn h)

theorem MergeOk.own_cases {n : Nat} (h : (C.merge D (ids ++ nids) ds).own n) : D.own n ∨ ∃ id b, id ∉ ids ++ nids ∧ live C.h id b ∧ C.ι id = some n := by
  obtain ⟨id, b, hl, hi⟩ := h
  rcases M.cases hl with ⟨k, r, _, _, _, _, h5, h6⟩ | ⟨h1, h2, h3⟩
  · exact .inl ⟨k, r, h5, by rw [← h6]; exact hi⟩
  · exact .inr ⟨id, b, h1, h2, by rw [← h3]; exact hi⟩

theorem MergeOk.out_not {id : Nat} {b : Blk} {n : Nat} (h1 : id ∉ ids ++ nids) (h2 : live C.h id b) (h3 : C.ι id = some n) : ¬ D.own n := by
  intro ho
  obtain ⟨id', hm, B, g1, g2⟩ := M.ownD ho (M.sub.ok.lt h2 h3).1
  have := M.sub.ok.inj id' id n B b g1 h2 g2 h3
  subst this
  exact h1 (List.mem_append.2 (.inl hm))

theorem MergeOk.extC : Ext C (C.merge D (ids ++ nids) ds) where
  tape := M.ext.tape
  os := M.ext.os
  out := M.ext.out
  size := M.ext.size
  X := rfl
  keep b hb ho := M.ext.keep b hb fun h => by
    obtain ⟨id, _, B, h1, h2⟩ := M.sub.own h
    exact ho ⟨id, B, h1, h2⟩
  own b hb h := by
    rcases M.own_cases h with h | ⟨id, B, _, h2, h3⟩
    · obtain ⟨id, _, B, h1, h2⟩ := M.ownD h hb
      exact ⟨id, B, h1, h2⟩
    · exact ⟨id, B, h2, h3⟩
  ent id hk := by
    refine ⟨known_putUps (fun u hu => ?_) hk, fun b' hb' => ?_⟩
    · obtain ⟨k, b, _, _, h3⟩ := mem_zipUps (show (u.1, u.2) ∈ _ from hu)
      rw [h3]; simp
    · rcases M.cases hb' with ⟨k, r, h1, h2, h3, h4, h5, h6⟩ | ⟨h1, h2, h3⟩
      · have hkl : ids[k]? = some id := by
          rw [List.getElem?_append] at h1
          split at h1
          · exact h1
          · exact absurd rfl (M.ne hk (List.mem_of_getElem? h1))
        obtain ⟨b, r', g1, g2, g3, g4, g5⟩ := M.handed hkl
        rw [h3] at g2; cases g2
        refine ⟨b, g3, h6.trans g4, like_trans g5 ?_⟩
        rcases h4 with ⟨rfl, _⟩ | ⟨ss, vs, rfl, rfl, hok⟩
        · exact like_refl _
        · show (List.map AV.p vs).length = (List.map AV.p _).length
          simp only [List.length_map]
          rw [← okCs_length hok, canCs_length]
      · exact ⟨b', h2, h3, like_refl _⟩
  row b carr e fr ho hc := by
    by_cases hb : (C.sub ids L bs).own b
    · exact M.ext.row b carr e fr hb hc
    · exact ⟨carr, fr, by rw [show (C.merge D (ids ++ nids) ds).w = D.w from rfl, M.ext.keep b (Array.getElem?_eq_some_iff.1 hc).1 hb]; exact hc, rfl⟩

theorem MergeOk.vp {v : PV} {u : Value} (hn : L = [] ∨ noslP v = true) (h : D.P v u) : (C.merge D (ids ++ nids) ds).P v u := by
  rcases hn with hn | hn
  · refine VP.sub (w := D.w) (O := D.O) (fun b hb ho => ?_) h
    have hX : ∀ b, (∀ id, id ∈ ids → C.ι id ≠ some b) → C.O b → D.X b := fun b h1 h2 => by
      rw [M.ext.X]
      refine ⟨h2, fun id hid => ?_⟩
      rcases hid with h3 | h3
      · exact h1 id h3
      · rw [hn] at h3; cases h3
    rcases ho with hx | ho
    · refine .inl (hX b (fun id hid he => ?_) (.inl hx))
      obtain ⟨B, hB⟩ := M.idlive hid
      exact (M.sub.ok.x b hx).2 ⟨id, B, hB, he⟩
    · rcases M.own_cases ho with h | ⟨id, B, h1, h2, h3⟩
      · exact .inr h
      · refine .inl (hX b (fun id' hid' he => ?_) (.inr ⟨id, B, h2, h3⟩))
        obtain ⟨B', hB'⟩ := M.idlive hid'
        have := M.sub.ok.inj id' id b B' B hB' h2 he h3
        subst this
        exact h1 (List.mem_append.2 (.inl hid'))
  · exact VP.nosl hn h

theorem MergeOk.blkD {k id : Nat} {r b : Blk} (hR : R[k]? = some r) (hι : (C.merge D (ids ++ nids) ds).ι id = D.ι k) (htb : TB r b) : BlkR (C.merge D (ids ++ nids) ds) id b := by
  have hb := M.ok.blk k r (M.liveD hR)
  have hns : L = [] ∨ noslBlk r = true := M.nosl.imp (fun h => h) fun h => h r (List.mem_of_getElem? hR)
  rcases htb with ⟨rfl, sz, es, rfl⟩ | ⟨ss, vs, rfl, rfl, hok⟩
  · rcases hb with ⟨g1, g2⟩ | ⟨n, carr, e, fr, g1, g2, g3, g4, g5, g6, g7⟩
    · exact .inl ⟨hι.trans g1, g2⟩
    · refine .inr ⟨n, carr, e, fr, hι.trans g1, g2, g3, g4, g5, g6, fun i j e c he hj => ?_⟩
      obtain ⟨u, k1, k2⟩ := g7 i j e c he hj
      refine ⟨u, k1, M.vp (hns.imp (fun h => h) fun h => ?_) k2⟩
      exact List.all_eq_true.1 (List.all_eq_true.1 h e (List.mem_of_getElem? he)) c (List.mem_of_getElem? hj)
  · obtain ⟨n, carr, e, fr, g1, g2, g3, g4, g5⟩ := hb
    have hall : All2 (C.merge D (ids ++ nids) ds).P vs carr.toList := by
      refine All2.of_get (by simpa using g3.symm) fun j v u hv hu => ?_
      obtain ⟨u', k1, k2, _⟩ := g5 j (.p v) (by simp [hv])
      have : carr[j]? = some u := by simpa using hu
      rw [k1] at this; cases this
      refine M.vp (hns.imp (fun h => h) fun h => ?_) k2
      have := List.all_eq_true.1 h (.p v) (List.mem_map.2 ⟨v, List.mem_of_getElem? hv, rfl⟩)
      exact this
    have hcan := canCs_sound (i := 0) (cs := vs) hok (fun j _ => by rw [Nat.zero_add]) hall
    refine ⟨n, carr, e, fr, hι.trans g1, g2, ?_, g4, fun j c hc => ?_⟩
    · rw [List.length_map]; have := hcan.length; simpa using this.symm
    · simp only [List.getElem?_map] at hc
      cases hv : (canCs ss vs 0)[j]? with
      | none => rw [hv] at hc; cases hc
      | some v =>
        rw [hv] at hc; cases hc
        obtain ⟨u, h1, h2⟩ := hcan.get j v hv
        have h1' : carr[j]? = some u := by simpa using h1
        exact ⟨u, h1', h2, h2.oneCell⟩

theorem MergeOk.okC : Ok (C.merge D (ids ++ nids) ds) where
  gr := M.extC.gr M.sub.ok.gr
  blk id b hl := by
    rcases M.cases hl with ⟨k, r, _, _, h3, h4, _, h6⟩ | ⟨h1, h2, h3⟩
    · exact M.blkD h3 h6 h4
    · refine M.extC.blkR (M.sub.ok.blk id b h2) h3 fun n hn => ?_
      exact M.ext.keep n (M.sub.ok.lt h2 hn).1 fun ho => by
        obtain ⟨id', hm, B, g1, g2⟩ := M.sub.own ho
        have := M.sub.ok.inj id' id n B b g1 h2 g2 hn
        subst this
        exact h1 (List.mem_append.2 (.inl hm))
  inj id id' n b b' h1 h2 e1 e2 := by
    rcases M.cases h1 with ⟨k, r, a1, _, _, _, a5, a6⟩ | ⟨a1, a2, a3⟩ <;> rcases M.cases h2 with ⟨k', r', c1, _, _, _, c5, c6⟩ | ⟨c1, c2, c3⟩
    · have := M.ok.inj k k' n r r' a5 c5 (a6 ▸ e1) (c6 ▸ e2)
      subst this
      rw [a1] at c1; exact Option.some.inj c1
    · exact absurd ⟨k, r, a5, a6 ▸ e1⟩ (M.out_not c1 c2 (c3 ▸ e2))
    · exact absurd ⟨k', r', c5, c6 ▸ e2⟩ (M.out_not a1 a2 (a3 ▸ e1))
    · exact M.sub.ok.inj id id' n b b' a2 c2 (a3 ▸ e1) (c3 ▸ e2)
  x n hn := by
    obtain ⟨h1, h2⟩ := M.sub.ok.x n hn
    exact ⟨Nat.lt_of_lt_of_le h1 M.ext.size, fun h => h2 (M.extC.own n h1 h)⟩

end merge

end Go.Proofs.YtpnpdkgdgfkpfaaGreatDoor.Vm
