/- The abstract machine, part T: slices of rows of the call's own, maps: against the model's. -/
import Derived.Test.YtclplmjlolpfbaaGreatVm16
import Derived.MapKept
namespace Go.Proofs.YtclplmjlolpfbaaGreat.Vm
open Go.MapKept
set_option linter.unusedVariables false
set_option linter.unusedSectionVars false
set_option linter.unusedSimpArgs false

def deadL (J : List Nat) : Ups := J.map fun j => (j, Ent.dead)
theorem deadL_dead (J : List Nat) : allDead (deadL J) := fun u hu => by
  obtain ⟨j, _, rfl⟩ := List.mem_map.1 hu
  rfl
theorem live_ltT {h : List Ent} {id : Nat} {b : Blk} (hl : live h id b) : id < h.length := by
  rcases Nat.lt_or_ge id h.length with h' | h'
  · exact h'
  · unfold live at hl
    rw [nth_eq] at hl
    simp [List.getD, List.getElem?_eq_none h'] at hl

def Ctx.tabw (C : Ctx) (w' : World) (J : List Nat) (id : Nat) (B' : Blk) : Ctx := ⟨w', C.ι, upd (.blk B') (putUps (deadL J) C.h) id, C.X, fun i k => C.κ i k ∨ (i = id ∧ ∃ j, j ∈ J ∧ C.at j k)⟩
structure TabW (C : Ctx) (w' : World) (J : List Nat) (id n : Nat) (B B' : Blk) : Prop where
  hl : live C.h id B
  hi : C.ι id = some n
  hJ : ∀ j ∈ J, j ≠ id ∧ ∃ b, live C.h j b
  tape : w'.tape = C.w.tape
  os : w'.os = C.w.os
  out : w'.output = C.w.output
  size : w'.heap.size = C.w.heap.size
  keep : ∀ b, b ≠ n → w'.heap[b]? = C.w.heap[b]?
  row : ∀ carr e fr, C.w.heap[n]? = some (.cells carr e fr) → ∃ carr' fr', w'.heap[n]? = some (.cells carr' e fr') ∧ carr'.size = carr.size
  lk : like B B'

section tabw
variable {C : Ctx} {w' : World} {J : List Nat} {id n : Nat} {B B' : Blk} (T : TabW C w' J id n B B')
include T
theorem TabW.live {i : Nat} {b : Blk} (h : live (C.tabw w' J id B').h i b) : (i = id ∧ b = B') ∨ (i ≠ id ∧ i ∉ J ∧ Vm.live C.h i b) := by
  rcases live_upd.1 h with ⟨e, _, he⟩ | ⟨hn, h1⟩
  · cases he; exact .inl ⟨e.symm, rfl⟩
  · have h2 := live_putDead (deadL_dead J) h1
    refine .inr ⟨fun he => hn ⟨he.symm, live_ltT h1⟩, fun hj => not_live_put (deadL_dead J) (List.mem_map.2 ⟨i, hj, rfl⟩) h1, h2⟩
theorem TabW.at_ {i k : Nat} (h : (C.tabw w' J id B').at i k) : C.at i k ∨ (i = id ∧ ∃ j, j ∈ J ∧ C.at j k) := by
  rcases h with h | h | h
  · exact .inl (.inl h)
  · exact .inl (.inr h)
  · exact .inr h
theorem TabW.at_other {i k : Nat} (hi : i ≠ id) (h : (C.tabw w' J id B').at i k) : C.at i k := by
  rcases T.at_ h with h | ⟨h, _⟩
  · exact h
  · exact absurd h hi
theorem TabW.ext : Ext C (C.tabw w' J id B') where
  tape := T.tape
  os := T.os
  out := T.out
  size := Nat.le_of_eq T.size.symm
  X := rfl
  keep b _ ho := T.keep b fun e => ho ⟨id, B, T.hl, .inl (e ▸ T.hi)⟩
  own b _ h := by
    obtain ⟨i, blk, hl, ha⟩ := h
    rcases T.at_ ha with ha1 | ⟨_, j, hj, ha1⟩
    · rcases T.live hl with ⟨h1, _⟩ | ⟨_, _, hl1⟩
      · exact ⟨id, B, T.hl, h1 ▸ ha1⟩
      · exact ⟨i, blk, hl1, ha1⟩
    · obtain ⟨_, b', hb'⟩ := T.hJ j hj
      exact ⟨j, b', hb', ha1⟩
  ent i hk := by
    refine ⟨known_upd (by simp) (known_putUps (deadL_dead J).nf hk), fun b hb => ?_⟩
    rcases T.live hb with ⟨rfl, rfl⟩ | ⟨_, _, hl⟩
    · exact ⟨B, T.hl, rfl, T.lk⟩
    · exact ⟨b, hl, rfl, like_refl _⟩
  row b carr e fr _ h := by
    by_cases hb : b = n
    · subst hb
      exact T.row carr e fr h
    · exact ⟨carr, fr, (T.keep b hb).trans h, rfl⟩
theorem TabW.ok (hok : Ok C) (hB : BlkR (C.tabw w' J id B') id B') : Ok (C.tabw w' J id B') := by
  refine hok.step T.ext (fun i b hl => ?_) (fun i i' m b b' h1 h2 e1 e2 => ?_) (fun i b m h1 h2 => ?_)
  · rcases T.live hl with ⟨rfl, rfl⟩ | ⟨hi, _, hl⟩
    · exact .inl hB
    · refine .inr ⟨hl, rfl, fun k => ⟨fun h => h.elim (fun h => h) fun h => absurd h.1 hi, fun h => .inl h⟩, fun k hk => T.keep k fun e => ?_⟩
      subst e
      exact hi (hok.inj i id k b B hl T.hl hk (.inl T.hi))
  · have key : ∀ {i b}, Vm.live (C.tabw w' J id B').h i b → (C.tabw w' J id B').at i m → ∃ i0 b0, Vm.live C.h i0 b0 ∧ C.at i0 m ∧ (i = id ∧ (i0 = id ∨ i0 ∈ J) ∨ (i ≠ id ∧ i0 = i ∧ i ∉ J)) := by
      intro i b hl ha
      rcases T.live hl with ⟨h1, _⟩ | ⟨hi, hj, hl1⟩
      · rcases T.at_ ha with ha1 | ⟨_, j, hj, ha1⟩
        · exact ⟨id, B, T.hl, h1 ▸ ha1, .inl ⟨h1, .inl rfl⟩⟩
        · obtain ⟨_, b', hb'⟩ := T.hJ j hj
          exact ⟨j, b', hb', ha1, .inl ⟨h1, .inr hj⟩⟩
      · exact ⟨i, b, hl1, T.at_other hi ha, .inr ⟨hi, rfl, hj⟩⟩
    obtain ⟨a, ba, a1, a2, a3⟩ := key h1 e1
    obtain ⟨c, bc, c1, c2, c3⟩ := key h2 e2
    have hac := hok.inj a c m ba bc a1 c1 a2 c2
    subst hac
    rcases a3 with ⟨rfl, a3⟩ | ⟨a3, a4, a5⟩ <;> rcases c3 with ⟨rfl, c3⟩ | ⟨c3, c4, c5⟩
    · rfl
    · rcases a3 with rfl | a3
      · exact absurd c4.symm c3
      · exact absurd (c4 ▸ a3) c5
    · rcases c3 with rfl | c3
      · exact absurd a4.symm a3
      · exact absurd (a4 ▸ c3) a5
    · exact a4.symm.trans c4
  · rcases T.live h1 with ⟨rfl, rfl⟩ | ⟨hi, _, hl⟩
    · rcases h2 with h2 | ⟨_, j, hj, ha⟩
      · exact .inl ⟨B, T.hl, h2⟩
      · obtain ⟨_, b', hb'⟩ := T.hJ j hj
        exact .inr (by show m < w'.heap.size; rw [T.size]; exact hok.ltA hb' ha)
    · rcases h2 with h2 | h2
      · exact .inl ⟨b, hl, h2⟩
      · exact absurd h2.1 hi
end tabw

def Ctx.detach (C : Ctx) (nid id : Nat) (x : Option Nat) (A B' : Blk) : Ctx := ⟨C.w, ιset C.ι nid x, upd (.blk B') (upd (.blk A) C.h nid) id, C.X, fun i k => (i ≠ nid ∧ C.κ i k) ∧ ¬ (i = id ∧ x = some k)⟩
structure Det (C : Ctx) (nid id n : Nat) (x : Option Nat) (A B B' : Blk) : Prop where
  hl : live C.h id B
  hi : C.ι id = some n
  hn : ¬ C.κ id n
  hf : nth Ent.fresh C.h nid = .fresh
  lt : nid < C.h.length
  hx : ∀ g, x = some g → C.κ id g
  lk : like B B'
section det
variable {C : Ctx} {nid id n : Nat} {x : Option Nat} {A B B' : Blk} (T : Det C nid id n x A B B')
include T
theorem Det.ne : id ≠ nid := known_ne (live_known T.hl) T.hf
theorem Det.live {i : Nat} {b : Blk} (h : live (C.detach nid id x A B').h i b) : (i = id ∧ b = B') ∨ (i = nid ∧ b = A) ∨ (i ≠ id ∧ i ≠ nid ∧ Vm.live C.h i b) := by
  rcases live_upd.1 h with ⟨e, _, he⟩ | ⟨hn, h1⟩
  · cases he; exact .inl ⟨e.symm, rfl⟩
  · have hne : i ≠ id := fun he => hn ⟨he.symm, live_ltT h1⟩
    rcases live_upd.1 h1 with ⟨e, _, he⟩ | ⟨hn2, h2⟩
    · cases he; exact .inr (.inl ⟨e.symm, rfl⟩)
    · exact .inr (.inr ⟨hne, fun he => hn2 ⟨he.symm, live_ltT h2⟩, h2⟩)
theorem Det.at_ {i k : Nat} (h : (C.detach nid id x A B').at i k) : (i = nid ∧ x = some k) ∨ (i ≠ nid ∧ C.at i k ∧ (i = id → x ≠ some k)) := by
  by_cases he : i = nid
  · subst he
    rcases h with h | h
    · have h' : ιset C.ι i x i = some k := h
      rw [ιset_same] at h'
      exact .inl ⟨rfl, h'⟩
    · exact absurd rfl h.1.1
  · rcases h with h | h
    · have h' : ιset C.ι nid x i = some k := h
      rw [ιset_other he] at h'
      refine .inr ⟨he, .inl h', fun e hx => ?_⟩
      subst e
      rw [T.hi] at h'; cases h'
      exact T.hn (T.hx _ hx)
    · exact .inr ⟨he, .inr h.1.2, fun e hx => h.2 ⟨e, hx⟩⟩
theorem Det.ext : Ext C (C.detach nid id x A B') where
  tape := rfl
  os := rfl
  out := rfl
  size := Nat.le_refl _
  X := rfl
  keep _ _ _ := rfl
  own b _ h := by
    obtain ⟨i, blk, hl, ha⟩ := h
    rcases T.at_ ha with ⟨_, hx⟩ | ⟨hi, ha1, _⟩
    · exact ⟨id, B, T.hl, .inr (T.hx b hx)⟩
    · rcases T.live hl with ⟨h1, _⟩ | ⟨h, _⟩ | ⟨_, _, hl1⟩
      · exact ⟨id, B, T.hl, h1 ▸ ha1⟩
      · exact absurd h hi
      · exact ⟨i, blk, hl1, ha1⟩
  ent i hk := by
    have hne := known_ne hk T.hf
    refine ⟨known_upd (by simp) (known_upd (by simp) hk), fun b hb => ?_⟩
    rcases T.live hb with ⟨rfl, rfl⟩ | ⟨h, _⟩ | ⟨_, _, hl⟩
    · exact ⟨B, T.hl, ιset_other hne, T.lk⟩
    · exact absurd h hne
    · exact ⟨b, hl, ιset_other hne, like_refl _⟩
  row b carr e fr _ h := ⟨carr, fr, h, rfl⟩
theorem Det.ok (hok : Ok C) (hA : BlkR (C.detach nid id x A B') nid A) (hB : BlkR (C.detach nid id x A B') id B') : Ok (C.detach nid id x A B') := by
  refine hok.step T.ext (fun i b hl => ?_) (fun i i' m b b' h1 h2 e1 e2 => ?_) (fun i b m h1 h2 => ?_)
  · rcases T.live hl with ⟨rfl, rfl⟩ | ⟨rfl, rfl⟩ | ⟨h1, h2, hl⟩
    · exact .inl hB
    · exact .inl hA
    · exact .inr ⟨hl, ιset_other h2, fun k => ⟨fun h => h.1.2, fun h => ⟨⟨h2, h⟩, fun e => h1 e.1⟩⟩, fun _ _ => rfl⟩
  · have key : ∀ {i b}, Vm.live (C.detach nid id x A B').h i b → (C.detach nid id x A B').at i m → (i = nid ∧ x = some m) ∨ (i ≠ nid ∧ (∃ b0, Vm.live C.h i b0) ∧ C.at i m ∧ (i = id → x ≠ some m)) := by
      intro i b hl ha
      rcases T.at_ ha with h | ⟨k1, k2, k3⟩
      · exact .inl h
      · rcases T.live hl with ⟨h1, _⟩ | ⟨h, _⟩ | ⟨_, _, hl1⟩
        · exact .inr ⟨k1, ⟨B, h1 ▸ T.hl⟩, k2, k3⟩
        · exact absurd h k1
        · exact .inr ⟨k1, ⟨b, hl1⟩, k2, k3⟩
    rcases key h1 e1 with ⟨a1, a2⟩ | ⟨a1, ⟨b0, a2⟩, a3, a4⟩ <;> rcases key h2 e2 with ⟨c1, c2⟩ | ⟨c1, ⟨b1, c2⟩, c3, c4⟩
    · rw [a1, c1]
    · exact absurd a2 (c4 (hok.inj i' id m b1 B c2 T.hl c3 (.inr (T.hx m a2))))
    · exact absurd c2 (a4 (hok.inj i id m b0 B a2 T.hl a3 (.inr (T.hx m c2))))
    · exact hok.inj i i' m b0 b1 a2 c2 a3 c3
  · rcases T.live h1 with ⟨rfl, rfl⟩ | ⟨rfl, rfl⟩ | ⟨_, _, hl⟩
    · exact .inl ⟨B, T.hl, h2.1.2⟩
    · exact absurd rfl h2.1.1
    · exact .inl ⟨b, hl, h2.1.2⟩
end det

theorem tabV_set {C C' : Ctx} {id sz : Nat} {kvs kvs' : List (Int × MV)} {vals vals' : List Value} (h : TabV C id sz kvs vals) (i0 : Nat) (mv : MV) (u' : Value) (hlen : vals'.length = kvs'.length)
    (hc : ∀ (i : Nat) x u, kvs'[i]? = some x → vals'[i]? = some u → (i ≠ i0 ∧ kvs[i]? = some x ∧ vals[i]? = some u) ∨ (i = i0 ∧ x.2 = mv ∧ u = u')) (hone : u'.oneCell' = true)
    (hold : ∀ (i : Nat) x u, i ≠ i0 → kvs[i]? = some x → vals[i]? = some u → MVR C' id sz x.2 u) (hnew : MVR C' id sz mv u')
    (hap : ∀ (i : Nat) x es es' u g, mv = .row es → u'.ownBlock = some g → i ≠ i0 → kvs[i]? = some x → x.2 = .row es' → vals[i]? = some u → u.ownBlock = some g → False) : TabV C' id sz kvs' vals' := by
  refine ⟨hlen, fun i u hu => ?_, fun i x u hx hu => ?_, fun i j x y es es' u v g hx hy ex ey hu hv gu gv => ?_⟩
  · have hlt : i < kvs'.length := by rw [← hlen]; exact (List.getElem?_eq_some_iff.1 hu).1
    rcases hc i _ u (List.getElem?_eq_getElem hlt) hu with ⟨_, _, h2⟩ | ⟨_, _, h2⟩
    · exact h.one i u h2
    · rw [h2]; exact hone
  · rcases hc i x u hx hu with ⟨h1, h2, h3⟩ | ⟨h1, h2, h3⟩
    · exact hold i x u h1 h2 h3
    · rw [h2, h3]; exact hnew
  · rcases hc i x u hx hu with ⟨a1, a2, a3⟩ | ⟨a1, a2, a3⟩ <;> rcases hc j y v hy hv with ⟨b1, b2, b3⟩ | ⟨b1, b2, b3⟩
    · exact h.apart i j x y es es' u v g a2 b2 ex ey a3 b3 gu gv
    · exact (hap i x es' es u g (b2.symm.trans ey) (b3 ▸ gv) a1 a2 ex a3 gu).elim
    · exact (hap j y es es' v g (a2.symm.trans ex) (a3 ▸ gu) b1 b2 ey b3 gv).elim
    · rw [a1, b1]

theorem rowR_block {C : Ctx} {id sz : Nat} {es : List (List PV)} {u : Value} (h : RowR C id sz es u) {g : Nat} (hg : u.ownBlock = some g) : C.κ id g := by
  rcases h with ⟨rfl, _⟩ | ⟨g', cap, carr, e, fr, rfl, _, hκ, _⟩
  · cases hg
  · have : g' = g := by simpa [Value.ownBlock] using hg
    exact this ▸ hκ
theorem rowR_form {C : Ctx} {id sz : Nat} {es : List (List PV)} {u : Value} (h : RowR C id sz es u) : (∃ a l c, u = .slice a l c) ∧ u.oneCell' = true := by
  rcases h with ⟨rfl, _⟩ | ⟨g', cap, carr, e, fr, rfl, _⟩
  · exact ⟨⟨_, _, _, rfl⟩, rfl⟩
  · exact ⟨⟨_, _, _, rfl⟩, rfl⟩

theorem det_row {C : Ctx} {nid id n sz : Nat} {u : Value} {es : List (List PV)} {B B' : Blk} (hr : RowR C id sz es u) (T : Det C nid id n u.ownBlock (.arr sz es) B B') :
    BlkR (C.detach nid id u.ownBlock (.arr sz es) B') nid (.arr sz es) ∧ VA (C.detach nid id u.ownBlock (.arr sz es) B') (.t (.hsl nid)) u := by
  have hx := T.ext
  have hι : (C.detach nid id u.ownBlock (.arr sz es) B').ι nid = u.ownBlock := ιset_same _ _ _
  have hlive : live (C.detach nid id u.ownBlock (.arr sz es) B').h nid (.arr sz es) := by
    refine live_upd.2 (.inr ⟨fun e => T.ne e.1, live_upd.2 (.inl ⟨rfl, T.lt, rfl⟩)⟩)
  rcases hr with ⟨rfl, rfl⟩ | ⟨g, cap, carr, e, fr, rfl, h2, h3, h4, h5, h6, h7, h8, h9⟩
  · refine ⟨.inl ⟨hι, rfl⟩, live_known hlive, ⟨_, _, _, rfl⟩, fun sz' es' hd => ?_⟩
    have := live_inj hlive hd
    cases this
    unfold HS
    rw [hι]
    exact ⟨rfl, rfl⟩
  · refine ⟨.inr ⟨g, carr, e, fr, hι, h4, Nat.le_trans (Nat.mul_le_mul_right sz h2) h5, h6, h7, h8, fun i j e c he hj => ?_⟩, live_known hlive, ⟨_, _, _, rfl⟩, fun sz' es' hd => ?_⟩
    · obtain ⟨v, a1, a2⟩ := h9 i j e c he hj
      exact ⟨v, a1, hx.vp a2⟩
    · have := live_inj hlive hd
      cases this
      unfold HS
      rw [hι]
      exact ⟨cap, carr, e, fr, rfl, h2, h4, h5⟩

theorem tabw_row {C : Ctx} (hok : Ok C) {w' : World} {id n j sz : Nat} {u : Value} {es : List (List PV)} {B B' : Blk} (T : TabW C w' [j] id n B B') (hl : live C.h j (.arr sz es)) (hu : VA C (.t (.hsl j)) u) :
    RowR (C.tabw w' [j] id B') id sz es u ∧ ∀ g, u.ownBlock = some g → C.ι j = some g := by
  have hx := T.ext
  obtain ⟨_, ⟨a, l, c, rfl⟩, hv⟩ := hu
  have hs := hv sz es hl
  unfold HS at hs
  cases hi : C.ι j with
  | none =>
    rw [hi] at hs
    obtain ⟨rfl, he⟩ := hs
    cases he
    exact ⟨.inl ⟨rfl, rfl⟩, fun g hg => by cases hg⟩
  | some g =>
    rw [hi] at hs
    obtain ⟨cap, carr, e, fr, he, hle, hr, hcap⟩ := hs
    cases he
    have hne : g ≠ n := fun e => by
      subst e
      exact (T.hJ j (by simp)).1 (hok.inj j id g _ B hl T.hl (.inl hi) (.inl T.hi))
    rcases hok.blk j _ hl with ⟨h1, _⟩ | ⟨m, carr2, e2, fr2, h1, h2, hs, hf, hz, hone, hc⟩
    · rw [hi] at h1; cases h1
    · rw [hi] at h1; cases h1
      rw [hr] at h2; cases h2
      refine ⟨.inr ⟨g, _, carr, e, fr, rfl, hle, .inr ⟨rfl, j, by simp, .inl hi⟩, (T.keep g hne).trans hr, hcap, hf, hz, hone, fun i k e c he hk => ?_⟩, fun g' hg => by simpa [Value.ownBlock] using hg⟩
      obtain ⟨v, a1, a2⟩ := hc i k e c he hk
      exact ⟨v, a1, hx.vp a2⟩

end Go.Proofs.YtclplmjlolpfbaaGreat.Vm
