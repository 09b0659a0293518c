/- The abstract machine, part 27: blocks under new numbers. -/
import Derived.Test.YtpnpdkgdgfkpfaaGreatDoorVm26
namespace Go.Proofs.YtpnpdkgdgfkpfaaGreatDoor.Vm
set_option linter.unusedVariables false
set_option linter.unusedSimpArgs false

def Ctx.ren (C : Ctx) (σ : Nat → Option Nat) (hD : List Ent) : Ctx := ⟨C.w, fun j => (σ j).bind C.ι, hD, C.X⟩

structure RenOk (C : Ctx) (σ : Nat → Option Nat) (hD : List Ent) : Prop where
  ok : Ok C
  inj : ∀ j j' id, σ j = some id → σ j' = some id → j = j'
  live : ∀ j b, live hD j b → (∃ id b0, σ j = some id ∧ live C.h id b0 ∧ like b0 b) ∨ (σ j = none ∧ ∃ sz, b = .arr sz [])

section
variable {C : Ctx} {σ : Nat → Option Nat} {hD : List Ent} (R : RenOk C σ hD)
include R

theorem RenOk.own {b : Nat} (h : (C.ren σ hD).own b) : ∃ j id blk b0, Vm.live hD j blk ∧ σ j = some id ∧ Vm.live C.h id b0 ∧ C.ι id = some b := by
  obtain ⟨j, blk, h1, h2⟩ := h
  have h2 : (σ j).bind C.ι = some b := h2
  obtain ⟨id, h3, h4⟩ := Option.bind_eq_some_iff.1 h2
  rcases R.live j blk h1 with ⟨id', b0, h5, h6, _⟩ | ⟨h5, _⟩
  · rw [h3] at h5; cases h5
    exact ⟨j, id, blk, b0, h1, h3, h6, h4⟩
  · rw [h3] at h5; cases h5

theorem RenOk.ownC {b : Nat} (h : (C.ren σ hD).own b) : C.own b := by
  obtain ⟨_, id, _, b0, _, _, h1, h2⟩ := R.own h
  exact ⟨id, b0, h1, h2⟩

theorem RenOk.O {b : Nat} (h : (C.ren σ hD).O b) : C.O b := h.imp (fun h => h) R.ownC

theorem RenOk.vp {v : PV} {u : Value} (h : C.P v u) : (C.ren σ hD).P v u := VP.sub (fun _ _ => R.O) h

theorem RenOk.vps {cs : List PV} {us : List Value} (h : All2 C.P cs us) : All2 (C.ren σ hD).P cs us := h.mono fun _ _ => R.vp

theorem RenOk.frozen {id sz : Nat} {es : List (List PV)} {u : Value} (hl : Vm.live C.h id (.arr sz es)) (hu : HS C id sz es u) (hn : ∀ j b, Vm.live hD j b → σ j ≠ some id) : (C.ren σ hD).P (.sl sz es) u := by
  unfold HS at hu
  have hb := R.ok.blk id _ hl
  cases hi : C.ι id with
  | none =>
    rw [hi] at hu
    obtain ⟨rfl, rfl⟩ := hu
    exact .sl0 sz none 0
  | some n =>
    rw [hi] at hu
    obtain ⟨cap, carr, e, fr, rfl, hle, hr, hcap⟩ := hu
    rcases hb with ⟨h1, _⟩ | ⟨m, carr2, e2, fr2, h1, h2, hs, hf, hz, hone, hc⟩
    · rw [hi] at h1; cases h1
    · rw [hi] at h1; cases h1
      rw [hr] at h2; cases h2
      have hO : ¬ (C.ren σ hD).O n := by
        rintro (hx | ho)
        · exact (R.ok.x n hx).2 ⟨id, _, hl, hi⟩
        · obtain ⟨j, id2, blk, b0, h3, h4, h5, h6⟩ := R.own ho
          have := R.ok.inj id2 id n b0 _ h5 hl h6 hi
          subst this
          exact hn j blk h3 h4
      refine .sl sz es n 0 cap (fun i j => carr.getD (i * sz + j) Go.undef) (Array.getElem?_eq_some_iff.1 hr).1 hO hle hz (fun i j e c he hj => ?_) (fun i j e c he hj => ?_)
      · obtain ⟨x, hx, _⟩ := hc i j e c he hj
        show C.w.cell? _ = _
        rw [show 0 + i * sz + j = i * sz + j by omega, cells_get carr n _ hr, hx]
        simp [Array.getD_eq_getD_getElem?, hx]
      · obtain ⟨x, hx, hp⟩ := hc i j e c he hj
        simp only [Array.getD_eq_getD_getElem?, hx, Option.getD_some]
        exact R.vp hp

theorem RenOk.hsl {j id : Nat} {u : Value} (hj : known hD j) (hσ : σ j = some id) (h : VT C (.hsl id) u) : VT (C.ren σ hD) (.hsl j) u := by
  obtain ⟨_, h1, h2⟩ := h
  refine ⟨hj, h1, fun sz es hl => ?_⟩
  rcases R.live j _ hl with ⟨id', b0, h3, h4, h5⟩ | ⟨h3, _⟩
  · rw [hσ] at h3; cases h3
    obtain ⟨es0, rfl, hlen⟩ := like_arr h5
    have := h2 sz es0 h4
    have hι : (C.ren σ hD).ι j = C.ι id := by show (σ j).bind C.ι = _; rw [hσ]; rfl
    unfold HS at this ⊢
    rw [hι]
    cases hi : C.ι id with
    | none => rw [hi] at this; obtain ⟨rfl, hu⟩ := this; exact ⟨List.length_eq_zero_iff.1 hlen.symm, hu⟩
    | some n =>
      rw [hi] at this
      obtain ⟨cap, carr, e, fr, hu, hle, hrow, hcap⟩ := this
      exact ⟨cap, carr, e, fr, by rw [hu, hlen], by omega, hrow, hcap⟩
  · rw [hσ] at h3; cases h3

theorem RenOk.nils {j : Nat} {u : Value} (hj : known hD j) (hσ : σ j = none) (h : C.P .nils u) : VT (C.ren σ hD) (.hsl j) u := by
  cases h
  refine ⟨hj, ⟨_, _, _, rfl⟩, fun sz es hl => ?_⟩
  rcases R.live j _ hl with ⟨id', b0, h3, _⟩ | ⟨_, sz', h3⟩
  · rw [hσ] at h3; cases h3
  · cases h3
    have hι : (C.ren σ hD).ι j = none := by show (σ j).bind C.ι = _; rw [hσ]; rfl
    unfold HS
    rw [hι]
    exact ⟨rfl, rfl⟩

theorem RenOk.ptr {j id o : Nat} {u : Value} (hj : known hD j) (hσ : σ j = some id) (h : VT C (.ptr id o) u) : VT (C.ren σ hD) (.ptr j o) u := by
  obtain ⟨_, n, hu, h2⟩ := h
  refine ⟨hj, n, hu, fun cs hl => ?_⟩
  rcases R.live j _ hl with ⟨id', b0, h3, h4, h5⟩ | ⟨h3, _⟩
  · rw [hσ] at h3; cases h3
    obtain ⟨cs0, rfl, _⟩ := like_box h5
    show (σ j).bind C.ι = _
    rw [hσ]
    exact h2 cs0 h4
  · rw [hσ] at h3; cases h3

theorem RenOk.arr {j id sz : Nat} {es : List (List PV)} (hσ : σ j = some id) (hl : Vm.live C.h id (.arr sz es)) : BlkR (C.ren σ hD) j (.arr sz es) := by
  have hι : (C.ren σ hD).ι j = C.ι id := by show (σ j).bind C.ι = _; rw [hσ]; rfl
  rcases R.ok.blk id _ hl with ⟨h1, h2⟩ | ⟨m, carr, e, fr, h1, h2, hs, hf, hz, hone, hc⟩
  · exact .inl ⟨hι.trans h1, h2⟩
  · refine .inr ⟨m, carr, e, fr, hι.trans h1, h2, hs, hf, hz, hone, fun i j e c he hj => ?_⟩
    obtain ⟨u, h3, h4⟩ := hc i j e c he hj
    exact ⟨u, h3, R.vp h4⟩

theorem RenOk.box {j id : Nat} {ds cs : List AV} (hσ : σ j = some id) (hl : Vm.live C.h id (.box ds)) (hlen : cs.length = ds.length)
    (hc : ∀ (k : Nat) c d u, cs[k]? = some c → ds[k]? = some d → VA C d u → VA (C.ren σ hD) c u) : BlkR (C.ren σ hD) j (.box cs) := by
  have hι : (C.ren σ hD).ι j = C.ι id := by show (σ j).bind C.ι = _; rw [hσ]; rfl
  obtain ⟨n, carr, e, fr, h1, h2, h3, h4, h5⟩ := R.ok.blk id _ hl
  refine ⟨n, carr, e, fr, hι.trans h1, h2, h3.trans hlen.symm, h4, fun k c hk => ?_⟩
  have hlt : k < ds.length := by rw [← hlen]; exact (List.getElem?_eq_some_iff.1 hk).1
  obtain ⟨u, g1, g2, g3⟩ := h5 k ds[k] (List.getElem?_eq_getElem hlt)
  exact ⟨u, g1, hc k c _ u hk (List.getElem?_eq_getElem hlt) g2, g3⟩

theorem RenOk.okD (hb : ∀ j b, Vm.live hD j b → BlkR (C.ren σ hD) j b) : Ok (C.ren σ hD) where
  gr := ⟨fun b hb => ⟨(R.ok.gr.low b hb).1, fun ho => (R.ok.gr.low b hb).2 (R.ownC ho)⟩, R.ok.gr.at_⟩
  blk := hb
  inj j j' n b b' h1 h2 h3 h4 := by
    have h3 : (σ j).bind C.ι = some n := h3
    have h4 : (σ j').bind C.ι = some n := h4
    obtain ⟨id, e1, e2⟩ := Option.bind_eq_some_iff.1 h3
    obtain ⟨id', e3, e4⟩ := Option.bind_eq_some_iff.1 h4
    rcases R.live j b h1 with ⟨i1, b1, f1, f2, _⟩ | ⟨f1, _⟩
    · rw [e1] at f1; cases f1
      rcases R.live j' b' h2 with ⟨i2, b2, f3, f4, _⟩ | ⟨f3, _⟩
      · rw [e3] at f3; cases f3
        have := R.ok.inj id id' n b1 b2 f2 f4 e2 e4
        subst this
        exact R.inj j j' id e1 e3
      · rw [e3] at f3; cases f3
    · rw [e1] at f1; cases f1
  x n hx := ⟨(R.ok.x n hx).1, fun h => (R.ok.x n hx).2 (R.ownC h)⟩

theorem RenOk.ext {C0 : Ctx} (hx : Ext C0 C) (h0 : ∀ id, known C0.h id → known hD id ∧ σ id = some id) : Ext C0 (C.ren σ hD) where
  tape := hx.tape
  os := hx.os
  out := hx.out
  size := hx.size
  X := hx.X
  keep := hx.keep
  own b hb ho := hx.own b hb (R.ownC ho)
  ent id hid := by
    obtain ⟨h1, h2⟩ := h0 id hid
    refine ⟨h1, fun b' hb => ?_⟩
    rcases R.live id b' hb with ⟨id', b0, h3, h4, h5⟩ | ⟨h3, _⟩
    · rw [h2] at h3; cases h3
      obtain ⟨b, h6, h7, h8⟩ := (hx.ent id hid).2 b0 h4
      exact ⟨b, h6, by show (σ id).bind C.ι = _; rw [h2]; exact h7, like_trans h8 h5⟩
    · rw [h2] at h3; cases h3
  row := hx.row
end

theorem ren_arr0 {C : Ctx} {σ : Nat → Option Nat} {hD : List Ent} {j sz : Nat} (hσ : σ j = none) : BlkR (C.ren σ hD) j (.arr sz []) :=
  .inl ⟨by show (σ j).bind C.ι = _; rw [hσ]; rfl, rfl⟩

end Go.Proofs.YtpnpdkgdgfkpfaaGreatDoor.Vm
