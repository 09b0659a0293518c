/- The abstract machine, part 35: functions proved by hand. -/
import Derived.Test.YtpnpdkgdgfkpfaaGreatDoorVm33
import Derived.Below
namespace Go.Proofs.YtpnpdkgdgfkpfaaGreatDoor.Vm
open Go.RowKit
set_option linter.unusedVariables false
set_option linter.unusedSimpArgs false

theorem ext_grow (C : Ctx) {w : World} (hg : Grow C.w w) : Ext C (C.setW w) where
  tape := hg.tape
  os := hg.os
  out := hg.out
  size := hg.size
  X := rfl
  keep b hb _ := hg.keep b hb
  own _ _ h := h
  ent id h := ⟨h, fun b hb => ⟨b, hb, rfl, like_refl _⟩⟩
  row b carr e fr _ h := ⟨carr, fr, by show w.heap[b]? = _; rw [hg.keep b (Array.getElem?_eq_some_iff.1 h).1]; exact h, rfl⟩

theorem ok_grow {C : Ctx} (hok : Ok C) {w : World} (hg : Grow C.w w) : Ok (C.setW w) :=
  hok.step (ext_grow C hg) (fun id b hl => .inr ⟨hl, rfl, fun n hn => hg.keep n (hok.lt hl hn).1⟩) (fun id id' n b b' => hok.inj id id' n b b')

theorem Grow.of_below {w w' : World} (h : Below w.heap.size w w') : Grow w w' := ⟨h.tape, h.os, h.output, h.size, fun b hb => h.block b hb⟩

theorem prim_ok {E : Env} {f : Nat} {args : List AV} {rs : List RV} (hr : rawB rs = [])
    (h : ∀ C : Ctx, Ok C → ∀ us : Array Value, All2 (VA C) args us.toList → Calls E.P f us C.w fun e w' => ∃ u, e = .returned u ∧ Grow C.w w' ∧ VA (C.setW w') (valOf (rawT 0 rs)) u) : FOk E f args [] rs [] := by
  intro C hok hC us hv
  refine (h C hok us hv).mono fun e w' ⟨u, he, hg, hu⟩ => ?_
  subst he
  exact ⟨C.setW w', rfl, ext_grow C hg, ok_grow hok hg, by rw [hr]; exact hC, hu⟩

theorem new_free {C : Ctx} (hok : Ok C) (w : World) : ¬ (C.setW w).O C.w.heap.size := by
  rintro (h | ⟨id, b, hl, hi⟩)
  · have := (hok.x _ h).1; omega
  · have := (hok.lt hl hi).1; omega

theorem arr1 {us : Array Value} {a : Value} (h : us.toList = [a]) : us = #[a] := by rw [← Array.toArray_toList (xs := us), h]
theorem arr2 {us : Array Value} {a b : Value} (h : us.toList = [a, b]) : us = #[a, b] := by rw [← Array.toArray_toList (xs := us), h]
theorem vp_str {C : Ctx} {s : List UInt8} {u : Value} (h : VA C (.t (.p (.str s))) u) : u = .string ⟨s.toArray⟩ := by cases h; rfl
theorem vp_int {C : Ctx} {k : IntKind} {n : Int} {u : Value} (h : VA C (.t (.p (.int k n))) u) : u = .int k n := by cases h; rfl
theorem one_arg {C : Ctx} {a : AV} {us : Array Value} (h : All2 (VA C) [a] us.toList) : ∃ u, us = #[u] ∧ VA C a u := by
  cases hl : us.toList with
  | nil => rw [hl] at h; exact h.elim
  | cons x l => cases l with
    | nil => rw [hl] at h; exact ⟨x, arr1 hl, h.1⟩
    | cons => rw [hl] at h; exact h.2.elim
theorem two_args {C : Ctx} {a b : AV} {us : Array Value} (h : All2 (VA C) [a, b] us.toList) : ∃ u v, us = #[u, v] ∧ VA C a u ∧ VA C b v := by
  cases hl : us.toList with
  | nil => rw [hl] at h; exact h.elim
  | cons x l => cases l with
    | nil => rw [hl] at h; exact h.2.elim
    | cons y l => cases l with
      | nil => rw [hl] at h; exact ⟨x, y, arr2 hl, h.1, h.2.1⟩
      | cons => rw [hl] at h; exact h.2.2.elim
theorem FOk.at {E : Env} {f : Nat} {args : List AV} {rs : List RV} (h : FOk E f args [] rs []) {C : Ctx} (hok : Ok C) (hC : C.h = []) {W : World} (hg : Grow C.w W) {us : Array Value} (hv : All2 (VA C) args us.toList) :
    Calls E.P f us W fun e w' => ∃ u, e = .returned u ∧ ∃ D : Ctx, D.w = w' ∧ Ext (C.setW W) D ∧ Ok D ∧ D.h = (rawB rs).map Ent.blk ∧ VA D (valOf (rawT 0 rs)) u := by
  have h1 := h (C.setW W) (ok_grow hok hg) hC us (hv.mono fun a b hab => (ext_grow C hg).va hab)
  refine h1.mono fun e w' h => ?_
  cases e with
  | returned u =>
    obtain ⟨D, e1, e2, e3, e4, e5⟩ := h
    exact ⟨u, rfl, D, e1, e2, e3, e4, e5⟩
  | _ => exact h.elim
theorem below_ext {C D : Ctx} (h : Ext C D) (hC : C.h = []) {B : Nat} (hB : B ≤ C.w.heap.size) : Below B C.w D.w where
  os := h.os
  tape := h.tape
  output := h.out
  size := h.size
  block k hk := h.keep k (by omega) (by rintro ⟨id, b, hl, _⟩; unfold live at hl; rw [hC] at hl; cases hl)
theorem Grow.trans {a b c : World} (h : Grow a b) (k : Grow b c) : Grow a c := ⟨k.tape.trans h.tape, k.os.trans h.os, k.out.trans h.out, Nat.le_trans h.size k.size, fun i hi => (k.keep i (by have := h.size; omega)).trans (h.keep i hi)⟩

end Go.Proofs.YtpnpdkgdgfkpfaaGreatDoor.Vm
