/- The library's functions answer what their rows say: each contract of the shelf against the row. -/
import Derived.Test.YtcopadohnlcheaaDoorEnv
import Derived.Test.YtcopadohnlcheaaDoorVm33
import Derived.Test.YtcopadohnlcheaaDoorVm34
import Derived.Test.YtcopadohnlcheaaDoorShelf
import Derived.KernelRfl
import Derived.Below
namespace Go.Proofs.YtcopadohnlcheaaDoor.Vm
open Go.RowKit
set_option linter.unusedVariables false
set_option linter.unusedSimpArgs false

theorem ext_grow (C : Ctx) {w : World} (hg : Grow C.w w) : Ext C (C.setW w) where
  tape := hg.tape
  os := hg.os
  out := hg.out
  size := hg.size
  X := rfl
  keep b hb _ := hg.keep b hb
  own _ _ h := h
  ent id h := ⟨h, fun b hb => ⟨b, hb, rfl, like_refl _⟩⟩
  row b carr e fr _ h := ⟨carr, fr, by show w.heap[b]? = _; rw [hg.keep b (Array.getElem?_eq_some_iff.1 h).1]; exact h, rfl⟩

theorem ok_grow {C : Ctx} (hok : Ok C) {w : World} (hg : Grow C.w w) : Ok (C.setW w) :=
  hok.step (ext_grow C hg) (fun id b hl => .inr ⟨hl, rfl, fun n hn => hg.keep n (hok.lt hl hn).1⟩) (fun id id' n b b' => hok.inj id id' n b b')

theorem Grow.of_below {w w' : World} (h : Below w.heap.size w w') : Grow w w' := ⟨h.tape, h.os, h.output, h.size, fun b hb => h.block b hb⟩

/-- A call that changes nothing of what was there, and hands back plain values. -/
theorem prim_ok {f : Nat} {args : List AV} {rs : List RV} (hr : rawB rs = [])
    (h : ∀ C : Ctx, Ok C → ∀ us : Array Value, All2 (VA C) args us.toList → Calls E.P f us C.w fun e w' => ∃ u, e = .returned u ∧ Grow C.w w' ∧ VA (C.setW w') (valOf (rawT 0 rs)) u) : FOk E f args [] rs [] := by
  intro C hok hC us hv
  refine (h C hok us hv).mono fun e w' ⟨u, he, hg, hu⟩ => ?_
  subst he
  exact ⟨C.setW w', rfl, ext_grow C hg, ok_grow hok hg, by rw [hr]; exact hC, hu⟩

theorem new_free {C : Ctx} (hok : Ok C) (w : World) : ¬ (C.setW w).O C.w.heap.size := by
  rintro (h | ⟨id, b, hl, hi⟩)
  · have := (hok.x _ h).1; omega
  · have := (hok.lt hl hi).1; omega

theorem arr1 {us : Array Value} {a : Value} (h : us.toList = [a]) : us = #[a] := by rw [← Array.toArray_toList (xs := us), h]
theorem arr2 {us : Array Value} {a b : Value} (h : us.toList = [a, b]) : us = #[a, b] := by rw [← Array.toArray_toList (xs := us), h]
theorem vp_str {C : Ctx} {s : List UInt8} {u : Value} (h : VA C (.t (.p (.str s))) u) : u = .string ⟨s.toArray⟩ := by cases h; rfl
theorem vp_int {C : Ctx} {k : IntKind} {n : Int} {u : Value} (h : VA C (.t (.p (.int k n))) u) : u = .int k n := by cases h; rfl
theorem one_arg {C : Ctx} {a : AV} {us : Array Value} (h : All2 (VA C) [a] us.toList) : ∃ u, us = #[u] ∧ VA C a u := by
  cases hl : us.toList with
  | nil => rw [hl] at h; exact h.elim
  | cons x l => cases l with
    | nil => rw [hl] at h; exact ⟨x, arr1 hl, h.1⟩
    | cons => rw [hl] at h; exact h.2.elim
theorem two_args {C : Ctx} {a b : AV} {us : Array Value} (h : All2 (VA C) [a, b] us.toList) : ∃ u v, us = #[u, v] ∧ VA C a u ∧ VA C b v := by
  cases hl : us.toList with
  | nil => rw [hl] at h; exact h.elim
  | cons x l => cases l with
    | nil => rw [hl] at h; exact h.2.elim
    | cons y l => cases l with
      | nil => rw [hl] at h; exact ⟨x, y, arr2 hl, h.1, h.2.1⟩
      | cons => rw [hl] at h; exact h.2.2.elim

theorem s_pIndexByte : ∀ args rs, pIndexByte args = some rs → FOk E 55 args [] rs [] := by
  intro args rs h
  unfold pIndexByte at h
  split at h
  · rename_i s c
    cases h
    refine prim_ok rfl fun C hok us hv => ?_
    obtain ⟨u, v, rfl, h1, h2⟩ := two_args hv
    rw [vp_str h1, vp_int h2]
    refine (Any.strings_IndexByte Tryd.lays137 ⟨s.toArray⟩ c C.w).mono fun e w' ⟨he, hw⟩ => ?_
    subst he hw
    exact ⟨_, rfl, Grow.refl _, .int _ _⟩
  · cases h

theorem g_pow {C : Ctx} (g : GrOk C) : Lib.TabIs Tryd.prog C.w "internal/strconv.uint64pow10" .u64 Lib.pow10Tab := by
  obtain ⟨e, fr, h⟩ := gPow_of g.at_
  have h : (if gPow < nG then C.w.heap[gPow]? else none) = _ := h
  rw [if_pos (by decide)] at h
  unfold Lib.TabIs World.var?
  rw [show Tryd.prog.globalNamed "internal/strconv.uint64pow10" = some gPow by kernel_rfl]
  show (match C.w.heap[gPow]? with | some (.cells cs _ _) => some cs | _ => none) = _
  rw [h]

theorem grow_drewN (w : World) (k : Nat) (os : Array Obj) : Grow w (Go.Sort.grow (w.drewN k) os) :=
  ⟨rfl, rfl, rfl, by show w.heap.size ≤ (w.heap ++ os).size; simp, fun b hb => by show (w.heap ++ os)[b]? = _; rw [Array.getElem?_append_left hb]⟩

theorem s_pItoa : ∀ args rs, pItoa args = some rs → FOk E 41 args [] rs [] := by
  intro args rs h
  unfold pItoa at h
  split at h
  · rename_i n
    split at h
    · rename_i hn
      cases h
      refine prim_ok rfl fun C hok us hv => ?_
      obtain ⟨u, rfl, h1⟩ := one_arg hv
      rw [vp_int h1]
      refine (Any.strconv_Itoa Tryd.lays171 n hn.1 hn.2 C.w (g_pow hok.gr)).mono fun e w' ⟨he, k, os, hw⟩ => ?_
      subst he hw
      exact ⟨_, rfl, grow_drewN _ _ _, .str _⟩
    · cases h
  · cases h

theorem g_var {C : Ctx} {n : String} {g : Nat} {cs : Array Value} {e : TypeId} {fr : Nat × Nat} (hg : Tryd.prog.globalNamed n = some g) (h : C.w.heap[g]? = some (.cells cs e fr)) : C.w.var? Tryd.prog n = some cs := by
  unfold World.var?
  rw [hg]
  show (match C.w.heap[g]? with | some (.cells cs _ _) => some cs | _ => none) = _
  rw [h]
theorem grow_bytes (w : World) (e : TypeId) (s : ByteArray) : Grow w (Lib.bytesWorld w e s) :=
  ⟨rfl, rfl, rfl, by rw [Lib.bytesWorld_size]; omega, fun b hb => Lib.bytesWorld_at_old w e s b hb⟩

theorem s_pAtoi : ∀ args rs, pAtoi args = some rs → FOk E 42 args [] rs [] := by
  intro args rs h
  unfold pAtoi at h
  split at h
  · rename_i s
    split at h
    · rename_i hs
      cases h
      refine prim_ok rfl fun C hok us hv => ?_
      obtain ⟨u, rfl, h1⟩ := one_arg hv
      rw [vp_str h1]
      have hsz : (ByteArray.mk s.toArray).size = s.length := str_size s
      unfold atoiP
      cases ha : Lib.atoiAll s
      · rename_i v
        refine (Any.strconv_Atoi_ok Tryd.lays172 ⟨s.toArray⟩ (by rw [hsz]; omega) v ha C.w).mono fun e w' ⟨he, hw⟩ => ?_
        subst he
        refine ⟨_, rfl, ?_, _, rfl, .int _ _, .ifcN, trivial⟩
        rcases hw with rfl | ⟨t, rfl⟩
        · exact Grow.refl _
        · exact grow_bytes _ _ _
      · obtain ⟨t, p, e, fr, hv⟩ := gSyn_of hok.gr.at_
        have hv : (if gSyn < nG then C.w.heap[gSyn]? else none) = _ := hv
        rw [if_pos (by decide)] at hv
        refine (Any.strconv_Atoi_syntax_var Tryd.lays172 ⟨s.toArray⟩ (by rw [hsz]; omega) ha t p C.w (g_var (by kernel_rfl) hv)).mono fun e w' ⟨N, he, _, _, hb⟩ => ?_
        subst he
        exact ⟨_, rfl, Grow.of_below hb, _, rfl, .int _ _, .ifc _ _, trivial⟩
      · obtain ⟨t, p, e, fr, hv⟩ := gRng_of hok.gr.at_
        have hv : (if gRng < nG then C.w.heap[gRng]? else none) = _ := hv
        rw [if_pos (by decide)] at hv
        refine (Any.strconv_Atoi_range_var Tryd.lays172 ⟨s.toArray⟩ (by rw [hsz]; omega) ha t p C.w (g_var (by kernel_rfl) hv)).mono fun e w' ⟨N, he, _, _, hb⟩ => ?_
        subst he
        exact ⟨_, rfl, Grow.of_below hb, _, rfl, .int _ _, .ifc _ _, trivial⟩
    · cases h
  · cases h

theorem primsOk : PrimsOk E := by
  intro f p h
  have h : findP f [(41, pItoa), (42, pAtoi), (55, pIndexByte)] = some p := h
  simp only [findP] at h
  cases hf41 : Nat.beq f 41 with
  | true => rw [hf41, cond_true] at h; cases h; rw [Nat.eq_of_beq_eq_true hf41]; exact s_pItoa
  | false =>
  rw [hf41, cond_false] at h
  cases hf42 : Nat.beq f 42 with
  | true => rw [hf42, cond_true] at h; cases h; rw [Nat.eq_of_beq_eq_true hf42]; exact s_pAtoi
  | false =>
  rw [hf42, cond_false] at h
  cases hf55 : Nat.beq f 55 with
  | true => rw [hf55, cond_true] at h; cases h; rw [Nat.eq_of_beq_eq_true hf55]; exact s_pIndexByte
  | false =>
  rw [hf55, cond_false] at h
  cases h

end Go.Proofs.YtcopadohnlcheaaDoor.Vm
