/- report.Text answers what its row says. -/
import Derived.Test.YtkpdiagdjplbiaaGreatDoorEnv
import Derived.Test.YtkpdiagdjplbiaaGreatDoorVm35
import Derived.Test.YtkpdiagdjplbiaaGreatDoorShelf
import Derived.Shelf.Abstract
import Derived.Shelf.Strings.BuilderK
import Derived.Shelf.Strings.MapGrows
import Derived.WalkKit
import Derived.Deep.RegionLaw
import Derived.KernelRfl
import Derived.Below
namespace Go.Proofs.YtkpdiagdjplbiaaGreatDoor.Vm
open Go Go.Proofs Go.RowKit Go.Shelf
set_option linter.unusedVariables false
set_option linter.unusedSimpArgs false

set_option maxRecDepth 100000 in
theorem names_in (w : World) : Calls Tryz.prog 31 #[] w fun e w' => e = .returned (.slice (some ⟨w.heap.size, 0, none⟩) 7 7) ∧ Below w.heap.size w w' ∧ ∀ (k : Nat) s, repNames[k]? = some s → w'.cell? ⟨w.heap.size, k, none⟩ = some (.string ⟨s.toArray⟩) := by
  go_enter Tryz.func31, Tryz.ntmps31
  go_wp2
  go_ret
  refine ⟨rfl, (Below.refl _ w).alloc (Nat.le_refl _) _, ?_⟩
  intro k s h
  have hk : k < 7 := (List.getElem?_eq_some_iff.1 h).1
  have : k = 0 ∨ k = 1 ∨ k = 2 ∨ k = 3 ∨ k = 4 ∨ k = 5 ∨ k = 6 := by omega
  rcases this with rfl | rfl | rfl | rfl | rfl | rfl | rfl <;> (cases h; simp only [World.cell?]; rw [heap_alloc_new]; rfl)

theorem numbers_in (a0 a1 a2 a3 a4 a5 a6 : Int) (w : World) : Calls Tryz.prog 29 #[.agg #[.int .i64 a0, .int .i64 a1, .int .i64 a2, .int .i64 a3, .int .i64 a4, .int .i64 a5, .int .i64 a6]] w fun e w' => e = .returned (.slice (some ⟨w.heap.size + 1, 0, none⟩) 7 7) ∧
    w' = (w.alloc (.cells #[.int .i64 a0, .int .i64 a1, .int .i64 a2, .int .i64 a3, .int .i64 a4, .int .i64 a5, .int .i64 a6] 29)).alloc (.cells #[.int .i64 a1, .int .i64 a2, .int .i64 a3, .int .i64 a0, .int .i64 a4, .int .i64 a5, .int .i64 a6] 3) := by
  go_enter Tryz.func29, Tryz.ntmps29
  go_wp2
  go_ret
  exact ⟨rfl, rfl⟩

theorem K166 : Go.Proofs.Lays.n166 Tryz.prog Tryz.lays156_ren := { Tryz.lays156 with }
theorem K169 : Go.Proofs.Lays.n169 Tryz.prog Tryz.lays156_ren := { Tryz.lays156 with }

def repA (ns : List Int) (k : Nat) : List UInt8 := ((List.zipWith (fun s n => s ++ Lib.itoa n) repNames ns).take k).flatten
theorem repA_succ (ns : List Int) (k : Nat) (s : List UInt8) (n : Int) (hs : repNames[k]? = some s) (hn : ns[k]? = some n) : repA ns (k + 1) = repA ns k ++ (s ++ Lib.itoa n) := by
  unfold repA
  have : (List.zipWith (fun s n => s ++ Lib.itoa n) repNames ns)[k]? = some (s ++ Lib.itoa n) := by
    rw [List.getElem?_zipWith, hs, hn]
  rw [List.take_add_one, this]
  simp

theorem dec_small29 {u : Nat} (h : u < 10) : (Lib.decDigits u).length = 1 := by rw [Lib.decDigits_length, Lib.nDigits_small h]
theorem dec_len29 (k : Nat) : ∀ u : Nat, u < 10 ^ (k + 1) → (Lib.decDigits u).length ≤ k + 1 := by
  induction k with
  | zero => intro u h; rw [dec_small29 (by simpa using h)]; omega
  | succ k ih =>
    intro u h
    by_cases hu : u < 10
    · rw [dec_small29 hu]; omega
    · have := ih (u / 10) (by rw [Nat.pow_succ] at h; omega)
      rw [Lib.decDigits_length] at this ⊢
      rw [Lib.nDigits_big hu]; omega
theorem itoa_len29 {n : Int} (h : -9223372036854775808 ≤ n ∧ n ≤ 9223372036854775807) : (Lib.itoa n).length ≤ 20 := by
  have h2 := dec_len29 18 n.natAbs (by omega)
  have h3 := dec_len29 18 n.toNat (by omega)
  unfold Lib.itoa
  split
  · simp; omega
  · omega
theorem repA_len (ns : List Int) (h : ∀ n ∈ ns, -9223372036854775808 ≤ n ∧ n ≤ 9223372036854775807) (hl : ns.length = 7) : ∀ k, k ≤ 7 → (repA ns k).length ≤ 29 * k := by
  intro k
  induction k with
  | zero => intro _; simp [repA]
  | succ k ih =>
    intro hk
    have h1 := ih (by omega)
    have hs : ∃ s, repNames[k]? = some s ∧ s.length ≤ 8 := by
      have : k = 0 ∨ k = 1 ∨ k = 2 ∨ k = 3 ∨ k = 4 ∨ k = 5 ∨ k = 6 := by omega
      rcases this with rfl | rfl | rfl | rfl | rfl | rfl | rfl <;> exact ⟨_, rfl, by decide⟩
    obtain ⟨s, hs, hsl⟩ := hs
    have hn := List.getElem?_eq_getElem (l := ns) (i := k) (by omega)
    have h2 := itoa_len29 (h _ (List.getElem_mem (l := ns) (n := k) (by omega)))
    rw [repA_succ ns k s _ hs hn]
    simp only [List.length_append]
    omega

theorem others_kept {e : TypeId} {b : Option Nat} {w w' : World} {k : Nat} {cs : Array Value} {t : TypeId} (h : Lib.OthersKept e b w w') (hk : w.heap[k]? = some (.cells cs t (0, 0))) (hb : some k ≠ b) (ht : t ≠ e) : w'.heap[k]? = some (.cells cs t (0, 0)) :=
  h k _ hk hb fun c fz he => by cases he; exact ht rfl

structure RepRel (ns : List Int) (cs : Array Value) (w : World) (k : Nat) (W : World) : Prop where
  bld : Lib.IsBuilderF 72 5 (w.heap.size + 1) (w.heap.size + 1) (Lib.byteCells (repA ns k)) W
  nums : W.heap[w.heap.size + 1 + 1 + 1]? = some (.cells cs 3 (0, 0))
  below : Below w.heap.size w W
  size : w.heap.size + 4 ≤ W.heap.size

theorem rep_start {ns : List Int} {w W : World} {o1 o3 : Obj} {cs : Array Value} (h : W = (((w.alloc o1).alloc (.cells #[.pointer none, .slice none 0 0] 72)).alloc o3).alloc (.cells cs 3)) : RepRel ns cs w 0 W := by
  obtain ⟨A, hA⟩ : ∃ A, w.alloc o1 = A := ⟨_, rfl⟩
  obtain ⟨B, hB⟩ : ∃ B, A.alloc (.cells #[.pointer none, .slice none 0 0] 72) = B := ⟨_, rfl⟩
  obtain ⟨C, hC⟩ : ∃ C, B.alloc o3 = C := ⟨_, rfl⟩
  rw [hA, hB, hC] at h
  have sA : A.heap.size = w.heap.size + 1 := by rw [← hA]; simp
  have sB : B.heap.size = w.heap.size + 2 := by rw [← hB]; simp [sA]
  have sC : C.heap.size = w.heap.size + 3 := by rw [← hC]; simp [sB]
  have sW : W.heap.size = w.heap.size + 4 := by rw [h]; simp [sC]
  have bA : Below w.heap.size w A := by rw [← hA]; exact (Below.refl _ w).alloc (Nat.le_refl _) _
  have bB : Below w.heap.size w B := by rw [← hB]; exact bA.alloc (by omega) _
  have bC : Below w.heap.size w C := by rw [← hC]; exact bB.alloc (by omega) _
  have bW : Below w.heap.size w W := by rw [h]; exact bC.alloc (by omega) _
  have hb0 : Lib.IsBuilder 72 5 A.heap.size A.heap.size [] B := by rw [← hB]; exact Lib.fresh_isBuilder 72 5 A
  have hb1 := Lib.IsBuilderF.of hb0
  rw [sA] at hb1
  refine ⟨?_, ?_, bW, by omega⟩
  · have h1 : Below B.heap.size B W := by rw [h, ← hC]; exact ((Below.refl _ B).alloc (Nat.le_refl _) _).alloc (by simp) _
    exact Lib.IsBuilderF.below hb1 h1
  · rw [h, show w.heap.size + 1 + 1 + 1 = C.heap.size by omega]
    exact heap_alloc_new C _

theorem RepRel.step {ns : List Int} {cs : Array Value} {w W W' : World} {k : Nat} (h : RepRel ns cs w k W) (hB : Below W.heap.size W W') : RepRel ns cs w k W' :=
  ⟨Lib.IsBuilderF.below h.bld hB, (hB.block _ (by have := h.size; omega)).trans h.nums, h.below.trans (hB.mono h.below.size), Nat.le_trans h.size hB.size⟩

theorem RepRel.put {ns : List Int} {cs : Array Value} {w W W' : World} {k : Nat} (h : RepRel ns cs w k W) {s : List UInt8} {n : Int} (hs : repNames[k]? = some s) (hn : ns[k]? = some n)
    (hb : Lib.BuilderAtF 72 5 (w.heap.size + 1) (w.heap.size + 1) (.pointer (some ⟨w.heap.size + 1, 0, none⟩)) (Lib.byteCells (repA ns k) ++ Lib.byteCells (s ++ Lib.itoa n)) W') (hB : Below (w.heap.size + 1) W W') (hO : Lib.OthersKept 5 (some (w.heap.size + 1)) W W') : RepRel ns cs w (k + 1) W' := by
  refine ⟨.inr ?_, others_kept hO h.nums (fun e => by simp only [Option.some.injEq] at e; omega) (by decide), h.below.trans (hB.mono (Nat.le_succ _)), Nat.le_trans h.size hB.size⟩
  rw [repA_succ ns k s n hs hn, Lib.byteCells_append]
  exact hb

theorem add_run (s t : List UInt8) (h : s.length + t.length ≤ 9223372036854775807) (W : World) : (Op.stringOp .add ⟨s.toArray⟩ ⟨t.toArray⟩).run Tryz.prog W = .ok (.string ⟨(s ++ t).toArray⟩) W := by
  obtain ⟨X, hX⟩ : ∃ X : ByteArray, (⟨s.toArray⟩ : ByteArray) = X := ⟨_, rfl⟩
  obtain ⟨Y, hY⟩ : ∃ Y : ByteArray, (⟨t.toArray⟩ : ByteArray) = Y := ⟨_, rfl⟩
  have hXs : X.size = s.length := by rw [← hX]; rfl
  have hYs : Y.size = t.length := by rw [← hY]; rfl
  have h1 : ¬ (((X.size + Y.size : Nat) : Int) > IntKind.i64.max) := by
    have : IntKind.i64.max = 9223372036854775807 := rfl
    rw [this]; omega
  have h2 : (⟨(s ++ t).toArray⟩ : ByteArray) = X ++ Y := by
    rw [← hX, ← hY]
    apply ByteArray.ext
    simp
  rw [hX, hY, h2]
  simp only [Op.stringOp, if_neg h1, Sem.run_pure]

set_option maxRecDepth 100000 in
set_option maxHeartbeats 8000000 in
theorem rep_walk (a0 a1 a2 a3 a4 a5 a6 : Int) (hr : ∀ n ∈ [a1, a2, a3, a0, a4, a5, a6], -9223372036854775808 ≤ n ∧ n ≤ 9223372036854775807) (w : World)
    (hitoa : ∀ n, (-9223372036854775808 ≤ n ∧ n ≤ 9223372036854775807) → ∀ W, Below w.heap.size w W → Calls Tryz.prog 32 #[.int .i64 n] W fun e w' => e = .returned (.string ⟨(Lib.itoa n).toArray⟩) ∧ Below W.heap.size W w') :
    Calls Tryz.prog 14 #[.agg #[.int .i64 a0, .int .i64 a1, .int .i64 a2, .int .i64 a3, .int .i64 a4, .int .i64 a5, .int .i64 a6]] w fun e w' => e = .returned (.string ⟨(repB a0 a1 a2 a3 a4 a5 a6).toArray⟩) ∧ Below w.heap.size w w' := by
  obtain ⟨ns, hns⟩ : ∃ ns, [a1, a2, a3, a0, a4, a5, a6] = ns := ⟨_, rfl⟩
  have hlen : ns.length = 7 := by rw [← hns]; rfl
  rw [hns] at hr
  have hal := repA_len ns hr hlen
  go_enter Tryz.func14, Tryz.ntmps14
  go_wp2_with (go_at_call 29; refine (numbers_in _ _ _ _ _ _ _ _).mono ?_; rintro e W1 ⟨rfl, hW1⟩; have hR1 := rep_start (ns := ns) hW1; clear hW1)
  go_loopw [9] (fun i wr => ∃ k : Nat, k ≤ 7 ∧ i = .int .i64 (k : Nat) ∧ RepRel ns #[.int .i64 a1, .int .i64 a2, .int .i64 a3, .int .i64 a0, .int .i64 a4, .int .i64 a5, .int .i64 a6] w k wr)
    (fun i _ => 7 - (intOf i).toNat)
  case atStart => exact ⟨0, by omega, rfl, hR1⟩
  case round =>
    obtain ⟨k, hk, rfl, hR⟩ := hrel
    clear hR1
    by_cases hlt : k < 7
    · have hsz := hR.size
      obtain ⟨n, hn⟩ : ∃ n, ns[k]? = some n := ⟨_, List.getElem?_eq_getElem (by omega)⟩
      obtain ⟨s, hs⟩ : ∃ s, repNames[k]? = some s := ⟨_, List.getElem?_eq_getElem (by show k < 7; exact hlt)⟩
      have hsl : s.length ≤ 8 := by
        have key : k = 0 ∨ k = 1 ∨ k = 2 ∨ k = 3 ∨ k = 4 ∨ k = 5 ∨ k = 6 := by omega
        rcases key with rfl | rfl | rfl | rfl | rfl | rfl | rfl <;> (cases hs; decide)
      have hb := hr n (List.mem_of_getElem? hn)
      have hil := itoa_len29 hb
      have y0 : wr.cell? ⟨w.heap.size + 1 + 1 + 1, k, none⟩ = some (.int .i64 n) := by
        have key : k = 0 ∨ k = 1 ∨ k = 2 ∨ k = 3 ∨ k = 4 ∨ k = 5 ∨ k = 6 := by omega
        rw [← hns] at hn
        simp only [World.cell?, hR.nums]
        rcases key with rfl | rfl | rfl | rfl | rfl | rfl | rfl <;> (cases hn; rfl)
      have hadd := add_run s (Lib.itoa n) (by omega)
      have hacc := hal k (by omega)
      have hlk : k < 7 := hlt
      go_wp2_with fail
      go_region_law (first
        | (go_simp; refine (names_in _).mono ?_; rintro e V ⟨rfl, hV, hVk⟩; have hRn := hR.step (W' := V) ((Below.refl _ wr).drew.trans hV); have z : V.cell? ⟨wr.heap.size, k, none⟩ = some (.string ⟨s.toArray⟩) := hVk k s hs; clear hVk)
        | (go_simp; refine (hitoa n hb _ hRn.below).mono ?_; rintro e U ⟨rfl, hU⟩; have hRu := hRn.step hU; have z2 := (hU.cell (World.block_lt_of_cell? V _ z)).trans z; have hadd2 := hadd U)
        | (go_simp; refine (Any.Builder_WriteString_k K166 Tryz.extra156 _ _ _ ⟨(s ++ Lib.itoa n).toArray⟩ _ hRu.bld (by rw [Lib.byteCells_length]; simp [ByteArray.size]; omega) (by have := hRu.size; omega)).mono ?_; rintro e Z ⟨rfl, hZ1, hZ2, hZ3⟩))
      all_goals
        have hRz := hRu.put hs hn hZ1 hZ2 hZ3
        clear hZ1 hZ2 hZ3 hRu hRn hR z z2 hadd2 hadd y0
        go_wp2
        go_roundw
        case rel => exact ⟨k + 1, by omega, by simp, hRz⟩
        case measure => simp [intOf] <;> omega
    · obtain rfl : k = 7 := by omega
      have hsz := hR.size
      have hacc := hal 7 (by omega)
      have hrep : repA ns 7 ++ [10] = repB a0 a1 a2 a3 a4 a5 a6 := by rw [← hns]; rfl
      have hl10 : (Lib.byteCells (repA ns 7)).length + (⟨#[10]⟩ : ByteArray).size ≤ 140737488355328 := by rw [Lib.byteCells_length]; show _ + 1 ≤ _; omega
      go_wp2_with (first
        | (go_at_call 30; go_loud (refine (Any.Builder_WriteString_k K166 Tryz.extra156 _ _ _ ⟨#[10]⟩ _ hR.bld hl10 (Nat.le_trans (by omega) hsz)).mono ?_; rintro e Z ⟨rfl, hZ1, hZ2, hZ3⟩; have hbz : Lib.IsBuilderF 72 5 (w.heap.size + 1) (w.heap.size + 1) (Lib.byteCells (repA ns 7 ++ [10])) Z := .inr (by rw [Lib.byteCells_append]; exact hZ1); have hBz := hR.below.trans (hZ2.mono (Nat.le_succ _)); have hZs := hZ2.size; clear hZ1 hZ2 hZ3))
        | (go_at_call 33; refine (Any.Builder_String_any_k K169 Tryz.extra156 _ _ (repA ns 7 ++ [10]) _ hbz (by omega)).mono ?_; rintro e Y ⟨rfl, hY1, hY2, hY3⟩; have hBy := hBz.trans (hY2.mono (Nat.le_succ _)); clear hY1 hY2 hY3))
      go_ret
      exact ⟨rfl, hBy⟩

theorem pow29 {C : Ctx} (g : GrOk C) : Lib.TabIs Tryz.prog C.w "internal/strconv.uint64pow10" .u64 Lib.pow10Tab := by
  obtain ⟨e, fr, h⟩ := gPow_of g.at_
  have h : (if gPow < nG then C.w.heap[gPow]? else none) = _ := h
  rw [if_pos (by decide)] at h
  unfold Lib.TabIs World.var?
  rw [show Tryz.prog.globalNamed "internal/strconv.uint64pow10" = some gPow by kernel_rfl]
  show (match C.w.heap[gPow]? with | some (.cells cs _ _) => some cs | _ => none) = _
  rw [h]

theorem below_drewN (w : World) (k : Nat) (os : Array Obj) : Below w.heap.size w (Go.Sort.grow (w.drewN k) os) where
  os := rfl
  tape := rfl
  output := rfl
  size := by show w.heap.size ≤ (w.heap ++ os).size; simp
  block b hb := by show (w.heap ++ os)[b]? = _; rw [Array.getElem?_append_left hb]

theorem all2_7 {α β : Type} {R : α → β → Prop} {x0 x1 x2 x3 x4 x5 x6 : α} {l : List β} (h : All2 R [x0, x1, x2, x3, x4, x5, x6] l) : ∃ c0 c1 c2 c3 c4 c5 c6, l = [c0, c1, c2, c3, c4, c5, c6] ∧ R x0 c0 ∧ R x1 c1 ∧ R x2 c2 ∧ R x3 c3 ∧ R x4 c4 ∧ R x5 c5 ∧ R x6 c6 := by
  match l, h with
  | [c0, c1, c2, c3, c4, c5, c6], ⟨h0, h1, h2, h3, h4, h5, h6, _⟩ => exact ⟨c0, c1, c2, c3, c4, c5, c6, rfl, h0, h1, h2, h3, h4, h5, h6⟩

theorem s_pRep : ∀ args rs, pRep args = some rs → FOk E 14 args [] rs [] := by
  intro args rs h
  unfold pRep at h
  split at h
  · rename_i a0 a1 a2 a3 a4 a5 a6
    split at h
    · rename_i hb
      cases h
      refine prim_ok rfl fun C hok us hv => ?_
      obtain ⟨u, rfl, hu⟩ := one_arg hv
      obtain ⟨cs, rfl, hcs⟩ := hu
      obtain ⟨c0, c1, c2, c3, c4, c5, c6, hl, h0, h1, h2, h3, h4, h5, h6⟩ := all2_7 hcs
      obtain rfl : cs = #[c0, c1, c2, c3, c4, c5, c6] := by rw [← Array.toArray_toList (xs := cs), hl]
      cases h0; cases h1; cases h2; cases h3; cases h4; cases h5; cases h6
      have hb' : ∀ n ∈ [a1, a2, a3, a0, a4, a5, a6], -9223372036854775808 ≤ n ∧ n ≤ 9223372036854775807 := by
        simp only [List.all_cons, List.all_nil, i64B, Bool.and_eq_true, decide_eq_true_eq] at hb
        simp only [List.mem_cons, List.not_mem_nil, or_false]
        rintro n (rfl | rfl | rfl | rfl | rfl | rfl | rfl) <;> omega
      refine (rep_walk a0 a1 a2 a3 a4 a5 a6 hb' C.w fun n hn W hB => ?_).mono fun e w' ⟨he, hw⟩ => ?_
      · refine (Any.strconv_Itoa Tryz.lays171 n hn.1 hn.2 W (pow29 (C := C.setW W) (ok_grow hok (Grow.of_below hB)).gr)).mono fun e w' ⟨he, k, os, hw⟩ => ?_
        subst he hw
        exact ⟨rfl, below_drewN _ _ _⟩
      · subst he
        exact ⟨_, rfl, Grow.of_below hw, .str _⟩
    · cases h
  · cases h

end Go.Proofs.YtkpdiagdjplbiaaGreatDoor.Vm
