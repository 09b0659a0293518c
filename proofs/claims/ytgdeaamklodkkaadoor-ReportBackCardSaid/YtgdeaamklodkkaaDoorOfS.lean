import Derived.Test.YtgdeaamklodkkaaDoorEnv
import Derived.Test.YtgdeaamklodkkaaDoorVm35
import Derived.Test.YtgdeaamklodkkaaDoorShelf
import Derived.Shelf.Abstract
import Derived.Shelf.Strings.BuilderK
import Derived.Shelf.Strings.MapGrows
import Derived.WalkKit
import Derived.Deep.RegionLaw
import Derived.KernelRfl
import Derived.Below
import Derived.OwnWalk
import Derived.Deep.AppendLies
import Derived.Deep.Upon
import Derived.Lib.BufferWrite
import Derived.Shelf.Slices.CompactI
import Derived.Shelf.Slices.Cells
import Derived.Shelf.Strings.IndexAnyAll
import Derived.Lib.OthersKept
import Derived.Laws.RangeAny
/- report.Text answers what its row says. -/
namespace Go.Proofs.YtgdeaamklodkkaaDoor.Vm
open Go Go.Proofs Go.RowKit Go.Shelf
set_option linter.unusedVariables false
set_option linter.unusedSimpArgs false

set_option maxRecDepth 100000 in
theorem names_in (w : World) : Calls Tryd.prog 35 #[] w fun e w' => e = .returned (.slice (some ⟨w.heap.size, 0, none⟩) 7 7) ∧ Below w.heap.size w w' ∧ ∀ (k : Nat) s, repNames[k]? = some s → w'.cell? ⟨w.heap.size, k, none⟩ = some (.string ⟨s.toArray⟩) := by
  go_enter Tryd.func35, Tryd.ntmps35
  go_wp2
  go_ret
  refine ⟨rfl, (Below.refl _ w).alloc (Nat.le_refl _) _, ?_⟩
  intro k s h
  have hk : k < 7 := (List.getElem?_eq_some_iff.1 h).1
  have : k = 0 ∨ k = 1 ∨ k = 2 ∨ k = 3 ∨ k = 4 ∨ k = 5 ∨ k = 6 := by omega
  rcases this with rfl | rfl | rfl | rfl | rfl | rfl | rfl <;> (cases h; simp only [World.cell?]; rw [heap_alloc_new]; rfl)

theorem numbers_in (a0 a1 a2 a3 a4 a5 a6 : Int) (w : World) : Calls Tryd.prog 33 #[.agg #[.int .i64 a0, .int .i64 a1, .int .i64 a2, .int .i64 a3, .int .i64 a4, .int .i64 a5, .int .i64 a6]] w fun e w' => e = .returned (.slice (some ⟨w.heap.size + 1, 0, none⟩) 7 7) ∧
    w' = (w.alloc (.cells #[.int .i64 a0, .int .i64 a1, .int .i64 a2, .int .i64 a3, .int .i64 a4, .int .i64 a5, .int .i64 a6] 40)).alloc (.cells #[.int .i64 a1, .int .i64 a2, .int .i64 a3, .int .i64 a0, .int .i64 a4, .int .i64 a5, .int .i64 a6] 3) := by
  go_enter Tryd.func33, Tryd.ntmps33
  go_wp2
  go_ret
  exact ⟨rfl, rfl⟩

theorem K166 : Go.Proofs.Lays.n166 Tryd.prog Tryd.lays156_ren := { Tryd.lays156 with }
theorem K169 : Go.Proofs.Lays.n169 Tryd.prog Tryd.lays156_ren := { Tryd.lays156 with }

/-- The text after k numbers. -/
def repA (ns : List Int) (k : Nat) : List UInt8 := ((List.zipWith (fun s n => s ++ Lib.itoa n) repNames ns).take k).flatten
theorem repA_succ (ns : List Int) (k : Nat) (s : List UInt8) (n : Int) (hs : repNames[k]? = some s) (hn : ns[k]? = some n) : repA ns (k + 1) = repA ns k ++ (s ++ Lib.itoa n) := by
  unfold repA
  have : (List.zipWith (fun s n => s ++ Lib.itoa n) repNames ns)[k]? = some (s ++ Lib.itoa n) := by
    rw [List.getElem?_zipWith, hs, hn]
  rw [List.take_add_one, this]
  simp

theorem dec_small40 {u : Nat} (h : u < 10) : (Lib.decDigits u).length = 1 := by rw [Lib.decDigits_length, Lib.nDigits_small h]
theorem dec_len40 (k : Nat) : ∀ u : Nat, u < 10 ^ (k + 1) → (Lib.decDigits u).length ≤ k + 1 := by
  induction k with
  | zero => intro u h; rw [dec_small40 (by simpa using h)]; omega
  | succ k ih =>
    intro u h
    by_cases hu : u < 10
    · rw [dec_small40 hu]; omega
    · have := ih (u / 10) (by rw [Nat.pow_succ] at h; omega)
      rw [Lib.decDigits_length] at this ⊢
      rw [Lib.nDigits_big hu]; omega
theorem itoa_len40 {n : Int} (h : -9223372036854775808 ≤ n ∧ n ≤ 9223372036854775807) : (Lib.itoa n).length ≤ 20 := by
  have h2 := dec_len40 18 n.natAbs (by omega)
  have h3 := dec_len40 18 n.toNat (by omega)
  unfold Lib.itoa
  split
  · simp; omega
  · omega
theorem repA_len (ns : List Int) (h : ∀ n ∈ ns, -9223372036854775808 ≤ n ∧ n ≤ 9223372036854775807) (hl : ns.length = 7) : ∀ k, k ≤ 7 → (repA ns k).length ≤ 40 * k := by
  intro k
  induction k with
  | zero => intro _; simp [repA]
  | succ k ih =>
    intro hk
    have h1 := ih (by omega)
    have hs : ∃ s, repNames[k]? = some s ∧ s.length ≤ 8 := by
      have : k = 0 ∨ k = 1 ∨ k = 2 ∨ k = 3 ∨ k = 4 ∨ k = 5 ∨ k = 6 := by omega
      rcases this with rfl | rfl | rfl | rfl | rfl | rfl | rfl <;> exact ⟨_, rfl, by decide⟩
    obtain ⟨s, hs, hsl⟩ := hs
    have hn := List.getElem?_eq_getElem (l := ns) (i := k) (by omega)
    have h2 := itoa_len40 (h _ (List.getElem_mem (l := ns) (n := k) (by omega)))
    rw [repA_succ ns k s _ hs hn]
    simp only [List.length_append]
    omega

theorem others_kept {e : TypeId} {b : Option Nat} {w w' : World} {k : Nat} {cs : Array Value} {t : TypeId} (h : Lib.OthersKept e b w w') (hk : w.heap[k]? = some (.cells cs t (0, 0))) (hb : some k ≠ b) (ht : t ≠ e) : w'.heap[k]? = some (.cells cs t (0, 0)) :=
  h k _ hk hb fun c fz he => by cases he; exact ht rfl

/-- Where the text stands after k numbers. -/
structure RepRel (ns : List Int) (cs : Array Value) (w : World) (k : Nat) (W : World) : Prop where
  bld : Lib.IsBuilderF 73 5 (w.heap.size + 1) (w.heap.size + 1) (Lib.byteCells (repA ns k)) W
  nums : W.heap[w.heap.size + 1 + 1 + 1]? = some (.cells cs 3 (0, 0))
  below : Below w.heap.size w W
  size : w.heap.size + 4 ≤ W.heap.size

theorem rep_start {ns : List Int} {w W : World} {o1 o3 : Obj} {cs : Array Value} (h : W = (((w.alloc o1).alloc (.cells #[.pointer none, .slice none 0 0] 73)).alloc o3).alloc (.cells cs 3)) : RepRel ns cs w 0 W := by
  obtain ⟨A, hA⟩ : ∃ A, w.alloc o1 = A := ⟨_, rfl⟩
  obtain ⟨B, hB⟩ : ∃ B, A.alloc (.cells #[.pointer none, .slice none 0 0] 73) = B := ⟨_, rfl⟩
  obtain ⟨C, hC⟩ : ∃ C, B.alloc o3 = C := ⟨_, rfl⟩
  rw [hA, hB, hC] at h
  have sA : A.heap.size = w.heap.size + 1 := by rw [← hA]; simp
  have sB : B.heap.size = w.heap.size + 2 := by rw [← hB]; simp [sA]
  have sC : C.heap.size = w.heap.size + 3 := by rw [← hC]; simp [sB]
  have sW : W.heap.size = w.heap.size + 4 := by rw [h]; simp [sC]
  have bA : Below w.heap.size w A := by rw [← hA]; exact (Below.refl _ w).alloc (Nat.le_refl _) _
  have bB : Below w.heap.size w B := by rw [← hB]; exact bA.alloc (by omega) _
  have bC : Below w.heap.size w C := by rw [← hC]; exact bB.alloc (by omega) _
  have bW : Below w.heap.size w W := by rw [h]; exact bC.alloc (by omega) _
  have hb0 : Lib.IsBuilder 73 5 A.heap.size A.heap.size [] B := by rw [← hB]; exact Lib.fresh_isBuilder 73 5 A
  have hb1 := Lib.IsBuilderF.of hb0
  rw [sA] at hb1
  refine ⟨?_, ?_, bW, by omega⟩
  · have h1 : Below B.heap.size B W := by rw [h, ← hC]; exact ((Below.refl _ B).alloc (Nat.le_refl _) _).alloc (by simp) _
    exact Lib.IsBuilderF.below hb1 h1
  · rw [h, show w.heap.size + 1 + 1 + 1 = C.heap.size by omega]
    exact heap_alloc_new C _

theorem RepRel.step {ns : List Int} {cs : Array Value} {w W W' : World} {k : Nat} (h : RepRel ns cs w k W) (hB : Below W.heap.size W W') : RepRel ns cs w k W' :=
  ⟨Lib.IsBuilderF.below h.bld hB, (hB.block _ (by have := h.size; omega)).trans h.nums, h.below.trans (hB.mono h.below.size), Nat.le_trans h.size hB.size⟩

theorem RepRel.put {ns : List Int} {cs : Array Value} {w W W' : World} {k : Nat} (h : RepRel ns cs w k W) {s : List UInt8} {n : Int} (hs : repNames[k]? = some s) (hn : ns[k]? = some n)
    (hb : Lib.BuilderAtF 73 5 (w.heap.size + 1) (w.heap.size + 1) (.pointer (some ⟨w.heap.size + 1, 0, none⟩)) (Lib.byteCells (repA ns k) ++ Lib.byteCells (s ++ Lib.itoa n)) W') (hB : Below (w.heap.size + 1) W W') (hO : Lib.OthersKept 5 (some (w.heap.size + 1)) W W') : RepRel ns cs w (k + 1) W' := by
  refine ⟨.inr ?_, others_kept hO h.nums (fun e => by simp only [Option.some.injEq] at e; omega) (by decide), h.below.trans (hB.mono (Nat.le_succ _)), Nat.le_trans h.size hB.size⟩
  rw [repA_succ ns k s n hs hn, Lib.byteCells_append]
  exact hb

theorem add_run (s t : List UInt8) (h : s.length + t.length ≤ 9223372036854775807) (W : World) : (Op.stringOp .add ⟨s.toArray⟩ ⟨t.toArray⟩).run Tryd.prog W = .ok (.string ⟨(s ++ t).toArray⟩) W := by
  obtain ⟨X, hX⟩ : ∃ X : ByteArray, (⟨s.toArray⟩ : ByteArray) = X := ⟨_, rfl⟩
  obtain ⟨Y, hY⟩ : ∃ Y : ByteArray, (⟨t.toArray⟩ : ByteArray) = Y := ⟨_, rfl⟩
  have hXs : X.size = s.length := by rw [← hX]; rfl
  have hYs : Y.size = t.length := by rw [← hY]; rfl
  have h1 : ¬ (((X.size + Y.size : Nat) : Int) > IntKind.i64.max) := by
    have : IntKind.i64.max = 9223372036854775807 := rfl
    rw [this]; omega
  have h2 : (⟨(s ++ t).toArray⟩ : ByteArray) = X ++ Y := by
    rw [← hX, ← hY]
    apply ByteArray.ext
    simp
  rw [hX, hY, h2]
  simp only [Op.stringOp, if_neg h1, Sem.run_pure]

set_option maxRecDepth 100000 in
set_option maxHeartbeats 8000000 in
theorem rep_walk (a0 a1 a2 a3 a4 a5 a6 : Int) (hr : ∀ n ∈ [a1, a2, a3, a0, a4, a5, a6], -9223372036854775808 ≤ n ∧ n ≤ 9223372036854775807) (w : World)
    (hitoa : ∀ n, (-9223372036854775808 ≤ n ∧ n ≤ 9223372036854775807) → ∀ W, Below w.heap.size w W → Calls Tryd.prog 36 #[.int .i64 n] W fun e w' => e = .returned (.string ⟨(Lib.itoa n).toArray⟩) ∧ Below W.heap.size W w') :
    Calls Tryd.prog 19 #[.agg #[.int .i64 a0, .int .i64 a1, .int .i64 a2, .int .i64 a3, .int .i64 a4, .int .i64 a5, .int .i64 a6]] w fun e w' => e = .returned (.string ⟨(repB a0 a1 a2 a3 a4 a5 a6).toArray⟩) ∧ Below w.heap.size w w' := by
  obtain ⟨ns, hns⟩ : ∃ ns, [a1, a2, a3, a0, a4, a5, a6] = ns := ⟨_, rfl⟩
  have hlen : ns.length = 7 := by rw [← hns]; rfl
  rw [hns] at hr
  have hal := repA_len ns hr hlen
  go_enter Tryd.func19, Tryd.ntmps19
  go_wp2_with (go_at_call 33; refine (numbers_in _ _ _ _ _ _ _ _).mono ?_; rintro e W1 ⟨rfl, hW1⟩; have hR1 := rep_start (ns := ns) hW1; clear hW1)
  go_loopw [9] (fun i wr => ∃ k : Nat, k ≤ 7 ∧ i = .int .i64 (k : Nat) ∧ RepRel ns #[.int .i64 a1, .int .i64 a2, .int .i64 a3, .int .i64 a0, .int .i64 a4, .int .i64 a5, .int .i64 a6] w k wr)
    (fun i _ => 7 - (intOf i).toNat)
  case atStart => exact ⟨0, by omega, rfl, hR1⟩
  case round =>
    obtain ⟨k, hk, rfl, hR⟩ := hrel
    clear hR1
    by_cases hlt : k < 7
    · have hsz := hR.size
      obtain ⟨n, hn⟩ : ∃ n, ns[k]? = some n := ⟨_, List.getElem?_eq_getElem (by omega)⟩
      obtain ⟨s, hs⟩ : ∃ s, repNames[k]? = some s := ⟨_, List.getElem?_eq_getElem (by show k < 7; exact hlt)⟩
      have hsl : s.length ≤ 8 := by
        have key : k = 0 ∨ k = 1 ∨ k = 2 ∨ k = 3 ∨ k = 4 ∨ k = 5 ∨ k = 6 := by omega
        rcases key with rfl | rfl | rfl | rfl | rfl | rfl | rfl <;> (cases hs; decide)
      have hb := hr n (List.mem_of_getElem? hn)
      have hil := itoa_len40 hb
      have y0 : wr.cell? ⟨w.heap.size + 1 + 1 + 1, k, none⟩ = some (.int .i64 n) := by
        have key : k = 0 ∨ k = 1 ∨ k = 2 ∨ k = 3 ∨ k = 4 ∨ k = 5 ∨ k = 6 := by omega
        rw [← hns] at hn
        simp only [World.cell?, hR.nums]
        rcases key with rfl | rfl | rfl | rfl | rfl | rfl | rfl <;> (cases hn; rfl)
      have hadd := add_run s (Lib.itoa n) (by omega)
      have hacc := hal k (by omega)
      have hlk : k < 7 := hlt
      go_wp2_with fail
      go_region_law (first
        | (go_simp; refine (names_in _).mono ?_; rintro e V ⟨rfl, hV, hVk⟩; have hRn := hR.step (W' := V) ((Below.refl _ wr).drew.trans hV); have z : V.cell? ⟨wr.heap.size, k, none⟩ = some (.string ⟨s.toArray⟩) := hVk k s hs; clear hVk)
        | (go_simp; refine (hitoa n hb _ hRn.below).mono ?_; rintro e U ⟨rfl, hU⟩; have hRu := hRn.step hU; have z2 := (hU.cell (World.block_lt_of_cell? V _ z)).trans z; have hadd2 := hadd U)
        | (go_simp; refine (Any.Builder_WriteString_k K166 Tryd.extra156 _ _ _ ⟨(s ++ Lib.itoa n).toArray⟩ _ hRu.bld (by rw [Lib.byteCells_length]; simp [ByteArray.size]; omega) (by have := hRu.size; omega)).mono ?_; rintro e Z ⟨rfl, hZ1, hZ2, hZ3⟩))
      all_goals
        have hRz := hRu.put hs hn hZ1 hZ2 hZ3
        clear hZ1 hZ2 hZ3 hRu hRn hR z z2 hadd2 hadd y0
        go_wp2
        go_roundw
        case rel => exact ⟨k + 1, by omega, by simp, hRz⟩
        case measure => simp [intOf] <;> omega
    · obtain rfl : k = 7 := by omega
      have hsz := hR.size
      have hacc := hal 7 (by omega)
      have hrep : repA ns 7 ++ [10] = repB a0 a1 a2 a3 a4 a5 a6 := by rw [← hns]; rfl
      have hl10 : (Lib.byteCells (repA ns 7)).length + (⟨#[10]⟩ : ByteArray).size ≤ 140737488355328 := by rw [Lib.byteCells_length]; show _ + 1 ≤ _; omega
      go_wp2_with (first
        | (go_at_call 34; go_loud (refine (Any.Builder_WriteString_k K166 Tryd.extra156 _ _ _ ⟨#[10]⟩ _ hR.bld hl10 (Nat.le_trans (by omega) hsz)).mono ?_; rintro e Z ⟨rfl, hZ1, hZ2, hZ3⟩; have hbz : Lib.IsBuilderF 73 5 (w.heap.size + 1) (w.heap.size + 1) (Lib.byteCells (repA ns 7 ++ [10])) Z := .inr (by rw [Lib.byteCells_append]; exact hZ1); have hBz := hR.below.trans (hZ2.mono (Nat.le_succ _)); have hZs := hZ2.size; clear hZ1 hZ2 hZ3))
        | (go_at_call 37; refine (Any.Builder_String_any_k K169 Tryd.extra156 _ _ (repA ns 7 ++ [10]) _ hbz (by omega)).mono ?_; rintro e Y ⟨rfl, hY1, hY2, hY3⟩; have hBy := hBz.trans (hY2.mono (Nat.le_succ _)); clear hY1 hY2 hY3))
      go_ret
      exact ⟨rfl, hBy⟩

theorem pow40 {C : Ctx} (g : GrOk C) : Lib.TabIs Tryd.prog C.w "internal/strconv.uint64pow10" .u64 Lib.pow10Tab := by
  obtain ⟨e, fr, h⟩ := gPow_of g.at_
  have h : (if gPow < nG then C.w.heap[gPow]? else none) = _ := h
  rw [if_pos (by decide)] at h
  unfold Lib.TabIs World.var?
  rw [show Tryd.prog.globalNamed "internal/strconv.uint64pow10" = some gPow by kernel_rfl]
  show (match C.w.heap[gPow]? with | some (.cells cs _ _) => some cs | _ => none) = _
  rw [h]

theorem below_drewN (w : World) (k : Nat) (os : Array Obj) : Below w.heap.size w (Go.Sort.grow (w.drewN k) os) where
  os := rfl
  tape := rfl
  output := rfl
  size := by show w.heap.size ≤ (w.heap ++ os).size; simp
  block b hb := by show (w.heap ++ os)[b]? = _; rw [Array.getElem?_append_left hb]

theorem all2_7 {α β : Type} {R : α → β → Prop} {x0 x1 x2 x3 x4 x5 x6 : α} {l : List β} (h : All2 R [x0, x1, x2, x3, x4, x5, x6] l) : ∃ c0 c1 c2 c3 c4 c5 c6, l = [c0, c1, c2, c3, c4, c5, c6] ∧ R x0 c0 ∧ R x1 c1 ∧ R x2 c2 ∧ R x3 c3 ∧ R x4 c4 ∧ R x5 c5 ∧ R x6 c6 := by
  match l, h with
  | [c0, c1, c2, c3, c4, c5, c6], ⟨h0, h1, h2, h3, h4, h5, h6, _⟩ => exact ⟨c0, c1, c2, c3, c4, c5, c6, rfl, h0, h1, h2, h3, h4, h5, h6⟩

theorem s_pRep : ∀ args rs, pRep args = some rs → FOk E 19 args [] rs [] := by
  intro args rs h
  unfold pRep at h
  split at h
  · rename_i a0 a1 a2 a3 a4 a5 a6
    split at h
    · rename_i hb
      cases h
      refine prim_ok rfl fun C hok us hv => ?_
      obtain ⟨u, rfl, hu⟩ := one_arg hv
      obtain ⟨cs, rfl, hcs⟩ := hu
      obtain ⟨c0, c1, c2, c3, c4, c5, c6, hl, h0, h1, h2, h3, h4, h5, h6⟩ := all2_7 hcs
      obtain rfl : cs = #[c0, c1, c2, c3, c4, c5, c6] := by rw [← Array.toArray_toList (xs := cs), hl]
      cases h0; cases h1; cases h2; cases h3; cases h4; cases h5; cases h6
      have hb' : ∀ n ∈ [a1, a2, a3, a0, a4, a5, a6], -9223372036854775808 ≤ n ∧ n ≤ 9223372036854775807 := by
        simp only [List.all_cons, List.all_nil, i64B, Bool.and_eq_true, decide_eq_true_eq] at hb
        simp only [List.mem_cons, List.not_mem_nil, or_false]
        rintro n (rfl | rfl | rfl | rfl | rfl | rfl | rfl) <;> omega
      refine (rep_walk a0 a1 a2 a3 a4 a5 a6 hb' C.w fun n hn W hB => ?_).mono fun e w' ⟨he, hw⟩ => ?_
      · refine (Any.strconv_Itoa Tryd.lays171 n hn.1 hn.2 W (pow40 (C := C.setW W) (ok_grow hok (Grow.of_below hB)).gr)).mono fun e w' ⟨he, k, os, hw⟩ => ?_
        subst he hw
        exact ⟨rfl, below_drewN _ _ _⟩
      · subst he
        exact ⟨_, rfl, Grow.of_below hw, .str _⟩
    · cases h
  · cases h

end Go.Proofs.YtgdeaamklodkkaaDoor.Vm

/- report.Of answers what its row says. -/
namespace Go.Proofs.YtgdeaamklodkkaaDoor.Vm
open Go Go.Proofs Go.RowKit
set_option linter.unusedVariables false
set_option linter.unusedSimpArgs false

/-! ### The report's box -/
def repC (r : Nat → Int) : Array Value := #[.int .i64 (r 0), .int .i64 (r 1), .int .i64 (r 2), .int .i64 (r 3), .int .i64 (r 4), .int .i64 (r 5), .int .i64 (r 6)]
theorem seven {m : Nat} (h : m < 7) : m = 0 ∨ m = 1 ∨ m = 2 ∨ m = 3 ∨ m = 4 ∨ m = 5 ∨ m = 6 := by omega
theorem repC_get (r : Nat → Int) {m : Nat} (h : m < 7) : (repC r)[m]? = some (.int .i64 (r m)) := by
  rcases seven h with rfl | rfl | rfl | rfl | rfl | rfl | rfl <;> rfl
theorem repC_set (r : Nat → Int) {m : Nat} (h : m < 7) (x : Int) : (repC r).setIfInBounds m (.int .i64 x) = repC fun i => if i = m then x else r i := by
  rcases seven h with rfl | rfl | rfl | rfl | rfl | rfl | rfl <;> rfl

/-- The report's box, and what was there before it. -/
structure OfR (V W : World) (r : Nat → Int) : Prop where
  below : Below V.heap.size V W
  rep : W.heap[V.heap.size]? = some (.cells (repC r) 40 (0, 0))
section
variable {V W W' : World} {r : Nat → Int}
theorem OfR.size (h : OfR V W r) : V.heap.size + 1 ≤ W.heap.size := by
  have := (Array.getElem?_eq_some_iff.1 h.rep).1
  omega
theorem OfR.step (h : OfR V W r) (hB : Below (V.heap.size + 1) W W') : OfR V W' r :=
  ⟨h.below.trans (hB.mono (Nat.le_succ _)), (hB.block _ (by have := h.size; omega)).trans h.rep⟩
theorem OfR.cell (h : OfR V W r) {m : Nat} (hm : m < 7) : W.cell? ⟨V.heap.size, m, none⟩ = some (.int .i64 (r m)) := by
  simp only [World.cell?, h.rep]
  exact repC_get r hm
theorem OfR.fz (h : OfR V W r) (m : Nat) : W.frozen? ⟨V.heap.size, m, none⟩ = false := by simp [World.frozen?, h.rep]
theorem OfR.set (h : OfR V W r) {m : Nat} (hm : m < 7) (x : Int) : OfR V (W.setCell ⟨V.heap.size, m, none⟩ (.int .i64 x)) fun i => if i = m then x else r i := by
  have g := Lib.grownBy_setCell W V.heap.size m (.int .i64 x)
  refine ⟨⟨g.os.trans h.below.os, g.tape.trans h.below.tape, g.output.trans h.below.output, Nat.le_trans h.below.size g.size, fun k hk => (g.block k (by have := h.size; omega) (by simp only [ne_eq, Option.some.injEq]; omega)).trans (h.below.block k hk)⟩, ?_⟩
  rw [Lib.heap_setCell_same h.rep, repC_set r hm]
end
theorem ofR_new (V : World) : OfR V (V.alloc (.cells #[.int .i64 0, .int .i64 0, .int .i64 0, .int .i64 0, .int .i64 0, .int .i64 0, .int .i64 0] 40)) fun _ => 0 :=
  ⟨(Below.refl _ V).alloc (Nat.le_refl _) _, heap_alloc_new V _⟩

/-! ### The frame: the book's box, the result's -/
structure OfF (w V : World) (sv : Value) (n : Int) (r : Nat → Int) : Prop where
  below : Below w.heap.size w V
  b : V.heap[w.heap.size]? = some (.cells #[sv, .int .u64 n] 29 (0, 0))
  o : V.heap[w.heap.size + 1]? = some (.cells (repC r) 40 (0, 0))
section
variable {w V V' : World} {sv : Value} {n : Int} {r : Nat → Int}
theorem OfF.size (h : OfF w V sv n r) : w.heap.size + 2 ≤ V.heap.size := by
  have := (Array.getElem?_eq_some_iff.1 h.o).1
  omega
theorem OfF.step (h : OfF w V sv n r) (hB : Below V.heap.size V V') : OfF w V' sv n r :=
  ⟨h.below.trans (hB.mono h.below.size), (hB.block _ (by have := h.size; omega)).trans h.b, (hB.block _ (by have := h.size; omega)).trans h.o⟩
theorem OfF.cells (h : OfF w V sv n r) : V.cell? ⟨w.heap.size, 0, none⟩ = some sv ∧ V.cell? ⟨w.heap.size, 1, none⟩ = some (.int .u64 n) := by
  simp [World.cell?, h.b]
theorem OfF.out (h : OfF w V sv n r) {m : Nat} (hm : m < 7) : V.cell? ⟨w.heap.size + 1, m, none⟩ = some (.int .i64 (r m)) := by
  simp only [World.cell?, h.o]
  exact repC_get r hm
theorem OfF.fz (h : OfF w V sv n r) (m : Nat) : V.frozen? ⟨w.heap.size + 1, m, none⟩ = false := by simp [World.frozen?, h.o]
end
theorem ofF_new (w : World) (sv : Value) (n : Int) : OfF w ((w.alloc (.cells #[sv, .int .u64 n] 29)).alloc (.cells #[.int .i64 0, .int .i64 0, .int .i64 0, .int .i64 0, .int .i64 0, .int .i64 0, .int .i64 0] 40)) sv n fun _ => 0 := by
  obtain ⟨A, hA⟩ : ∃ A, w.alloc (.cells #[sv, .int .u64 n] 29) = A := ⟨_, rfl⟩
  have sA : A.heap.size = w.heap.size + 1 := by rw [← hA]; simp
  have bA : Below w.heap.size w A := by rw [← hA]; exact (Below.refl _ w).alloc (Nat.le_refl _) _
  rw [hA]
  refine ⟨bA.alloc (by omega) _, ?_, ?_⟩
  · rw [heap_alloc_old A _ (by omega), ← hA]
    exact heap_alloc_new w _
  · rw [← sA]
    exact heap_alloc_new A _

theorem below_set {B b i : Nat} {v : Value} {w W : World} (h : Below B w W) (hb : B ≤ b) (hs : B ≤ w.heap.size) : Below B w (W.setCell ⟨b, i, none⟩ v) := by
  have g := Lib.grownBy_setCell W b i v
  exact ⟨g.os.trans h.os, g.tape.trans h.tape, g.output.trans h.output, Nat.le_trans h.size g.size, fun k hk => if e : k = b then absurd hk (by omega) else (g.block k (by have := h.size; omega) (by simp only [ne_eq, Option.some.injEq]; omega)).trans (h.block k hk)⟩

/-- The ticks of the first k spans. -/
def ticks (sp : List (Int × Int × Int)) (k : Nat) (i : Nat) : Int := if i < 4 then tick4 (sp.take k) (i : Int) else 0
theorem ticks_zero (sp : List (Int × Int × Int)) : ticks sp 0 = fun _ => 0 := by
  funext i
  unfold ticks
  split <;> simp [tick4]
theorem tick4_succ {sp : List (Int × Int × Int)} {k : Nat} {x : Int × Int × Int} (h : sp[k]? = some x) (lev : Int) : tick4 (sp.take (k + 1)) lev = if x.2.2 = lev then tick4 (sp.take k) lev + (x.2.1 - x.1) else tick4 (sp.take k) lev := by
  rw [List.take_add_one, h]
  simp only [tick4, Option.toList_some, List.foldl_append, List.foldl_cons, List.foldl_nil]
theorem ticks_hit {sp : List (Int × Int × Int)} {k m : Nat} {x : Int × Int × Int} (h : sp[k]? = some x) (hm : x.2.2 = (m : Int)) (h4 : m < 4) : (fun i => if i = m then ticks sp k m + (x.2.1 - x.1) else ticks sp k i) = ticks sp (k + 1) := by
  funext i
  unfold ticks
  rw [tick4_succ h, hm]
  by_cases e : i = m
  · subst e; simp [h4]
  · have : ¬ ((m : Int) = (i : Int)) := by omega
    simp [e, this]
theorem ticks_skip {sp : List (Int × Int × Int)} {k : Nat} {x : Int × Int × Int} (h : sp[k]? = some x) (hm : x.2.2 < 0 ∨ 4 ≤ x.2.2) : ticks sp k = ticks sp (k + 1) := by
  funext i
  unfold ticks
  split
  · rw [tick4_succ h, if_neg (by omega)]
  · rfl

set_option maxRecDepth 100000 in
set_option maxHeartbeats 8000000 in
theorem of_walk (sa : Option Addr) (len sc : Nat) (n a b : Int) (e : Int) (la : Option Addr) (ll lc : Nat) (sp : List (Int × Int × Int)) (tk : List (Int × Int)) (w : World)
    (hspans : ∀ W, Below w.heap.size w W → Calls Tryd.prog 26 #[.agg #[.slice sa len sc, .int .u64 n], .int .i64 1, .int .i64 a, .int .i64 b] W fun u w' => ∃ la ll lc, u = .returned (.tuple #[.slice la ll lc, .int .i64 e]) ∧ Below W.heap.size W w' ∧ (e = 0 →
      ll = sp.length ∧ ∀ (j : Nat) x, sp[j]? = some x → ∃ B off, la = some ⟨B, off, none⟩ ∧ B < w'.heap.size ∧ w'.cell? ⟨B, off + j * 3, none⟩ = some (.int .i64 x.1) ∧ w'.cell? ⟨B, off + j * 3 + 1, none⟩ = some (.int .i64 x.2.1) ∧ w'.cell? ⟨B, off + j * 3 + 2, none⟩ = some (.int .i64 x.2.2)))
    (hne : e ≠ 0) :
    Calls Tryd.prog 14 #[.agg #[.slice sa len sc, .int .u64 n], .int .i64 a, .int .i64 b] w fun u w' => u = .returned (.tuple #[.agg #[.int .i64 0, .int .i64 0, .int .i64 0, .int .i64 0, .int .i64 0, .int .i64 0, .int .i64 0], .int .i64 e]) ∧ Below w.heap.size w w' := by
  have hF0 := ofF_new w (.slice sa len sc) n
  go_enter Tryd.func14, Tryd.ntmps14
  go_wp2_with (go_at_call 26; refine (hspans _ hF0.below).mono ?_)
  rintro u V ⟨la, ll, lc, rfl, hBV, _⟩
  have hF := hF0.step hBV
  clear hF0 hBV
  have o0 := hF.out (m := 0) (by decide)
  have o1 := hF.out (m := 1) (by decide)
  have o2 := hF.out (m := 2) (by decide)
  have o3 := hF.out (m := 3) (by decide)
  have o4 := hF.out (m := 4) (by decide)
  have o5 := hF.out (m := 5) (by decide)
  have o6 := hF.out (m := 6) (by decide)
  have z0 := hF.fz 0
  have z1 := hF.fz 1
  have z2 := hF.fz 2
  have z3 := hF.fz 3
  have z4 := hF.fz 4
  have z5 := hF.fz 5
  have z6 := hF.fz 6
  go_wp2
  refine bodyPost_ret (v := .tuple #[.agg #[.int .i64 0, .int .i64 0, .int .i64 0, .int .i64 0, .int .i64 0, .int .i64 0, .int .i64 0], .int .i64 e]) (by simp [results, Tryd.results14, go_sem, o0, o1, o2, o3, o4, o5, o6]) rfl ⟨rfl, ?_⟩
  have hb := hF.below
  repeat' (refine below_set ?_ (Nat.le_succ _) (Nat.le_refl _))
  exact hb

theorem okSpans_len {sp : List (Int × Int × Int)} (h : okSpans sp = true) : sp.length ≤ 1000 := by
  simp only [okSpans, Bool.and_eq_true] at h
  exact Nat.le_of_ble_eq_true h.1
theorem okSpans_get {sp : List (Int × Int × Int)} (h : okSpans sp = true) {k : Nat} {x : Int × Int × Int} (hx : sp[k]? = some x) : 0 ≤ x.1 ∧ x.1 ≤ x.2.1 ∧ x.2.1 ≤ 2147483648 := by
  simp only [okSpans, Bool.and_eq_true, List.all_eq_true, decide_eq_true_eq] at h
  obtain ⟨⟨h1, h2⟩, h3⟩ := h.2 x (List.mem_of_getElem? hx)
  exact ⟨h1, h2, h3⟩
theorem ticks_bnd {sp : List (Int × Int × Int)} (h : okSpans sp = true) : ∀ (k i : Nat), k ≤ sp.length → 0 ≤ ticks sp k i ∧ ticks sp k i ≤ 2147483648 * (k : Int)
  | 0, i, _ => by rw [ticks_zero]; exact ⟨Int.le_refl _, by show (0 : Int) ≤ _; omega⟩
  | k + 1, i, hk => by
    obtain ⟨h1, h2⟩ := ticks_bnd h k i (by omega)
    obtain ⟨x, hx⟩ : ∃ x, sp[k]? = some x := ⟨_, List.getElem?_eq_getElem (by omega)⟩
    obtain ⟨g1, g2, g3⟩ := okSpans_get h hx
    unfold ticks at h1 h2 ⊢
    split at h1
    · rename_i h4
      rw [if_pos h4] at h2 ⊢
      rw [tick4_succ hx]
      split <;> omega
    · rename_i h4
      rw [if_neg h4] at h2 ⊢
      omega

def pf4 (sp : List (Int × Int × Int)) (wst : Int) (i : Nat) : Int := if i = 4 then wst else ticks sp sp.length i
def pf5 (sp : List (Int × Int × Int)) (wst c : Int) (i : Nat) : Int := if i = 5 then c else pf4 sp wst i
theorem pf5_zero (sp : List (Int × Int × Int)) (wst : Int) : pf4 sp wst = pf5 sp wst 0 := by
  funext i
  unfold pf5 pf4
  by_cases h : i = 5
  · subst h; simp [ticks]
  · simp [h]
theorem pf5_set (sp : List (Int × Int × Int)) (wst c x : Int) : (fun i => if i = 5 then x else pf5 sp wst c i) = pf5 sp wst x := by
  funext i
  unfold pf5
  by_cases h : i = 5 <;> simp [h]

def ints (l : List Int) : List Value := l.map (Value.int .i64)
theorem ofKind_succ {tk : List (Int × Int)} {k : Nat} {x : Int × Int} (h : tk[k]? = some x) (kind a b : Int) : ofKind (tk.take (k + 1)) kind a b = ofKind (tk.take k) kind a b ++ if a ≤ x.1 ∧ x.1 < b ∧ x.2 = kind then [x.1] else [] := by
  rw [List.take_add_one, h]
  simp only [ofKind, Option.toList_some, List.filter_append, List.map_append]
  congr 1
  by_cases h1 : a ≤ x.1 <;> by_cases h2 : x.1 < b <;> by_cases h3 : x.2 = kind <;> simp [h1, h2, h3, List.filter]
theorem ofKind_len (tk : List (Int × Int)) (k : Nat) (kind a b : Int) : (ofKind (tk.take k) kind a b).length ≤ k := by
  unfold ofKind
  rw [List.length_map]
  exact Nat.le_trans (List.length_filter_le _ _) (by simp; omega)

theorem below_grown {B : Nat} {w w' w2 : World} {row : Option Nat} (h : Below B w w') (hg : w'.grownBy w2 row) (hB : B ≤ w.heap.size) (hr : ∀ k, row = some k → B ≤ k) : Below B w w2 where
  os := hg.os.trans h.os
  tape := hg.tape.trans h.tape
  output := hg.output.trans h.output
  size := Nat.le_trans h.size hg.size
  block k hk := (hg.block k (by have := h.size; omega) (fun e => by have := hr k e.symm; omega)).trans (h.block k hk)

theorem info3 : (Tryd.prog.info? 3).map (fun i => (i.zero, i.size, i.bytes)) = some (some (.int .i64 0), 1, 8) := by kernel_rfl

/-- Where the list of the times stands. -/
structure OfL (V W : World) (r : Nat → Int) (v : Value) (zs : List Int) : Prop where
  rep : OfR V W r
  own : W.ownsRow (V.heap.size + 1) 3 1 v zs.length (ints zs)
section
variable {V W W' : World} {r : Nat → Int} {v : Value} {zs : List Int}
theorem OfL.step (h : OfL V W r v zs) (hB : Below W.heap.size W W') : OfL V W' r v zs :=
  ⟨h.rep.step (hB.mono h.rep.size), h.own.kept (row := none) ⟨hB.os, hB.tape, hB.output, hB.size, fun k hk _ => hB.block k hk⟩ (by cases v.ownBlock <;> simp)⟩
theorem OfL.set (h : OfL V W r v zs) {m : Nat} (hm : m < 7) (x : Int) : OfL V (W.setCell ⟨V.heap.size, m, none⟩ (.int .i64 x)) (fun i => if i = m then x else r i) v zs :=
  ⟨h.rep.set hm x, h.own.kept (Lib.grownBy_setCell W V.heap.size m _) (.inr fun e => by have := (h.own.lt _ e).1; omega)⟩
theorem OfL.app (h : OfL V W r v zs) (hB : Below W.heap.size W W') {t : Int} {w1 : World} (hgrow : W'.grownBy w1 v.ownBlock) {gg cap n : Nat} (hn : n = zs.length)
    (hown : w1.ownsRow (V.heap.size + 1) 3 1 (.slice (some ⟨gg, 0, none⟩) (n + 1) cap) (n + 1) (ints zs ++ [.int .i64 t])) : OfL V w1 r (.slice (some ⟨gg, 0, none⟩) (n + 1) cap) (zs ++ [t]) := by
  subst hn
  refine ⟨h.rep.step (below_grown (hB.mono h.rep.size) hgrow h.rep.size (fun k hk => (h.own.lt _ hk).1)), ?_⟩
  rw [List.length_append, ints, List.map_append]
  exact hown
end

theorem set_all {b : Nat} : ∀ (vs : List Value) (o : Nat) (w : World), ((w.setCells b o vs).os = w.os ∧ (w.setCells b o vs).tape = w.tape ∧ (w.setCells b o vs).output = w.output) ∧ (w.setCells b o vs).heap.size = w.heap.size
  | [], _, _ => ⟨⟨rfl, rfl, rfl⟩, rfl⟩
  | v :: vs, o, w => by
    have g := Lib.grownBy_setCell w b o v
    obtain ⟨⟨h1, h2, h3⟩, h4⟩ := set_all vs (o + 1) (w.setCell ⟨b, o, none⟩ v)
    refine ⟨⟨h1.trans g.os, h2.trans g.tape, h3.trans g.output⟩, ?_⟩
    rw [World.setCells, h4]
    simp [World.setCell]

theorem compact_any {V W : World} {r : Nat → Int} {v : Value} {zs : List Int} (h : OfL V W r v zs) (hz : zs.length ≤ 1000) :
    ∃ a cap, v = .slice a zs.length cap ∧ Calls Tryd.prog 28 #[.slice a zs.length cap] W fun e w' => e = .returned (.slice a (Lib.compact zs).length cap) ∧ OfR V w' r := by
  rcases h.own.2 with ⟨hv, h0⟩ | ⟨g, cap, cur, hv, hbg, hg, hnc, hcm, hcs, htake⟩
  · obtain rfl : zs = [] := List.eq_nil_of_length_eq_zero h0
    refine ⟨none, 0, hv, (Any.slices_Compact_int_empty Tryd.laysQ20 none 0 W).mono ?_⟩
    rintro e w' ⟨rfl, rfl⟩
    exact ⟨rfl, h.rep⟩
  · refine ⟨some ⟨g, 0, none⟩, cap, hv, ?_⟩
    have hcl := h.own.cells (g := g) (by rw [hv]; rfl)
    have hm := Any.slices_Compact_int_cells Tryd.laysQ20 g 0 zs.length cap zs W (Nat.le_refl _) (by omega) hnc (fun j hj => by
      have h1 := hcl j (.int .i64 zs[j]) (by simp [ints, List.getElem?_eq_getElem hj])
      rw [show ((⟨g, 0, none⟩ : Addr).add j) = ⟨g, 0 + j, none⟩ from by unfold Addr.add; split <;> simp_all] at h1
      rw [h1]
      simp [List.getD, hj]) (fun j hj => by simp [World.frozen?, hg])
    rw [List.take_length] at hm
    refine hm.mono ?_
    rintro e w' ⟨rfl, q, rfl⟩
    refine ⟨rfl, ?_⟩
    obtain ⟨⟨s1, s2, s3⟩, s4⟩ := set_all (b := g) ((Lib.compact zs ++ List.replicate (zs.length - (Lib.compact zs).length) 0).map (Value.int .i64)) 0 (W.drewN q)
    have hB : Below (V.heap.size + 1) W ((W.drewN q).setCells g 0 ((Lib.compact zs ++ List.replicate (zs.length - (Lib.compact zs).length) 0).map (Value.int .i64))) := by
      refine ⟨s1.trans rfl, s2.trans rfl, s3.trans rfl, by rw [s4]; exact Nat.le_refl _, fun k hk => ?_⟩
      rw [World.heap_setCells_other _ _ _ _ (by show k < W.heap.size; have := h.rep.size; omega) (by omega)]
      rfl
    exact h.rep.step hB

set_option maxRecDepth 100000 in
set_option maxHeartbeats 16000000 in
theorem of_good (sa : Option Addr) (len sc : Nat) (n a b : Int) (sp : List (Int × Int × Int)) (tk : List (Int × Int)) (SA : Nat → Option Addr) (SL SC : Nat → Nat) (wst : Int) (w : World) (hok : okSpans sp = true) (htk : tk.length = len) (hlen : len ≤ 1000)
    (hI : ∀ (j : Nat) x, tk[j]? = some x → ∃ B off, sa = some ⟨B, off, none⟩ ∧ B < w.heap.size ∧ w.cell? ⟨B, off + j * 3, none⟩ = some (.int .i64 x.1) ∧ w.cell? ⟨B, off + j * 3 + 1, none⟩ = some (.int .i64 x.2) ∧ w.cell? ⟨B, off + j * 3 + 2, none⟩ = some (.slice (SA j) (SL j) (SC j)))
    (hspans : ∀ W, Below w.heap.size w W → Calls Tryd.prog 26 #[.agg #[.slice sa len sc, .int .u64 n], .int .i64 1, .int .i64 a, .int .i64 b] W fun u w' => ∃ la lc, u = .returned (.tuple #[.slice la sp.length lc, .int .i64 0]) ∧ Below W.heap.size W w' ∧
      ∀ (j : Nat) x, sp[j]? = some x → ∃ B off, la = some ⟨B, off, none⟩ ∧ B < w'.heap.size ∧ w'.cell? ⟨B, off + j * 3, none⟩ = some (.int .i64 x.1) ∧ w'.cell? ⟨B, off + j * 3 + 1, none⟩ = some (.int .i64 x.2.1) ∧ w'.cell? ⟨B, off + j * 3 + 2, none⟩ = some (.int .i64 x.2.2))
    (hworst : ∀ W, Below w.heap.size w W → Calls Tryd.prog 27 #[.agg #[.int .i64 (ticks sp sp.length 0), .int .i64 (ticks sp sp.length 1), .int .i64 (ticks sp sp.length 2), .int .i64 (ticks sp sp.length 3)]] W fun u w' => u = .returned (.int .i64 wst) ∧ Below W.heap.size W w') :
    Calls Tryd.prog 14 #[.agg #[.slice sa len sc, .int .u64 n], .int .i64 a, .int .i64 b] w fun u w' => u = .returned (.tuple #[.agg #[.int .i64 (ticks sp sp.length 0), .int .i64 (ticks sp sp.length 1), .int .i64 (ticks sp sp.length 2), .int .i64 (ticks sp sp.length 3), .int .i64 wst, .int .i64 (ofKind tk 4 a b).length, .int .i64 (Lib.compact (ofKind tk 8 a b)).length], .int .i64 0]) ∧ Below w.heap.size w w' := by
  have hF0 := ofF_new w (.slice sa len sc) n
  have hspl := okSpans_len hok
  go_enter Tryd.func14, Tryd.ntmps14
  go_wp2_with (go_at_call 26; refine (hspans _ hF0.below).mono ?_)
  rintro u V ⟨la, lc, rfl, hBV, hsc⟩
  have hF := hF0.step hBV
  clear hF0 hBV hspans
  have hR0 := ofR_new V
  have hVs := hF.size
  go_wp2
  go_loopw [29] (fun i wr => ∃ k : Nat, k ≤ sp.length ∧ i = .int .i64 (k : Nat) ∧ OfR V wr (ticks sp k))
    (fun i _ => sp.length - (intOf i).toNat)
  case atStart => exact ⟨0, Nat.zero_le _, rfl, by rw [ticks_zero]; exact hR0⟩
  case round =>
    obtain ⟨k, hk, rfl, hR⟩ := hrel
    clear hR0
    by_cases hlt : k < sp.length
    · obtain ⟨⟨x0, x1, x2⟩, hx⟩ : ∃ x, sp[k]? = some x := ⟨_, List.getElem?_eq_getElem hlt⟩
      obtain ⟨B, off, rfl, hB, y0, y1, y2⟩ := hsc k _ hx
      replace y0 := (hR.below.cell (p := ⟨B, off + k * 3, none⟩) hB).trans y0
      replace y1 := (hR.below.cell (p := ⟨B, off + k * 3 + 1, none⟩) hB).trans y1
      replace y2 := (hR.below.cell (p := ⟨B, off + k * 3 + 2, none⟩) hB).trans y2
      dsimp only at y0 y1 y2
      have hX := hR.step (W' := wr.alloc (.cells #[.int .i64 x0, .int .i64 x1, .int .i64 x2] 64)) ((Below.refl _ wr).alloc hR.size _)
      by_cases h0 : 0 ≤ x2
      · by_cases h4 : x2 < 4
        · obtain ⟨m, rfl⟩ : ∃ m : Nat, x2 = (m : Int) := ⟨x2.toNat, by omega⟩
          have hm : m < 4 := by omega
          have c0 := hX.cell (m := m) (by omega)
          have f0 := hX.fz m
          have c0d : (wr.alloc (.cells #[.int .i64 x0, .int .i64 x1, .int .i64 (m : Int)] 64)).drew.cell? ⟨V.heap.size, m, none⟩ = _ := c0
          have f0d : (wr.alloc (.cells #[.int .i64 x0, .int .i64 x1, .int .i64 (m : Int)] 64)).drew.frozen? ⟨V.heap.size, m, none⟩ = false := f0
          obtain ⟨g1, g2, g3⟩ := okSpans_get hok hx
          obtain ⟨g4, g5⟩ := ticks_bnd hok k m hk
          have hw1 : IntKind.i64.wrap (x1 - x0) = x1 - x0 := by rw [IntKind.wrap_i64]; dsimp only at g1 g2 g3; omega
          have hw2 : IntKind.i64.wrap (ticks sp k m + (x1 - x0)) = ticks sp k m + (x1 - x0) := by rw [IntKind.wrap_i64]; dsimp only at g1 g2 g3; omega
          have hnext := (OfR.step hX (W' := (wr.alloc (.cells #[.int .i64 x0, .int .i64 x1, .int .i64 (m : Int)] 64)).drew) ((Below.refl _ _).drew)).set (m := m) (by omega) (ticks sp k m + (x1 - x0))
          rw [ticks_hit hx rfl hm] at hnext
          go_wp2
          go_region
          go_wp2
          go_roundw
          case rel => exact ⟨k + 1, by omega, by simp, hnext⟩
          case measure => simp [intOf] <;> omega
        · have hnext := hX
          rw [ticks_skip hx (.inr (by dsimp only; omega))] at hnext
          go_wp2
          go_roundw
          case rel => exact ⟨k + 1, by omega, by simp, hnext⟩
          case measure => simp [intOf] <;> omega
      · have hnext := hX
        rw [ticks_skip hx (.inl (by dsimp only; omega))] at hnext
        go_wp2
        go_roundw
        case rel => exact ⟨k + 1, by omega, by simp, hnext⟩
        case measure => simp [intOf] <;> omega
    · obtain rfl : k = sp.length := by omega
      have c0 := hR.cell (m := 0) (by decide)
      have c1 := hR.cell (m := 1) (by decide)
      have c2 := hR.cell (m := 2) (by decide)
      have c3 := hR.cell (m := 3) (by decide)
      have hw := hworst wr (hF.below.trans (hR.below.mono hF.below.size))
      go_wp2_with (go_at_call 27; refine hw.mono ?_)
      rintro u W1 ⟨rfl, hB1⟩
      have hR1 := hR.step (hB1.mono hR.size)
      clear hw hworst hB1 hR c0 c1 c2 c3
      have f4 := hR1.fz 4
      have d4 := hR1.cell (m := 4) (by decide)
      have hR2 := hR1.set (m := 4) (by decide) wst
      have hb0 := (hR2.below.cell (p := ⟨w.heap.size, 0, none⟩) (by show w.heap.size < _; omega)).trans hF.cells.1
      have hL2 : OfL V (W1.setCell ⟨V.heap.size, 4, none⟩ (.int .i64 wst)) (pf5 sp wst 0) (.slice none 0 0) [] := ⟨by rw [← pf5_zero]; exact hR2, World.ownsRow_nil _ _ _ _⟩
      go_wp2
      go_loopw [13, 62] (fun u i wr => ∃ (k : Nat) (v : Value), k ≤ tk.length ∧ i = .int .i64 (k : Nat) ∧ v = u ∧ OfL V wr (pf5 sp wst (ofKind (tk.take k) 4 a b).length) v (ofKind (tk.take k) 8 a b))
        (fun v i _ => tk.length - (intOf i).toNat)
      case atStart => exact ⟨0, _, Nat.zero_le _, rfl, rfl, hL2⟩
      case round =>
        obtain ⟨k, v, hk, rfl, hv, hL⟩ := hrel
        subst hv
        clear hL2 hR2 hR1 f4 d4 hb0
        by_cases hlt : k < tk.length
        · obtain ⟨⟨t, kd⟩, hx⟩ : ∃ x, tk[k]? = some x := ⟨_, List.getElem?_eq_getElem hlt⟩
          obtain ⟨B, off, rfl, hB, y0, y1, y2⟩ := hI k _ hx
          have hBw := hF.below.trans (hL.rep.below.mono hF.below.size)
          replace y0 := (hBw.cell (p := ⟨B, off + k * 3, none⟩) hB).trans y0
          replace y1 := (hBw.cell (p := ⟨B, off + k * 3 + 1, none⟩) hB).trans y1
          replace y2 := (hBw.cell (p := ⟨B, off + k * 3 + 2, none⟩) hB).trans y2
          dsimp only at y0 y1 y2
          have hBa : Below wr.heap.size wr (wr.alloc (.cells #[.int .i64 t, .int .i64 kd, .slice (SA k) (SL k) (SC k)] 37)) := (Below.refl _ wr).alloc (Nat.le_refl _) _
          have hX := hL.step hBa
          have s4 := ofKind_succ hx 4 a b
          have s8 := ofKind_succ hx 8 a b
          have l4 := ofKind_len tk k 4 a b
          have l8 := ofKind_len tk k 8 a b
          dsimp only at s4 s8
          have hskip : ¬ (a ≤ t ∧ t < b ∧ kd = 4) → ¬ (a ≤ t ∧ t < b ∧ kd = 8) → OfL V (wr.alloc (.cells #[.int .i64 t, .int .i64 kd, .slice (SA k) (SL k) (SC k)] 37)) (pf5 sp wst (ofKind (tk.take (k + 1)) 4 a b).length) v (ofKind (tk.take (k + 1)) 8 a b) := fun h1 h2 => by
            rw [s4, s8, if_neg h1, if_neg h2, List.append_nil, List.append_nil]
            exact hX
          by_cases h1 : t < a
          · have hn := hskip (fun h => by omega) (fun h => by omega)
            clear hskip
            go_wp2
            go_roundw
            case rel => exact ⟨k + 1, _, by omega, by simp, rfl, hn⟩
            case measure => simp [intOf] <;> omega
          · by_cases h2 : b ≤ t
            · have hn := hskip (fun h => by omega) (fun h => by omega)
              clear hskip
              go_wp2
              go_roundw
              case rel => exact ⟨k + 1, _, by omega, by simp, rfl, hn⟩
              case measure => simp [intOf] <;> omega
            · by_cases h4 : kd = 4
              · subst h4
                have c5 : (wr.alloc (.cells #[.int .i64 t, .int .i64 4, .slice (SA k) (SL k) (SC k)] 37)).cell? ⟨V.heap.size, 5, none⟩ = some (.int .i64 (((ofKind (tk.take k) 4 a b).length : Nat) : Int)) := hX.rep.cell (m := 5) (by decide)
                have f5 := hX.rep.fz 5
                have hw : IntKind.i64.wrap ((((ofKind (tk.take k) 4 a b).length : Nat) : Int) + 1) = (((ofKind (tk.take k) 4 a b).length + 1 : Nat) : Int) := by rw [IntKind.wrap_i64]; omega
                have hn := hX.set (m := 5) (by decide) ((((ofKind (tk.take k) 4 a b).length : Nat) : Int) + 1)
                have e4 : (((ofKind (tk.take (k + 1)) 4 a b).length : Nat) : Int) = (((ofKind (tk.take k) 4 a b).length : Nat) : Int) + 1 := by rw [s4, if_pos ⟨by omega, by omega, rfl⟩, List.length_append]; simp
                rw [pf5_set, show ofKind (tk.take k) 8 a b = ofKind (tk.take (k + 1)) 8 a b by rw [s8, if_neg (by omega), List.append_nil]] at hn
                clear hskip
                go_wp2
                go_roundw
                case rel =>
                  refine ⟨k + 1, _, by omega, by simp, rfl, ?_⟩
                  rw [e4]
                  exact hn
                case measure => simp [intOf] <;> omega
              · by_cases h8 : kd = 8
                · subst h8
                  clear hskip
                  have hX8 := hX.step (W' := (wr.alloc (.cells #[.int .i64 t, .int .i64 8, .slice (SA k) (SL k) (SC k)] 37)).alloc (.cells #[.int .i64 t] 3)) ((Below.refl _ _).alloc (Nat.le_refl _) _)
                  obtain ⟨i0, hi, hz0, hz1, hz2⟩ := info_parts info3
                  have hsX := hL.rep.size
                  rw [show ofKind (tk.take k) 4 a b = ofKind (tk.take (k + 1)) 4 a b by rw [s4, if_neg (by omega), List.append_nil]] at hX8
                  obtain ⟨zs, hzs⟩ : ∃ zs, ofKind (tk.take k) 8 a b = zs := ⟨_, rfl⟩
                  have s8' : ofKind (tk.take (k + 1)) 8 a b = zs ++ [t] := by rw [s8, if_pos ⟨by omega, by omega, rfl⟩, hzs]
                  rw [hzs] at hX8 l8
                  go_wp2_with (at_builtin; refine wpList_append_lies _ rfl _ _ 22 rfl (V.heap.size + 1) 3 i0 (.int .i64 0) 1 8 Tryd.underlying22 hi hz0 hz1 hz2 rfl (by decide) _ _ _ rfl hX8.own ⟨wr.heap.size + 1, 0, none⟩ 1 1 [.int .i64 t] rfl rfl (World.news_of_block (cs := #[.int .i64 t]) (t := 3) (fr := (0, 0)) (by first | exact heap_alloc_new _ _ | (have := heap_alloc_new (wr.alloc (.cells #[.int .i64 t, .int .i64 8, .slice (SA k) (SL k) (SC k)] 37)) (.cells #[.int .i64 t] 3); simpa using this))) (by intro u hu; simp only [List.mem_cons, List.not_mem_nil, or_false] at hu; subst hu; rfl) (by omega) (by unfold maxLen; omega) (by omega) (by simp; omega) (wr.heap.size + 2) (by simp) ?_; intro gg cap w1 hown2 hgrow hat hltg)
                  have hn := hX8.app (Below.refl _ _) hgrow rfl hown2
                  rw [← s8'] at hn
                  clear hgrow hown2 hX8 hX hL
                  go_roundw
                  case rel => exact ⟨k + 1, _, by omega, by simp, rfl, hn⟩
                  case measure => simp [intOf] <;> omega
                · have hn := hskip (fun h => h4 h.2.2) (fun h => h8 h.2.2)
                  clear hskip
                  go_wp2
                  go_roundw
                  case rel => exact ⟨k + 1, _, by omega, by simp, rfl, hn⟩
                  case measure => simp [intOf] <;> omega
        · obtain rfl : k = tk.length := by omega
          rw [List.take_length] at hL
          obtain ⟨al, cap, rfl, hcall⟩ := compact_any hL (by have := ofKind_len tk tk.length 8 a b; rw [List.take_length] at this; omega)
          clear hL hI hsc
          go_wp2_with (go_at_call 28; refine hcall.mono ?_)
          rintro u W2 ⟨rfl, hR⟩
          clear hcall
          have f6 := hR.fz 6
          have d6 := hR.cell (m := 6) (by decide)
          have hR7 := hR.set (m := 6) (by decide) (((Lib.compact (ofKind tk 8 a b)).length : Nat) : Int)
          have hF3 := hF.step hR7.below
          obtain ⟨W3, hW3⟩ : ∃ W3, W2.setCell ⟨V.heap.size, 6, none⟩ (.int .i64 (((Lib.compact (ofKind tk 8 a b)).length : Nat) : Int)) = W3 := ⟨_, rfl⟩
          rw [hW3] at hR7 hF3
          have q0 : W3.cell? ⟨V.heap.size, 0, none⟩ = some (.int .i64 (ticks sp sp.length 0)) := hR7.cell (m := 0) (by decide)
          have q1 : W3.cell? ⟨V.heap.size, 1, none⟩ = some (.int .i64 (ticks sp sp.length 1)) := hR7.cell (m := 1) (by decide)
          have q2 : W3.cell? ⟨V.heap.size, 2, none⟩ = some (.int .i64 (ticks sp sp.length 2)) := hR7.cell (m := 2) (by decide)
          have q3 : W3.cell? ⟨V.heap.size, 3, none⟩ = some (.int .i64 (ticks sp sp.length 3)) := hR7.cell (m := 3) (by decide)
          have q4 : W3.cell? ⟨V.heap.size, 4, none⟩ = some (.int .i64 wst) := hR7.cell (m := 4) (by decide)
          have q5 : W3.cell? ⟨V.heap.size, 5, none⟩ = some (.int .i64 (((ofKind tk 4 a b).length : Nat) : Int)) := hR7.cell (m := 5) (by decide)
          have q6 : W3.cell? ⟨V.heap.size, 6, none⟩ = some (.int .i64 (((Lib.compact (ofKind tk 8 a b)).length : Nat) : Int)) := hR7.cell (m := 6) (by decide)
          have o0 := hF3.out (m := 0) (by decide)
          have o1 := hF3.out (m := 1) (by decide)
          have o2 := hF3.out (m := 2) (by decide)
          have o3 := hF3.out (m := 3) (by decide)
          have o4 := hF3.out (m := 4) (by decide)
          have o5 := hF3.out (m := 5) (by decide)
          have o6 := hF3.out (m := 6) (by decide)
          have z0 := hF3.fz 0
          have z1 := hF3.fz 1
          have z2 := hF3.fz 2
          have z3 := hF3.fz 3
          have z4 := hF3.fz 4
          have z5 := hF3.fz 5
          have z6 := hF3.fz 6
          have hb := hF3.below
          clear hR hR7 hF3 hF
          subst hW3
          go_wp2
          refine bodyPost_ret (v := .tuple #[.agg #[.int .i64 (ticks sp sp.length 0), .int .i64 (ticks sp sp.length 1), .int .i64 (ticks sp sp.length 2), .int .i64 (ticks sp sp.length 3), .int .i64 wst, .int .i64 (((ofKind tk 4 a b).length : Nat) : Int), .int .i64 (((Lib.compact (ofKind tk 8 a b)).length : Nat) : Int)], .int .i64 0]) (by simp [results, Tryd.results14, go_sem, o0, o1, o2, o3, o4, o5, o6]) rfl ⟨rfl, ?_⟩
          repeat' (refine below_set ?_ (Nat.le_succ _) (Nat.le_refl _))
          exact hb

/-! ### Runs of equal numbers -/
def turns (x : Int) : List Int → Nat
  | [] => 0
  | y :: l => (if x = y then 0 else 1) + turns y l
theorem noDup_len : ∀ (x : Int) (l : List Int), (noDup (x :: l)).length = 1 + turns x l
  | x, [] => rfl
  | x, y :: l => by
    unfold noDup turns
    split
    · rw [noDup_len y l]; omega
    · rw [List.length_cons, noDup_len y l]; omega
theorem keeps_next (x y : Int) (l : List Int) (j : Nat) : Lib.keeps (x :: y :: l).toArray (j + 2) = Lib.keeps (y :: l).toArray (j + 1) := by
  unfold Lib.keeps
  simp
theorem keeps_turns : ∀ (x : Int) (l : List Int), ((List.range l.length).filter fun j => Lib.keeps (x :: l).toArray (j + 1)).length = turns x l
  | x, [] => rfl
  | x, y :: l => by
    have h := keeps_turns y l
    rw [List.length_cons, List.range_succ_eq_map, List.filter_cons, turns]
    have e1 : (List.filter (fun j => Lib.keeps (x :: y :: l).toArray (j + 1)) (List.map Nat.succ (List.range l.length))).length = turns y l := by
      rw [List.filter_map, List.length_map, ← h]
      exact congrArg List.length (List.filter_congr fun j _ => keeps_next x y l j)
    have e2 : Lib.keeps (x :: y :: l).toArray (0 + 1) = decide (¬ x = y) := by
      unfold Lib.keeps
      by_cases e : x = y
      · simp [e]
      · simp [e, Ne.symm e]
    rw [e2]
    by_cases e : x = y
    · simp only [e, not_true_eq_false, decide_false, if_false, if_true, Bool.false_eq_true]
      rw [e] at e1
      omega
    · simp only [e, not_false_eq_true, decide_true, if_true, if_false, List.length_cons]
      omega
theorem compact_len : ∀ l : List Int, (Lib.compact l).length = (noDup l).length
  | [] => rfl
  | x :: l => by
    rw [noDup_len, ← keeps_turns]
    unfold Lib.compact Lib.compactUpTo
    rw [List.length_map, List.length_cons, List.range_succ_eq_map, List.filter_cons]
    have e0 : Lib.keeps (x :: l).toArray 0 = true := by simp [Lib.keeps]
    rw [e0, if_pos rfl, List.length_cons, List.filter_map, List.length_map, Nat.add_comm]
    rfl

/-! ### The lists of values -/
theorem spansE_get : ∀ {l : List (List PV)} {sp : List (Int × Int × Int)}, spansE l = some sp → l.length = sp.length ∧ ∀ (j : Nat) x, sp[j]? = some x → l[j]? = some [.int .i64 x.1, .int .i64 x.2.1, .int .i64 x.2.2]
  | [], sp, h => by
    simp only [spansE, Option.some.injEq] at h
    subst h
    exact ⟨rfl, fun j x h => by simp at h⟩
  | e :: l, sp, h => by
    unfold spansE at h
    split at h
    · rename_i x r hx hr
      cases h
      obtain ⟨h1, h2⟩ := spansE_get hr
      refine ⟨by simp [h1], fun j y hy => ?_⟩
      cases j with
      | zero =>
        simp at hy
        subst hy
        unfold spanE at hx
        split at hx
        · cases hx; rfl
        · cases hx
      | succ j => simpa using h2 j y (by simpa using hy)
    · cases h
theorem tksE_get : ∀ {l : List (List PV)} {tk : List (Int × Int)}, tksE l = some tk → tk.length = l.length ∧ ∀ (j : Nat) x, tk[j]? = some x → ∃ n ws, l[j]? = some [.int .i64 x.1, .int .i64 x.2, .sl n ws]
  | [], tk, h => by
    simp only [tksE, Option.some.injEq] at h
    subst h
    exact ⟨rfl, fun j x h => by simp at h⟩
  | e :: l, tk, h => by
    unfold tksE at h
    split at h
    · rename_i x r hx hr
      cases h
      obtain ⟨h1, h2⟩ := tksE_get hr
      refine ⟨by simp [h1], fun j y hy => ?_⟩
      cases j with
      | zero =>
        simp at hy
        subst hy
        unfold tkE at hx
        split at hx
        · cases hx; exact ⟨_, _, rfl⟩
        · cases hx
      | succ j =>
        obtain ⟨n, ws, h3⟩ := h2 j y (by simpa using hy)
        exact ⟨n, ws, by simpa using h3⟩
    · cases h

def slA4 : Value → Option Addr | .slice a _ _ => a | _ => none
def slL4 : Value → Nat | .slice _ l _ => l | _ => 0
def slC4 : Value → Nat | .slice _ _ c => c | _ => 0
theorem vp_i64 {w : World} {O : Nat → Prop} {n : Int} {u : Value} (h : VP w O (.int .i64 n) u) : u = .int .i64 n := by cases h; rfl
theorem sl_form {w : World} {O : Nat → Prop} {sz : Nat} {es : List (List PV)} {u : Value} (h : VP w O (.sl sz es) u) : ∃ a c, u = .slice a es.length c ∧ ∀ (j : Nat) e, es[j]? = some e → ∃ B off, a = some ⟨B, off, none⟩ ∧ B < w.heap.size ∧ ∀ i c, e[i]? = some c → ∃ y, w.cell? ⟨B, off + j * sz + i, none⟩ = some y ∧ VP w O c y := by
  cases h with
  | sl0 _ a cap => exact ⟨a, cap, rfl, fun j e h => by simp at h⟩
  | sl _ _ b off cap f hb hO hc hz hcell hv => exact ⟨_, _, rfl, fun j e he => ⟨b, off, rfl, hb, fun i c hc => ⟨_, hcell j i e c he hc, hv j i e c he hc⟩⟩⟩

theorem okf_26 : hasN 26 E.okf = true := by kernel_rfl
theorem okf_27 : hasN 27 E.okf = true := by kernel_rfl

theorem spans_call {F : Fun} (hF : FSound E F) {args : List AV} {l : List (List PV)} {e : Int} (h : F 26 args [] = some ([.p (.sl 3 l), .p (.int .i64 e)], [])) {C : Ctx} (hok : Ok C) (hC : C.h = []) {W : World} (hg : Grow C.w W) {us : Array Value} (hv : All2 (VA C) args us.toList) :
    Calls E.P 26 us W fun u w' => ∃ la lc, u = .returned (.tuple #[.slice la l.length lc, .int .i64 e]) ∧ Below W.heap.size W w' ∧ ∀ (j : Nat) x, l[j]? = some x → ∃ B off, la = some ⟨B, off, none⟩ ∧ B < w'.heap.size ∧ ∀ (i : Nat) c, x[i]? = some c → ∃ y, w'.cell? ⟨B, off + j * 3 + i, none⟩ = some y ∧ ∃ O, VP w' O c y := by
  refine (FOk.at (hF.fn 26 args [] _ _ h okf_26) hok hC hg hv).mono fun e' w' ⟨u, he, D, hw, hx, _, _, hu⟩ => ?_
  subst he
  subst hw
  obtain ⟨us', rfl, ht⟩ := hu
  match hus : us'.toList, ht with
  | [y, z], ⟨h1, h2, _⟩ =>
    obtain ⟨a, c, rfl, hs⟩ := sl_form h1
    obtain rfl := vp_i64 h2
    refine ⟨a, c, by rw [← Array.toArray_toList (xs := us'), hus], below_ext hx hC (Nat.le_refl _), fun j x hj => ?_⟩
    obtain ⟨B, off, h3, h4, h5⟩ := hs j x hj
    exact ⟨B, off, h3, h4, fun i c hc => by
      obtain ⟨y, h6, h7⟩ := h5 i c hc
      exact ⟨y, h6, _, h7⟩⟩

theorem ticks_all (sp : List (Int × Int × Int)) {i : Nat} (h : i < 4) : ticks sp sp.length i = tick4 sp (i : Int) := by
  unfold ticks
  rw [if_pos h, List.take_length]

theorem worst_call {F : Fun} (hF : FSound E F) {l : List PV} {s : Int} (h : F 27 [.t (.agg l)] [] = some ([.p (.int .i64 s)], [])) {C : Ctx} (hok : Ok C) (hC : C.h = []) {W : World} (hg : Grow C.w W) {us : Array Value} (hv : All2 (VA C) [.t (.agg l)] us.toList) :
    Calls E.P 27 us W fun e w' => e = .returned (.int .i64 s) ∧ Below W.heap.size W w' := by
  refine (FOk.at (hF.fn 27 _ [] _ _ h okf_27) hok hC hg hv).mono fun e w' ⟨u, he, D, hw, hx, _, _, hu⟩ => ?_
  subst he
  refine ⟨congrArg _ (by cases hu; rfl), ?_⟩
  rw [← hw]
  exact below_ext hx hC (Nat.le_refl _)

def third (w : World) : Option Addr → Nat → Value
  | some a, j => (w.cell? ⟨a.block, a.off + j * 3 + 2, none⟩).getD Go.undef
  | none, _ => Go.undef
theorem ents_fun {w : World} {O : Nat → Prop} {sa : Option Addr} {es : List (List PV)} {tk : List (Int × Int)} (g4 : ∀ (j : Nat) x, tk[j]? = some x → ∃ n ws, es[j]? = some [.int .i64 x.1, .int .i64 x.2, .sl n ws])
    (hE : ∀ (j : Nat) e, es[j]? = some e → ∃ B off, sa = some ⟨B, off, none⟩ ∧ B < w.heap.size ∧ ∀ (i : Nat) c, e[i]? = some c → ∃ y, w.cell? ⟨B, off + j * 3 + i, none⟩ = some y ∧ VP w O c y) :
    ∃ f : Nat → Value, ∀ (j : Nat) x, tk[j]? = some x → ∃ B off, sa = some ⟨B, off, none⟩ ∧ B < w.heap.size ∧ w.cell? ⟨B, off + j * 3, none⟩ = some (.int .i64 x.1) ∧ w.cell? ⟨B, off + j * 3 + 1, none⟩ = some (.int .i64 x.2) ∧ w.cell? ⟨B, off + j * 3 + 2, none⟩ = some (.slice (slA4 (f j)) (slL4 (f j)) (slC4 (f j))) := by
  refine ⟨third w sa, fun j x hj => ?_⟩
  obtain ⟨m, ws, he⟩ := g4 j x hj
  obtain ⟨B, off, hs, hB, hcell⟩ := hE j _ he
  obtain ⟨y0, k0, v0⟩ := hcell 0 _ rfl
  obtain ⟨y1, k1, v1⟩ := hcell 1 _ rfl
  obtain ⟨y2, k2, v2⟩ := hcell 2 _ rfl
  have z0 := vp_i64 v0
  have z1 := vp_i64 v1
  obtain ⟨a2, c2, z2, _⟩ := sl_form v2
  subst z0 z1 z2
  refine ⟨B, off, hs, hB, k0, k1, ?_⟩
  have ht : third w sa j = .slice a2 ws.length c2 := by
    rw [hs]
    show (w.cell? ⟨B, off + j * 3 + 2, none⟩).getD Go.undef = _
    rw [k2]; rfl
  rw [ht, k2]
  rfl

set_option maxRecDepth 20000 in
set_option maxHeartbeats 1000000 in
theorem s_hOf : ∀ F, FSound E F → ∀ args rs, (hOf 26 27).run F args = some rs → FOk E 14 args [] rs [] := by
  intro F hF args rs h
  replace h : (ofT 26 27 args).run F = some rs := h
  unfold ofT at h
  split at h
  case h_2 => cases h
  rename_i es n a b
  simp only [Ask.run] at h
  split at h
  case h_2 => cases h
  rename_i r hr
  split at h
  case h_2 => cases h
  rename_i l e
  intro C hok hC us hv
  have hv0 := hv
  obtain ⟨u0, u1, u2, rfl, hu, h1, h2⟩ := three_args hv
  obtain rfl := vp_int h1
  obtain rfl := vp_int h2
  have hu0 := hu
  obtain ⟨cs0, rfl, hcs⟩ := hu
  obtain ⟨c0, rfl, p0⟩ : ∃ c0, cs0 = #[c0, .int .u64 n] ∧ C.P (.sl 3 es) c0 := by
    match hus : cs0.toList, hcs with
    | [c0, c1], ⟨g1, g2, _⟩ =>
      have : c1 = .int .u64 n := by cases g2; rfl
      exact ⟨c0, by rw [← Array.toArray_toList (xs := cs0), hus, this], g1⟩
  obtain ⟨sa, sc, rfl, hE⟩ := sl_form p0
  have hsp : ∀ W, Below C.w.heap.size C.w W → _ := fun W hW => spans_call hF hr hok hC (Grow.of_below hW) (us := #[.agg #[.slice sa es.length sc, .int .u64 n], .int .i64 1, .int .i64 a, .int .i64 b]) ⟨hu0, .int _ _, .int _ _, .int _ _, trivial⟩
  cases hce : (e != 0) with
  | true =>
    rw [hce] at h
    have h0 : e ≠ 0 := by simpa using hce
    simp only [cond_true, Ask.run, Option.some.injEq] at h
    subst h
    refine (of_walk sa es.length sc n a b e none 0 0 [] [] C.w (fun W hW => (hsp W hW).mono fun u w' ⟨la, lc, hu, hB, _⟩ => ⟨la, _, lc, hu, hB, fun e => absurd e h0⟩) h0).mono ?_
    rintro u w' ⟨rfl, hB⟩
    have hg := Grow.of_below hB
    exact ⟨C.setW w', rfl, ext_grow C hg, ok_grow hok hg, hC, _, rfl, ⟨_, rfl, .int _ _, .int _ _, .int _ _, .int _ _, .int _ _, .int _ _, .int _ _, trivial⟩, .int _ _, trivial⟩
  | false =>
    rw [hce] at h
    obtain rfl : e = 0 := by simpa using hce
    simp only [cond_false] at h
    split at h
    case h_2 => cases h
    rename_i sp tk hsl htk
    cases hc : (okSpans sp && Nat.ble tk.length 1000) with
    | false => rw [hc] at h; cases h
    | true =>
      rw [hc] at h
      simp only [cond_true] at h
      simp only [Bool.and_eq_true] at hc
      obtain ⟨hos, hlt⟩ := hc
      have hlt := Nat.le_of_ble_eq_true hlt
      obtain ⟨g1, g2⟩ := spansE_get hsl
      obtain ⟨g3, g4⟩ := tksE_get htk
      unfold Ask.int at h
      simp only [Ask.run] at h
      split at h
      case h_2 => cases h
      rename_i r2 hr2
      split at h
      case h_2 => cases h
      rename_i wst
      simp only [Ask.run, Option.some.injEq] at h
      subst h
      obtain ⟨f, hf⟩ := ents_fun g4 hE
      have e0 := ticks_all sp (i := 0) (by decide)
      have e1 := ticks_all sp (i := 1) (by decide)
      have e2 := ticks_all sp (i := 2) (by decide)
      have e3 := ticks_all sp (i := 3) (by decide)
      refine (of_good sa es.length sc n a b sp tk (fun j => slA4 (f j)) (fun j => slL4 (f j)) (fun j => slC4 (f j)) wst C.w hos g3 (by omega) hf (fun W hW => (hsp W hW).mono fun u w' ⟨la, lc, hu, hB, hs⟩ => ⟨la, lc, by rw [← g1]; exact hu, hB, fun j x hj => ?_⟩) (fun W hW => ?_)).mono ?_
      · obtain ⟨B, off, rfl, hB2, hcell⟩ := hs j _ (g2 j x hj)
        obtain ⟨y0, k0, _, v0⟩ := hcell 0 _ rfl
        obtain ⟨y1, k1, _, v1⟩ := hcell 1 _ rfl
        obtain ⟨y2, k2, _, v2⟩ := hcell 2 _ rfl
        obtain rfl := vp_i64 v0
        obtain rfl := vp_i64 v1
        obtain rfl := vp_i64 v2
        exact ⟨B, off, rfl, hB2, k0, k1, k2⟩
      · rw [e0, e1, e2, e3]
        exact worst_call hF hr2 hok hC (Grow.of_below hW) (us := #[.agg #[.int .i64 (tick4 sp (0 : Nat)), .int .i64 (tick4 sp (1 : Nat)), .int .i64 (tick4 sp (2 : Nat)), .int .i64 (tick4 sp (3 : Nat))]]) ⟨⟨_, rfl, .int _ _, .int _ _, .int _ _, .int _ _, trivial⟩, trivial⟩
      · rintro u w' ⟨rfl, hB⟩
        have hg := Grow.of_below hB
        rw [e0, e1, e2, e3, compact_len]
        exact ⟨C.setW w', rfl, ext_grow C hg, ok_grow hok hg, hC, _, rfl, ⟨_, rfl, .int _ _, .int _ _, .int _ _, .int _ _, .int _ _, .int _ _, .int _ _, trivial⟩, .int _ _, trivial⟩

end Go.Proofs.YtgdeaamklodkkaaDoor.Vm

/- strings.IndexAny of " \n" answers what its row says, at texts with lone bytes that are not ASCII, too. -/
namespace Go.Proofs.YtgdeaamklodkkaaDoor.Vm
open Go Go.Proofs Go.RowKit
set_option linter.unusedVariables false
set_option linter.unusedSimpArgs false

/-- The bytes looked for. -/
def SpNl : ByteArray := ⟨#[32, 10]⟩

theorem decode_alone (s : ByteArray) (pos : Nat) (h : pos < s.size) (ha : 128 ≤ (s[pos]'h).toNat) (hn : ∀ h' : pos + 1 < s.size, (s[pos + 1]'(h')).toNat < 128) : Utf8.decode s pos = (65533, 1) := by
  have e0 : ¬ (s.get! (pos + 0)).toNat < 128 := by rw [get_at s pos h]; omega
  have e1 : (decide (pos + 1 < s.size) && (s.get! (pos + 1)).toNat / 64 == 2) = false := by
    by_cases h1 : pos + 1 < s.size
    · have h2 := hn h1
      have : s.get! (pos + 1) = s[pos + 1]'h1 := get_at s (pos + 1) h1
      rw [this]
      have : (s[pos + 1]'h1).toNat / 64 < 2 := by omega
      simp [h1]; omega
    · simp [h1]
  simp only [Utf8.decode, e0, e1, Bool.and_false, Bool.false_and, if_false, Bool.false_eq_true]
  rfl

theorem iterAt_below {B : Nat} {w W : World} (h : Below B w W) (k : Nat) (s : ByteArray) (pos : Nat) (hk : B ≤ k) : Below B w (W.iterAt k s pos) :=
  ⟨h.os, h.tape, h.output, by show w.heap.size ≤ (W.heap.setIfInBounds k _).size; rw [Array.size_setIfInBounds]; exact h.size, fun b hb => by
    show (W.heap.setIfInBounds k _)[b]? = _
    rw [Array.getElem?_setIfInBounds_ne (by omega)]
    exact h.block b hb⟩

theorem iter_below (w : World) (s : ByteArray) (pos : Nat) : Below w.heap.size w (w.iter s pos) := (Below.refl _ w).alloc (Nat.le_refl _) _

set_option maxHeartbeats 4000000 in
set_option maxRecDepth 100000 in
theorem rune_err (w : World) : Calls Tryd.prog 49 #[.string SpNl, .int .i32 65533] w fun e w' => e = .returned (.int .i64 (-1)) ∧ Below w.heap.size w w' := by
  have n0 : ∀ ty, (Instr.next (.pointer (some ⟨w.heap.size, 0, none⟩)) true ty).run Tryd.prog (w.iter SpNl 0) = .ok (.tuple #[.bool true, .int .i64 0, .int .i32 32]) (w.iter SpNl 1) := fun ty => run_next_ascii (P := Tryd.prog) w SpNl 0 ty (by decide) (by decide)
  have n1 : ∀ ty, (Instr.next (.pointer (some ⟨w.heap.size, 0, none⟩)) true ty).run Tryd.prog (w.iter SpNl 1) = .ok (.tuple #[.bool true, .int .i64 1, .int .i32 10]) (w.iter SpNl 2) := fun ty => run_next_ascii (P := Tryd.prog) w SpNl 1 ty (by decide) (by decide)
  have n2 : ∀ ty, (Instr.next (.pointer (some ⟨w.heap.size, 0, none⟩)) true ty).run Tryd.prog (w.iter SpNl 2) = .ok (.tuple #[.bool false]) (w.iter SpNl 2) := fun ty => run_next_end (P := Tryd.prog) w SpNl 2 ty (by decide)
  obtain ⟨S, hS⟩ : ∃ S, SpNl = S := ⟨_, rfl⟩
  rw [hS] at n0 n1 n2 ⊢
  go_enter Tryd.func49, Tryd.ntmps49
  go_wp2
  go_loopg [5, 6] 2 (fun g _ _ wx => ∃ i : Nat, i + g = 2 ∧ wx = w.iter S i)
  case atStart => exact ⟨0, rfl, rfl⟩
  case round =>
    obtain ⟨i, hig, rfl⟩ := hrel
    cases gk with
    | zero =>
      obtain rfl : i = 2 := by omega
      go_wp2
      go_ret
      exact ⟨rfl, iter_below w S 2⟩
    | succ g =>
      have key : i = 0 ∨ i = 1 := by omega
      rcases key with rfl | rfl
      · go_wp2
        go_roundg g
        case measure => omega
        case rel => exact ⟨1, by omega, rfl⟩
      · go_wp2
        go_roundg g
        case measure => omega
        case rel => exact ⟨2, by omega, rfl⟩

theorem alone_get : ∀ {l : List UInt8}, aloneB l = true → ∀ (i : Nat) b c, l[i]? = some b → l[i + 1]? = some c → 128 ≤ b.toNat → c.toNat < 128
  | [], _, i, b, c, h, _, _ => by simp at h
  | [x], _, i, b, c, h, h2, _ => by simp at h2
  | x :: y :: l, ha, i, b, c, h, h2, hb => by
    unfold aloneB at ha
    simp only [Bool.and_eq_true, Bool.not_eq_true'] at ha
    cases i with
    | zero =>
      simp at h h2
      subst h h2
      have h1 := ha.1
      rw [Nat.ble_eq_true_of_le hb, Bool.true_and] at h1
      rcases Nat.lt_or_ge y.toNat 128 with h3 | h3
      · exact h3
      · rw [Nat.ble_eq_true_of_le h3] at h1; cases h1
    | succ i => exact alone_get ha.2 i b c (by simpa using h) (by simpa using h2) hb

set_option maxHeartbeats 8000000 in
set_option maxRecDepth 100000 in
theorem idx_short (s : ByteArray) (w : World) (h8 : s.size ≤ 8) (hal : aloneB s.data.toList = true) :
    Calls Tryd.prog 39 #[.string s, .string SpNl] w fun e w' => e = .returned (.int .i64 (Lib.indexAny s.data.toList SpNl.data.toList)) ∧ Below w.heap.size w w' := by
  have hemp : SpNl.toList.isEmpty = false := by rw [Lib.toList_data]; rfl
  have hsz : SpNl.size = 2 := rfl
  have hcs : ∀ x : UInt8, 128 ≤ x.toNat → SpNl.data.toList.contains x = false := by
    intro x hx
    cases h : SpNl.data.toList.contains x with
    | false => rfl
    | true =>
      have : x = 32 ∨ x = 10 := by simpa [SpNl] using h
      rcases this with rfl | rfl <;> exact absurd hx (by decide)
  have herr := rune_err
  obtain ⟨C, hC⟩ : ∃ C, SpNl = C := ⟨_, rfl⟩
  rw [hC] at hemp hsz hcs herr ⊢
  clear hC
  have hn1 : ((C.size : Int) == 1) = false := beq_eq_false_iff_ne.2 (by omega)
  have h8z : decide ((8 : Int) < (s.size : Int)) = false := decide_eq_false (by omega)
  go_enter Tryd.func39, Tryd.ntmps39
  go_wp2_with (go_at_call 50; refine (Any.strings_shouldUseASCIISet (P := Tryd.prog) (ρ := Tryd.lays153_ren) { Tryd.lays153 with } _ _).mono ?_; rintro e w' ⟨rfl, hw⟩; rw [hw, h8z])
  go_loopg [9, 10] s.size (fun g _ _ wx => ∃ i : Nat, i + g = s.size ∧ wx.heap[w.heap.size]? = some (.stringIter s i) ∧ Below w.heap.size w wx ∧ Lib.NoAny s.data.toList C.data.toList i)
  case atStart => exact ⟨0, by omega, World.iter_heap w s 0, iter_below w s 0, Lib.NoAny.zero _ _⟩
  case round =>
    obtain ⟨i, hig, hit, hB, hno⟩ := hrel
    have HN : Aside (Lib.NoAny s.data.toList C.data.toList i) := hno
    clear hno
    cases gk with
    | zero =>
      obtain rfl : i = s.size := by omega
      have hnx := fun ty => Lib.run_next_end_at (P := Tryd.prog) wr w.heap.size s s.size ty hit (by omega)
      go_wp2
      go_ret
      exact ⟨by rw [Lib.indexAny_none (by rw [← Lib.size_eq]; exact HN.out)]; rfl, hB⟩
    | succ g =>
      have hi : i < s.size := by omega
      obtain ⟨x, hx⟩ : ∃ x : UInt8, s[i]'hi = x := ⟨_, rfl⟩
      have hxl : s.data.toList[i]? = some x := by rw [← hx]; exact Lib.data_getElem? s i hi
      have Hx : Aside (s.data.toList[i]? = some x) := hxl
      by_cases h128 : x.toNat < 128
      · have hnx := fun ty => Lib.run_next_ascii_at (P := Tryd.prog) wr w.heap.size s i ty hit hi (by rw [hx]; exact h128)
        rw [hx] at hnx
        clear hxl hx
        have hit2 := Lib.iterAt_heap wr w.heap.size s i (i + 1) hit
        have hB2 := iterAt_below hB w.heap.size s (i + 1) (Nat.le_refl _)
        have hcon := Lib.contains_iff_indexByte C.data.toList x
        have hback : ((x.toNat : Int)).toNat.toUInt8 = x := by simp
        cases hin : C.data.toList.contains x
        · rw [hin] at hcon
          have hlt : ¬ ((0 : Int) ≤ Lib.indexByte C.data.toList x) := of_decide_eq_false hcon.symm
          clear hcon
          go_wp2_with (go_at_call 49; refine (Any.strings_IndexRune_ascii (P := Tryd.prog) (ρ := Tryd.lays153_ren) { Tryd.lays153 with } _ _ _ (by omega) (by omega)).mono ?_; rintro e w' ⟨rfl, hw⟩; rw [hw, hback])
          go_roundg g
          case measure => omega
          case rel => exact ⟨i + 1, by omega, hit2, hB2, HN.out.succ Hx.out hin⟩
        · rw [hin] at hcon
          have hge : (0 : Int) ≤ Lib.indexByte C.data.toList x := of_decide_eq_true hcon.symm
          clear hcon
          go_wp2_with (go_at_call 49; refine (Any.strings_IndexRune_ascii (P := Tryd.prog) (ρ := Tryd.lays153_ren) { Tryd.lays153 with } _ _ _ (by omega) (by omega)).mono ?_; rintro e w' ⟨rfl, hw⟩; rw [hw, hback])
          go_ret
          exact ⟨by rw [Lib.indexAny_hit HN.out Hx.out hin]; rfl, hB2⟩
      · have hd : Utf8.decode s i = (65533, 1) := decode_alone s i hi (by rw [hx]; omega) (fun h' => by
          have h2 : s.data.toList[i + 1]? = some (s[i + 1]'(h')) := Lib.data_getElem? s (i + 1) h'
          exact alone_get hal i x _ hxl h2 (by omega))
        have hnx : ∀ ty, (Instr.next (.pointer (some ⟨w.heap.size, 0, none⟩)) true ty).run Tryd.prog wr = .ok (.tuple #[.bool true, .int .i64 i, .int .i32 65533]) (wr.iterAt w.heap.size s (i + 1)) := fun ty => by
          have := Lib.run_next_any_at (P := Tryd.prog) wr w.heap.size s i ty hit hi
          rw [hd] at this
          exact this
        clear hxl hx hd
        have hit2 := Lib.iterAt_heap wr w.heap.size s i (i + 1) hit
        have hB2 := iterAt_below hB w.heap.size s (i + 1) (Nat.le_refl _)
        have hlt := (Array.getElem?_eq_some_iff.1 hit2).1
        go_wp2_with (go_at_call 49; refine (herr _).mono ?_; rintro e w' ⟨rfl, hB3⟩)
        go_roundg g
        case measure => omega
        case rel => exact ⟨i + 1, by omega, (hB3.block _ hlt).trans hit2, hB2.trans (hB3.mono hB2.size), HN.out.succ Hx.out (hcs x (by omega))⟩

theorem idxAny_eq : ∀ s cs : List UInt8, Lib.indexAny s cs = idxAny s cs
  | [], _ => rfl
  | b :: l, cs => by
    unfold Lib.indexAny idxAny
    rw [idxAny_eq l cs]

theorem s_pIndexAny : ∀ args rs, pIndexAny args = some rs → FOk E 39 args [] rs [] := by
  intro args rs h
  unfold pIndexAny at h
  split at h
  · rename_i s cs
    split at h
    · rename_i hc
      cases h
      simp only [Bool.and_eq_true, beq_iff_eq] at hc
      obtain ⟨⟨h1, h3⟩, h4⟩ := hc
      subst h1
      have h3 := Nat.le_of_ble_eq_true h3
      refine prim_ok rfl fun C hok us hv => ?_
      obtain ⟨u, v, rfl, g1, g2⟩ := two_args hv
      rw [vp_str g1, vp_str g2]
      have key : Calls Tryd.prog 39 #[.string ⟨s.toArray⟩, .string SpNl] C.w fun e w' => e = .returned (.int .i64 (Lib.indexAny s SpNl.data.toList)) ∧ Below C.w.heap.size C.w w' := by
        rcases Nat.lt_or_ge 8 s.length with h8 | h8
        · have z := zero_of_info (P := Tryd.prog) (t := Tryd.lays153_ren.t 116) (show (Tryd.prog.info? (Tryd.lays153_ren.t 116)).map (fun i => (i.zero, i.size)) = some (some (.agg (Array.replicate 256 (.bool false))), 256) by kernel_rfl)
          refine (Any.strings_IndexAny_long Tryd.lays153 z.1 z.2 ⟨s.toArray⟩ SpNl C.w (by decide) h8 (by show s.length < _; omega) (by decide) (fun j b hb => ?_)).mono ?_
          · match j, hb with
            | 0, hb => cases hb; decide
            | 1, hb => cases hb; decide
            | j + 2, hb => simp [SpNl] at hb
          · rintro e w' ⟨h1, h2⟩
            refine ⟨h1, ?_⟩
            rw [h2]
            exact ((Below.refl _ _).alloc (Nat.le_refl _) _).alloc (by simp) _
        · exact idx_short ⟨s.toArray⟩ C.w h8 h4
      refine key.mono fun e w' ⟨he, hw⟩ => ?_
      subst he
      refine ⟨_, rfl, Grow.of_below hw, ?_⟩
      rw [idxAny_eq]
      exact .int _ _
    · cases h
  · cases h

end Go.Proofs.YtgdeaamklodkkaaDoor.Vm
