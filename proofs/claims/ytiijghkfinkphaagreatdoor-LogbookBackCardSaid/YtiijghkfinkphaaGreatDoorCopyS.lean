import Derived.Test.YtiijghkfinkphaaGreatDoorEnv
import Derived.Test.YtiijghkfinkphaaGreatDoorVm35
import Derived.OwnWalkIn
import Derived.WalkKit
import Derived.Tactics
import Derived.Tactics2
import Derived.WalkSpells
import Derived.StillTactics
import Derived.OwnWalk
import Derived.Laws.Pointers
import Derived.Deep.RegionLaw
import Derived.Lib.BufferWrite
import Derived.Deep.AppendLies
import Derived.KernelRfl
import Derived.Below
import Derived.RangeFuncNested
import Derived.RangeFuncBound
import Derived.RangeFuncCalls
import Derived.RangeFuncLeaves
import Derived.Shelf.Abstract
import Derived.TacticsInMore
import Derived.LoopNIn
import Derived.LoopIn
import Derived.Test.YtiijghkfinkphaaGreatDoorProg
import Derived.Test.YtiijghkfinkphaaGreatDoorPrims
import Derived.RegionIn
import Derived.Lib.IndexLaws
import Derived.BigRegionIn
/- logbook.Copy, walked. -/
namespace Go.Proofs.YtiijghkfinkphaaGreatDoor.Vm
open Go Go.Proofs Go.RowKit
set_option linter.unusedVariables false
set_option linter.unusedSimpArgs false

def Ctx.hide (C : Ctx) (W : World) (Y : Nat → Prop) : Ctx := { w := W, ι := C.ι, h := C.h, X := fun b => C.X b ∨ Y b }
theorem no_own {C : Ctx} (hC : C.h = []) (b : Nat) : ¬ C.own b := by
  rintro ⟨id, blk, hl, _⟩
  unfold live at hl
  rw [hC] at hl
  cases hl
theorem ok_hide {C : Ctx} (hok : Ok C) (hC : C.h = []) {W : World} (hg : Grow C.w W) {Y : Nat → Prop} (hY : ∀ b, Y b → b < W.heap.size) : Ok (C.hide W Y) := by
  have h1 := ok_grow hok hg
  have hn : ∀ b, ¬ (C.hide W Y).own b := no_own (C := C.hide W Y) hC
  refine ⟨⟨fun b hb => ⟨(h1.gr.low b hb).1, hn b⟩, h1.gr.at_⟩, fun id b hl => ?_, fun id id' n b b' hl => ?_, fun n hn' => ⟨?_, hn n⟩⟩
  · exact absurd hl (by unfold live; rw [show (C.hide W Y).h = [] from hC]; intro h; cases h)
  · exact absurd hl (by unfold live; rw [show (C.hide W Y).h = [] from hC]; intro h; cases h)
  · rcases hn' with h | h
    · exact (h1.x n h).1
    · exact hY n h
theorem P_hide {C : Ctx} (hC : C.h = []) {W : World} (hg : Grow C.w W) {Y : Nat → Prop} (hY : ∀ b, Y b → C.w.heap.size ≤ b) {v : PV} {u : Value} (h : C.P v u) : (C.hide W Y).P v u :=
  VP.ext hg.size (fun b hb _ => hg.keep b hb) (fun b hb ho => by
    rcases ho with (h | h) | h
    · exact .inl h
    · have := hY b h; omega
    · exact absurd h (no_own (C := C.hide W Y) hC b)) h
theorem FOk.atX {f : Nat} {args : List AV} {rs : List RV} (h : FOk E f args [] rs []) {C : Ctx} (hok : Ok C) (hC : C.h = []) {W : World} (hg : Grow C.w W) {Y : Nat → Prop} (hY : ∀ b, Y b → b < W.heap.size) {us : Array Value} (hv : All2 (VA (C.hide W Y)) args us.toList) :
    Calls E.P f us W fun e w' => ∃ u, e = .returned u ∧ ∃ D : Ctx, D.w = w' ∧ Ext (C.hide W Y) D ∧ Ok D ∧ D.h = (rawB rs).map Ent.blk ∧ VA D (valOf (rawT 0 rs)) u := by
  have h1 := h (C.hide W Y) (ok_hide hok hC hg hY) hC us hv
  refine h1.mono fun e w' h => ?_
  cases e with
  | returned u =>
    obtain ⟨D, e1, e2, e3, e4, e5⟩ := h
    exact ⟨u, rfl, D, e1, e2, e3, e4, e5⟩
  | _ => exact h.elim

def rowF (T K : Nat → Int) (Cs : Nat → Value) (n : Nat) : List Value := ((List.range n).map fun j => [Value.int .i64 (T j), .int .i64 (K j), Cs j]).flatten
theorem rowF_succ (T K : Nat → Int) (Cs : Nat → Value) (n : Nat) : rowF T K Cs (n + 1) = rowF T K Cs n ++ [.int .i64 (T n), .int .i64 (K n), Cs n] := by simp [rowF, List.range_succ]
theorem rowF_congr {T K : Nat → Int} {Cs Cs' : Nat → Value} {n : Nat} (h : ∀ j, j < n → Cs j = Cs' j) : rowF T K Cs n = rowF T K Cs' n := by
  unfold rowF
  congr 1
  apply List.map_congr_left
  intro j hj
  rw [h j (List.mem_range.1 hj)]

theorem info51 : (Tryz.prog.info? 51).map (fun i => (i.zero, i.size, i.bytes)) = some (some (.agg #[.int .i64 0, .int .i64 0, .slice none 0 0]), 3, 40) := by kernel_rfl

def Keeps (R : (Nat → Prop) → Value → World → Prop) : Prop := ∀ (Y Y' : Nat → Prop) c W W', R Y c W → W.heap.size ≤ W'.heap.size → (∀ b, b < W.heap.size → ¬ Y b → W'.heap[b]? = W.heap[b]?) → (∀ b, b < W.heap.size → Y' b → Y b) → R Y' c W'

def Mine (v : Value) (p : Nat) (b : Nat) : Prop := v.ownBlock = some b ∨ b + 1 = p ∨ b = p

theorem add0 (b o j : Nat) : (⟨b, o, none⟩ : Addr).add j = ⟨b, o + j, none⟩ := by
  unfold Addr.add
  split <;> simp_all

theorem below_grown {B : Nat} {w w' w2 : World} {row : Option Nat} (h : Below B w w') (hg : w'.grownBy w2 row) (hB : B ≤ w'.heap.size) (hr : ∀ k, row = some k → B ≤ k) : Below B w w2 where
  os := hg.os.trans h.os
  tape := hg.tape.trans h.tape
  output := hg.output.trans h.output
  size := Nat.le_trans h.size hg.size
  block k hk := (hg.block k (by omega) (fun e => by have := hr k e.symm; omega)).trans (h.block k hk)

def CopyRel (T K : Nat → Int) (sm : Int) (R : Nat → (Nat → Prop) → Value → World → Prop) (w : World) (k : Nat) (v : Value) (Cs : Nat → Value) (wr : World) : Prop :=
  wr.heap[w.heap.size + 1]? = some (.cells #[.slice none 0 0, .int .u64 0] 32 (0, 0)) ∧ wr.cell? ⟨w.heap.size + 2, 0, none⟩ = some v ∧ wr.cell? ⟨w.heap.size + 2, 1, none⟩ = some (.int .u64 sm) ∧ wr.frozen? ⟨w.heap.size + 2, 0, none⟩ = false ∧
    wr.ownsRow (w.heap.size + 3) 51 3 v k (rowF T K Cs k) ∧ (∀ j, j < k → (Cs j).oneCell' = true ∧ R j (Mine v (w.heap.size + 2)) (Cs j) wr) ∧ Below w.heap.size w wr ∧ w.heap.size + 3 ≤ wr.heap.size

theorem copy_next {T K : Nat → Int} {sm : Int} {R : Nat → (Nat → Prop) → Value → World → Prop} (hR : ∀ k, Keeps (R k)) {w wr w' w1 : World} {k : Nat} {v : Value} {Cs : Nat → Value} (h : CopyRel T K sm R w k v Cs wr)
    (hB' : Below wr.heap.size wr w') {c : Value} (hc1 : c.oneCell' = true) (hRk : R k (Mine v (w.heap.size + 2)) c w') {o : Obj} (hgrow : (w'.alloc o).grownBy w1 v.ownBlock) {gg cap : Nat}
    (hown2 : w1.ownsRow (w.heap.size + 3) 51 3 (.slice (some ⟨gg, 0, none⟩) (k + 1) cap) (k + 1) (rowF T K Cs k ++ [.int .i64 (T k), .int .i64 (K k), c])) (hat : v.ownBlock = some gg ∨ gg = w'.heap.size + 1) :
    CopyRel T K sm R w (k + 1) (.slice (some ⟨gg, 0, none⟩) (k + 1) cap) (fun j => if j = k then c else Cs j) (w1.setCell ⟨w.heap.size + 2, 0, none⟩ (.slice (some ⟨gg, 0, none⟩) (k + 1) cap)) := by
  obtain ⟨hb1, hx0, hx1, hf0, hown, hRs, hB, hsz⟩ := h
  have hs' := hB'.size
  have hs1 : w'.heap.size + 1 ≤ w1.heap.size := by have := hgrow.size; simpa using this
  have hvb : ∀ b, v.ownBlock = some b → w.heap.size + 3 ≤ b ∧ b < wr.heap.size := fun b hb => hown.lt b hb
  have hg3 : w.heap.size + 3 ≤ gg := (hown2.lt gg rfl).1
  have same1 : ∀ b, b < w'.heap.size → v.ownBlock ≠ some b → w1.heap[b]? = w'.heap[b]? := fun b hb hne => (hgrow.block b (by simp; omega) (Ne.symm hne)).trans (heap_alloc_old w' o hb)
  have same : ∀ b, b < wr.heap.size → v.ownBlock ≠ some b → w1.heap[b]? = wr.heap[b]? := fun b hb hne => (same1 b (by omega) hne).trans (hB'.block b hb)
  have hp := same (w.heap.size + 2) (by omega) (fun h => by have := (hvb _ h).1; omega)
  obtain ⟨F, hF⟩ : ∃ F, w1.setCell ⟨w.heap.size + 2, 0, none⟩ (.slice (some ⟨gg, 0, none⟩) (k + 1) cap) = F := ⟨_, rfl⟩
  have hgF : w1.grownBy F (some (w.heap.size + 2)) := by rw [← hF]; exact Lib.grownBy_setCell w1 _ _ _
  have sF : F.heap.size = w1.heap.size := by rw [← hF]; simp [World.setCell]
  have sameF : ∀ b, b < w'.heap.size → v.ownBlock ≠ some b → b ≠ w.heap.size + 2 → F.heap[b]? = w'.heap[b]? := fun b hb h1 h2 => (hgF.block b (by omega) (fun e => h2 (by simpa using e))).trans (same1 b hb h1)
  have sameF' : ∀ b, b < wr.heap.size → v.ownBlock ≠ some b → b ≠ w.heap.size + 2 → F.heap[b]? = wr.heap[b]? := fun b hb h1 h2 => (sameF b (by omega) h1 h2).trans (hB'.block b hb)
  rw [hF]
  refine ⟨?_, ?_, ?_, ?_, ?_, ?_, ?_, by omega⟩
  · rw [sameF' (w.heap.size + 1) (by omega) (fun h => by have := (hvb _ h).1; omega) (by omega)]; exact hb1
  · rw [← hF]; exact World.cell?_setCell_same _ _ _ ((World.cell?_of_block (a := ⟨w.heap.size + 2, 0, none⟩) hp).trans hx0)
  · rw [← hF, World.cell?_setCell_other _ _ _ _ (by simp)]; exact (World.cell?_of_block (a := ⟨w.heap.size + 2, 1, none⟩) hp).trans hx1
  · rw [← hF, World.frozen?_setCell]; exact (World.frozen?_of_block (a := ⟨w.heap.size + 2, 0, none⟩) hp).trans hf0
  · rw [rowF_succ, if_pos rfl, rowF_congr (Cs' := Cs) (fun j hj => if_neg (by omega))]
    exact hown2.kept hgF (.inr (by simp [Value.ownBlock]; omega))
  · intro j hj
    have hY : ∀ b, b < w'.heap.size → Mine (.slice (some ⟨gg, 0, none⟩) (k + 1) cap) (w.heap.size + 2) b → Mine v (w.heap.size + 2) b := fun b hb hm => by
      rcases hm with hm | hm
      · have : gg = b := by simpa [Value.ownBlock] using hm
        subst this
        rcases hat with h | h
        · exact .inl h
        · omega
      · exact .inr hm
    by_cases hjk : j = k
    · subst hjk
      simp only [if_true]
      exact ⟨hc1, hR j _ _ _ _ _ hRk (by omega) (fun b hb hn => sameF b hb (fun h => hn (.inl h)) (fun h => hn (.inr (.inr h)))) hY⟩
    · simp only [if_neg hjk]
      obtain ⟨a1, a2⟩ := hRs j (by omega)
      exact ⟨a1, hR j _ _ _ _ _ a2 (by omega) (fun b hb hn => sameF' b hb (fun h => hn (.inl h)) (fun h => hn (.inr (.inr h)))) (fun b hb hm => hY b (by omega) hm)⟩
  · have h1 := below_grown ((hB.trans (hB'.mono hB.size)).alloc (by have := hB.size; omega) o) hgrow (by simp; have := hB.size; omega) (fun k hk => by have := (hvb k hk).1; omega)
    exact below_grown h1 hgF h1.size (fun k hk => by simp only [Option.some.injEq] at hk; omega)

theorem copy_start {T K : Nat → Int} {sm : Int} {R : Nat → (Nat → Prop) → Value → World → Prop} {w : World} (sv : Value) :
    CopyRel T K sm R w 0 (.slice none 0 0) (fun _ => .slice none 0 0) (((w.alloc (.cells #[sv, .int .u64 sm] 32)).alloc (.cells #[.slice none 0 0, .int .u64 0] 32)).alloc (.cells #[.slice none 0 0, .int .u64 sm] 32)) := by
  obtain ⟨A, hA⟩ : ∃ A, w.alloc (.cells #[sv, .int .u64 sm] 32) = A := ⟨_, rfl⟩
  obtain ⟨B, hB⟩ : ∃ B, A.alloc (.cells #[.slice none 0 0, .int .u64 0] 32) = B := ⟨_, rfl⟩
  obtain ⟨C, hC⟩ : ∃ C, B.alloc (.cells #[.slice none 0 0, .int .u64 sm] 32) = C := ⟨_, rfl⟩
  rw [hA, hB, hC]
  have sA : A.heap.size = w.heap.size + 1 := by rw [← hA]; simp
  have sB : B.heap.size = w.heap.size + 2 := by rw [← hB]; simp [sA]
  have sC : C.heap.size = w.heap.size + 3 := by rw [← hC]; simp [sB]
  have bA : Below w.heap.size w A := by rw [← hA]; exact (Below.refl _ w).alloc (Nat.le_refl _) _
  have bB : Below w.heap.size w B := by rw [← hB]; exact bA.alloc (by omega) _
  have bC : Below w.heap.size w C := by rw [← hC]; exact bB.alloc (by omega) _
  have h1 : C.heap[w.heap.size + 1]? = some (.cells #[.slice none 0 0, .int .u64 0] 32 (0, 0)) := by
    rw [← hC, heap_alloc_old B _ (by omega), ← hB, ← sA]
    exact heap_alloc_new A _
  have h2 : C.heap[w.heap.size + 2]? = some (.cells #[.slice none 0 0, .int .u64 sm] 32 (0, 0)) := by
    rw [← hC, ← sB]
    exact heap_alloc_new B _
  refine ⟨h1, by simp [World.cell?, h2], by simp [World.cell?, h2], by simp [World.frozen?, h2], ?_, fun j hj => absurd hj (by omega), bC, by omega⟩
  exact World.ownsRow_nil _ _ _ _

theorem owns_base {w : World} {b b' : Nat} {e : TypeId} {size : Nat} {v : Value} {n : Nat} {xs : List Value} (h : w.ownsRow b e size v n xs) (hb : b' ≤ b) : w.ownsRow b' e size v n xs := by
  refine ⟨h.1, h.2.imp id ?_⟩
  rintro ⟨g, cap, cur, h1, h2, h3⟩
  exact ⟨g, cap, cur, h1, by omega, h3⟩
theorem copy_end {T K : Nat → Int} {sm : Int} {R : Nat → (Nat → Prop) → Value → World → Prop} (hR : ∀ k, Keeps (R k)) {w wr : World} {k : Nat} {v : Value} {Cs : Nat → Value} (h : CopyRel T K sm R w k v Cs wr) (x y : Value) :
    ((wr.setCell ⟨w.heap.size + 1, 0, none⟩ x).setCell ⟨w.heap.size + 1, 1, none⟩ y).ownsRow w.heap.size 51 3 v k (rowF T K Cs k) ∧ (∀ j, j < k → (Cs j).oneCell' = true ∧ R j (fun b => v.ownBlock = some b) (Cs j) ((wr.setCell ⟨w.heap.size + 1, 0, none⟩ x).setCell ⟨w.heap.size + 1, 1, none⟩ y)) ∧
      Below w.heap.size w ((wr.setCell ⟨w.heap.size + 1, 0, none⟩ x).setCell ⟨w.heap.size + 1, 1, none⟩ y) := by
  obtain ⟨hb1, hx0, hx1, hf0, hown, hRs, hB, hsz⟩ := h
  obtain ⟨G, hG⟩ : ∃ G, wr.setCell ⟨w.heap.size + 1, 0, none⟩ x = G := ⟨_, rfl⟩
  obtain ⟨F, hF⟩ : ∃ F, G.setCell ⟨w.heap.size + 1, 1, none⟩ y = F := ⟨_, rfl⟩
  rw [hG, hF]
  have g1 : wr.grownBy G (some (w.heap.size + 1)) := by rw [← hG]; exact Lib.grownBy_setCell wr _ _ _
  have g2 : G.grownBy F (some (w.heap.size + 1)) := by rw [← hF]; exact Lib.grownBy_setCell G _ _ _
  have hvb : ∀ b, v.ownBlock = some b → w.heap.size + 3 ≤ b ∧ b < wr.heap.size := fun b hb => hown.lt b hb
  have hne : v.ownBlock = none ∨ v.ownBlock ≠ some (w.heap.size + 1) := .inr fun h => by have := (hvb _ h).1; omega
  have s1 := g1.size
  have s2 := g2.size
  refine ⟨owns_base ((hown.kept g1 hne).kept g2 hne) (by omega), fun j hj => ?_, below_grown (below_grown hB g1 hB.size (fun k hk => by simp only [Option.some.injEq] at hk; omega)) g2 (Nat.le_trans hB.size s1) (fun k hk => by simp only [Option.some.injEq] at hk; omega)⟩
  obtain ⟨a1, a2⟩ := hRs j hj
  refine ⟨a1, hR j (Mine v (w.heap.size + 2)) _ _ _ _ a2 (by omega) (fun b hb hn => ?_) (fun b hb h => .inl h)⟩
  have hbn : some b ≠ some (w.heap.size + 1) := fun e => hn (.inr (.inl (by have : b = w.heap.size + 1 := by simpa using e
                                                                            omega)))
  exact (g2.block b (by omega) hbn).trans (g1.block b hb hbn)

set_option maxRecDepth 100000 in
set_option maxHeartbeats 4000000 in
theorem copy_walk (sv : Value) (sm : Int) (len : Nat) (T K : Nat → Int) (SA : Nat → Option Addr) (SL SC : Nat → Nat) (w : World) (R : Nat → (Nat → Prop) → Value → World → Prop) (hlen : len ≤ 100000)
    (hI : (∃ a cap, sv = .slice a 0 cap ∧ len = 0) ∨ ∃ b off cap, sv = .slice (some ⟨b, off, none⟩) len cap ∧ b < w.heap.size ∧ ∀ j, j < len → w.cell? ⟨b, off + j * 3, none⟩ = some (.int .i64 (T j)) ∧ w.cell? ⟨b, off + j * 3 + 1, none⟩ = some (.int .i64 (K j)) ∧ w.cell? ⟨b, off + j * 3 + 2, none⟩ = some (.slice (SA j) (SL j) (SC j)))
    (hcopy : ∀ k, k < len → ∀ W (Y : Nat → Prop), Below w.heap.size w W → (∀ b, Y b → w.heap.size ≤ b ∧ b < W.heap.size) → Calls Tryz.prog 31 #[.agg #[.int .i64 (T k), .int .i64 (K k), .slice (SA k) (SL k) (SC k)]] W fun e w' => ∃ c, e = .returned (.agg #[.int .i64 (T k), .int .i64 (K k), c]) ∧ c.oneCell' = true ∧ R k Y c w' ∧ Below W.heap.size W w')
    (hR : ∀ k, Keeps (R k)) :
    Calls Tryz.prog 38 #[.agg #[sv, .int .u64 sm]] w fun e w' => ∃ v Cs, e = .returned (.agg #[v, .int .u64 sm]) ∧ v.oneCell' = true ∧ w'.ownsRow w.heap.size 51 3 v len (rowF T K Cs len) ∧ (∀ j, j < len → (Cs j).oneCell' = true ∧ R j (fun b => v.ownBlock = some b) (Cs j) w') ∧ Below w.heap.size w w' := by
  obtain ⟨i0, hi, hz0, hz1, hz2⟩ := info_parts info51
  obtain ⟨sa, sc, rfl⟩ : ∃ sa sc, sv = .slice sa len sc := by
    rcases hI with ⟨a, cap, e, e2⟩ | ⟨b, off, cap, e, _⟩
    · exact ⟨a, cap, by rw [e, e2]⟩
    · exact ⟨_, _, e⟩
  go_enter Tryz.func38, Tryz.ntmps38
  go_wp2
  go_loopw [12] (fun i wr => ∃ (k : Nat) (v : Value) (Cs : Nat → Value), k ≤ len ∧ i = .int .i64 (k : Nat) ∧ CopyRel T K sm R w k v Cs wr)
    (fun i _ => len - (intOf i).toNat)
  case atStart => exact ⟨0, .slice none 0 0, fun _ => .slice none 0 0, Nat.zero_le _, rfl, copy_start _⟩
  case round =>
    obtain ⟨k, v, Cs, hk, rfl, hrel⟩ := hrel
    have hrel' := hrel
    obtain ⟨hb1, hx0, hx1, hf0, hown, hRs, hB, hsz⟩ := hrel'
    by_cases hlt : k < len
    · rcases hI with ⟨a, cap, e, e2⟩ | ⟨b, off, cap, e, hb, hc⟩
      · omega
      obtain rfl : sa = some ⟨b, off, none⟩ := by cases e; rfl
      obtain ⟨c0', c1', c2'⟩ := hc k hlt
      have c0 := (hB.cell (p := ⟨b, off + k * 3, none⟩) hb).trans c0'
      have c1 := (hB.cell (p := ⟨b, off + k * 3 + 1, none⟩) hb).trans c1'
      have c2 := (hB.cell (p := ⟨b, off + k * 3 + 2, none⟩) hb).trans c2'
      clear c0' c1' c2' hc e
      go_wp2_with fail
      obtain ⟨W1, hW1⟩ : ∃ W1, wr.alloc (.cells #[.int .i64 (T k), .int .i64 (K k), .slice (SA k) (SL k) (SC k)] 51) = W1 := ⟨_, rfl⟩
      rw [hW1]
      have hBa : Below wr.heap.size wr W1 := by rw [← hW1]; exact (Below.refl _ wr).alloc (Nat.le_refl _) _
      have hs1 : W1.heap.size = wr.heap.size + 1 := by rw [← hW1]; simp
      have hq : W1.heap[wr.heap.size]? = some (.cells #[.int .i64 (T k), .int .i64 (K k), .slice (SA k) (SL k) (SC k)] 51 (0, 0)) := by rw [← hW1]; exact heap_alloc_new wr _
      have hp : W1.heap[w.heap.size + 1 + 1]? = wr.heap[w.heap.size + 1 + 1]? := hBa.block _ (by omega)
      have x0 : W1.cell? ⟨w.heap.size + 1 + 1, 0, none⟩ = some v := (World.cell?_of_block (a := ⟨w.heap.size + 1 + 1, 0, none⟩) hp).trans hx0
      have f0 : W1.frozen? ⟨w.heap.size + 1 + 1, 0, none⟩ = false := (World.frozen?_of_block (a := ⟨w.heap.size + 1 + 1, 0, none⟩) hp).trans hf0
      have e0 : W1.cell? ⟨wr.heap.size, 0, none⟩ = some (.int .i64 (T k)) := by simp [World.cell?, hq]
      have e1 : W1.cell? ⟨wr.heap.size, 1, none⟩ = some (.int .i64 (K k)) := by simp [World.cell?, hq]
      have e2 : W1.cell? ⟨wr.heap.size, 2, none⟩ = some (.slice (SA k) (SL k) (SC k)) := by simp [World.cell?, hq]
      have hnp : v.ownBlock ≠ some (w.heap.size + 1 + 1) := fun h => by have := (hown.lt _ h).1; omega
      have hcall := hcopy k hlt W1.drew (Mine v (w.heap.size + 2)) ((hB.trans (hBa.mono hB.size)).drew) (fun b hb => by
        show w.heap.size ≤ b ∧ b < W1.heap.size
        rcases hb with h | h | h
        · have := hown.lt _ h; omega
        · omega
        · omega)
      have hown1 := (hown.kept (w' := W1) (row := none) (by rw [← hW1]; exact World.grownBy_alloc _ _ _) (by cases v.ownBlock <;> simp)).drew
      have x0d : W1.drew.cell? ⟨w.heap.size + 1 + 1, 0, none⟩ = some v := x0
      go_region_law
        (first
          | (refine step_append_lies _ (by rfl) _ _ _ (by rfl) (w.heap.size + 3) 51 i0 _ 3 40 Tryz.underlying29 hi hz0 hz1 hz2 rfl (by omega) v k (rowF T K Cs k) (by rfl) ((hown1.kept (row := none) ⟨hB3.os, hB3.tape, hB3.output, hB3.size, fun k hk _ => hB3.block k hk⟩ (by cases v.ownBlock <;> simp)).alloc _) ⟨w'.heap.size, 0, none⟩ 1 1 [.int .i64 (T k), .int .i64 (K k), c] (by rfl) (by rfl) (World.news_of_block (cs := #[.int .i64 (T k), .int .i64 (K k), c]) (t := 51) (fr := (0, 0)) (heap_alloc_new w' _)) (by intro u hu; simp only [List.mem_cons, List.not_mem_nil, or_false] at hu; rcases hu with rfl | rfl | rfl; rfl; rfl; exact hc1) (by omega) (by unfold maxLen; omega) (by omega) (by have := hB3.size; simp at this ⊢; omega) (w'.heap.size + 1) (by simp) ?_; intro gg cap w1 hown2 hgrow hat hltg; have hpb : w1.heap[w.heap.size + 1 + 1]? = W1.heap[w.heap.size + 1 + 1]? := (hgrow.block _ (by have := hB3.size; simp at this ⊢; omega) (Ne.symm hnp)).trans ((heap_alloc_old w' _ (by have := hB3.size; simp at this; omega)).trans (hB3.block _ (by simp; omega))); have hqb : w1.heap[wr.heap.size]? = W1.heap[wr.heap.size]? := (hgrow.block _ (by have := hB3.size; simp at this ⊢; omega) (fun h => by have := hown.lt _ h.symm; omega)).trans ((heap_alloc_old w' _ (by have := hB3.size; simp at this; omega)).trans (hB3.block _ (by simp; omega))); have fz := (World.frozen?_of_block (a := ⟨w.heap.size + 1 + 1, 0, none⟩) hpb).trans f0; have xz := (World.cell?_of_block (a := ⟨w.heap.size + 1 + 1, 0, none⟩) hpb).trans x0; have q0 := (World.cell?_of_block (a := ⟨wr.heap.size, 0, none⟩) hqb).trans e0; have q1 := (World.cell?_of_block (a := ⟨wr.heap.size, 1, none⟩) hqb).trans e1; have q2 := (World.cell?_of_block (a := ⟨wr.heap.size, 2, none⟩) hqb).trans e2)
          | (go_simp; refine hcall.mono ?_; rintro e w' ⟨c, rfl, hc1, hRk, hB3⟩; have xz3 := (hB3.cell (p := ⟨w.heap.size + 1 + 1, 0, none⟩) (by simp; omega)).trans x0; have xz4 : (w'.alloc (.cells #[.int .i64 (T k), .int .i64 (K k), c] 51)).cell? ⟨w.heap.size + 1 + 1, 0, none⟩ = some v := (World.cell?_of_block (a := ⟨w.heap.size + 1 + 1, 0, none⟩) (heap_alloc_old w' _ (by have := hB3.size; simp at this ⊢; omega))).trans xz3; have q30 := (hB3.cell (p := ⟨wr.heap.size, 0, none⟩) (by simp; omega)).trans e0; have q31 := (hB3.cell (p := ⟨wr.heap.size, 1, none⟩) (by simp; omega)).trans e1; have q32 := (hB3.cell (p := ⟨wr.heap.size, 2, none⟩) (by simp; omega)).trans e2))
      all_goals
        have hnext := copy_next (o := .cells #[.int .i64 (T k), .int .i64 (K k), c] 51) hR hrel (hBa.drew.trans (hB3.mono (by simp; omega))) hc1 hRk hgrow hown2 hat
        clear hgrow hown2 hRk hB3 hcall hpb hqb fz xz q0 q1 q2 xz3 xz4 q30 q31 q32 x0 f0 e0 e1 e2 x0d hp hq hown1 c0 c1 c2
        go_wp2
        go_roundw
        case rel => exact ⟨k + 1, _, _, by omega, by simp, hnext⟩
        case measure => simp [intOf] <;> omega
    · obtain rfl : k = len := by omega
      clear hcopy
      have y0 : wr.cell? ⟨w.heap.size + 1, 0, none⟩ = some (.slice none 0 0) := by simp [World.cell?, hb1]
      have y1 : wr.cell? ⟨w.heap.size + 1, 1, none⟩ = some (.int .u64 0) := by simp [World.cell?, hb1]
      have z0 : wr.frozen? ⟨w.heap.size + 1, 0, none⟩ = false := by simp [World.frozen?, hb1]
      have z1 : wr.frozen? ⟨w.heap.size + 1, 1, none⟩ = false := by simp [World.frozen?, hb1]
      obtain ⟨va, vl, vc, rfl⟩ : ∃ a l c, v = .slice a l c := by
        rcases hown.2 with ⟨h, _⟩ | ⟨g, cap, cur, h, _⟩
        · exact ⟨_, _, _, h⟩
        · exact ⟨_, _, _, h⟩
      go_wp2
      refine bodyPost_ret (v := .agg #[.slice va vl vc, .int .u64 sm]) (by simp [results, Tryz.results38, go_sem, y0, y1]) rfl ⟨_, Cs, rfl, rfl, copy_end hR hrel _ _⟩

end Go.Proofs.YtiijghkfinkphaaGreatDoor.Vm

/- A range over a function whose iterator keeps its place in a box of its own. -/
namespace Go.Proofs.YtiijghkfinkphaaGreatDoor
open Go Go.Proofs Go.RowKit Go.Shelf
attribute [local go_sem] Oper.semAt_some
set_option linter.unusedVariables false
set_option linter.unusedSimpArgs false

abbrev SameAt (Bs : Nat) (A B : World) : Prop := B.heap[Bs]? = A.heap[Bs]?
def Blind {β : Type} (Bs : Nat) (J : β → World → Prop) : Prop := (∀ s W v, J s W → J s (W.setCell ⟨Bs, 0, none⟩ v)) ∧ ∀ s W, J s W → J s W.drew

def IterBox {α : Type} (F : Fence) (n : Nat) (P : Program) (g Bs : Nat) (lb : Array Value) (encs : α → Array Value) (S Sp : List α → Prop) (t : TypeId) (v0 : Value) : Prop :=
  ∀ (l : Nat) (J Jx : List α → World → Prop) (W : World), Boxed W Bs t v0 → Blind Bs J →
    (∀ pre x W1, Sp (pre ++ [x]) → J pre W1 → YieldAt F (n - 1) P l (encs x) W1 fun e W' => (e = .returned (.bool true) ∧ J (pre ++ [x]) W' ∧ SameAt Bs W1 W') ∨ (e = .returned (.bool false) ∧ Jx (pre ++ [x]) W')) →
    J [] W → CallsIn F n P g (#[.func (.yield l) #[] #[]] ++ lb) W fun e W' => (∃ v, e = .returned v) ∧ ((∃ xs, S xs ∧ J xs W') ∨ (∃ pre, Sp pre ∧ Jx pre W'))

theorem range_box {α : Type} {F : Fence} {n : Nat} {P : Program} {g : Operand} {ps : Array Tmp} {assign body : Code} {Q : Exit → Act → World → Prop} {a : Act} {w : World}
    (hro : F.round = none) (h1 : 1 ≤ n) {gf Bs : Nat} {lb : Array Value} (hg : a.eval g = .func (.func gf) #[] lb) (hFg : F.fn gf) (eg : ∀ args w, (callFunc gf args).run P w = .ok (.enter gf args) w)
    {encs : α → Array Value} {S Sp : List α → Prop} {t : TypeId} {v0 : Value} (hit : IterBox F (n - 1) P gf Bs lb encs S Sp t v0) (hBs : Bs < w.heap.size) (hbx : Boxed w Bs t v0) (hps : ∀ x, (encs x).size = ps.size)
    (I : List α → World → Prop) (Ix : Code → List α → World → Prop) (hI : OwnFrom w.heap.size I) (hIb : Blind Bs I) (hIx : ∀ c, OwnFrom w.heap.size (Ix c)) (h0 : I [] w) (Ax : α → Act → Prop)
    (hassign : ∀ (l : Nat) (x : α) (W : World) (K : Act → World → Prop), (∀ a', Ax x a' → K a' W) → assign.wpIn (F.inRound l) (n - 1 - 1) P (Exit.then K (fun _ _ _ => False)) { tmps := (ps.zip (encs x)).foldl (fun t (p, v) => t.setIfInBounds p v) a.tmps, defers := [] } W)
    (hbody : ∀ (l : Nat) (pre : List α) (x : α) (a' : Act) (W : World), w.heap.size ≤ l → (∃ r, W.heap[l]? = some (.loop r)) → Sp (pre ++ [x]) → I pre W → Ax x a' → body.wpIn (F.inRound l) (n - 1 - 1) P (ownPostG w.heap.size (SameAt Bs) I Ix (pre ++ [x]) W) a' W)
    (hdone : ∀ (D : Nat) (xs : List α) (W : World), w.heap.size ≤ D → S xs → I xs W → W.heap[D]? = some (.deferred (some [])) → Q .normal { a with defers := { target := .collected D, args := #[] } :: a.defers } W)
    (hstop : ∀ (D : Nat) (c : Code) (pre : List α) (W : World), w.heap.size ≤ D → Sp pre → Ix c pre W → W.heap[D]? = some (.deferred (some [])) → c.wpIn F n P Q { a with defers := { target := .collected D, args := #[] } :: a.defers } W) :
    (Code.rangeFunc g ps assign body).wpIn F n P Q a w := by
  refine wpIn_rangeFunc fun fn hfn => ?_
  rw [hro]
  -- the record of the loop, by its state
  obtain ⟨M, hM⟩ : ∃ M : LoopState → Option Code → Loop, M = fun st pe => { state := st, pending := pe, fn, tmps := a.tmps, params := ps, assign, body, defers := w.heap.size } := ⟨_, rfl⟩
  obtain ⟨V, hV⟩ : ∃ V, (w.alloc (.deferred (some []))).alloc (.loop (M .ready none)) = V := ⟨_, rfl⟩
  have vK : V.heap[w.heap.size]? = some (.deferred (some [])) := by
    rw [← hV, Below.heap_alloc _ _ _ (by simp)]
    exact World.alloc_heap_new w _
  have vL : V.heap[w.heap.size + 1]? = some (.loop (M .ready none)) := by
    have := World.alloc_heap_new (w.alloc (.deferred (some []))) (.loop (M .ready none))
    rw [World.size_alloc] at this
    rw [← hV]; exact this
  have vI : I [] V := by rw [← hV]; exact hI.alloc _ (hI.alloc _ h0)
  have vB : Boxed V Bs t v0 := by rw [← hV]; exact (hbx.alloc _).alloc _
  have other : ∀ (W : World) (b : Nat) (v : Value), b ≠ Bs → (W.setCell ⟨Bs, 0, none⟩ v).heap[b]? = W.heap[b]? := fun W b v hb => by
    by_cases hlt : b < W.heap.size
    · exact (grownBy_setCell' W Bs v).block b hlt (fun e => hb (by cases e; rfl))
    · have hz : (W.setCell ⟨Bs, 0, none⟩ v).heap.size = W.heap.size := by simp [World.setCell]
      rw [Array.getElem?_eq_none (by omega), Array.getElem?_eq_none (by omega)]
  refine ⟨w.heap.size + 1, [{ target := .collected w.heap.size, args := #[] }], V, { target := .fn (.func gf) lb, args := #[.func (.yield (w.heap.size + 1)) #[] #[]] }, V, gf,
    #[.func (.yield (w.heap.size + 1)) #[] #[]] ++ lb, V, ?_, ?_, ?_, ?_, fun _ => h1, ?_⟩
  · rw [← hV, hM]; exact run_enterLoop_outer _ _ _ _ _
  · simp only [resolve, hg]
    simp [go_sem]
  · intro f' hf'; simp [Target.leads] at hf'; subst hf'; exact hFg
  · simp [invoke, go_sem, eg]
  refine (hit (w.heap.size + 1)
    (fun pre W => I pre W ∧ W.heap[w.heap.size + 1]? = some (.loop (M .ready none)) ∧ W.heap[w.heap.size]? = some (.deferred (some [])))
    (fun pre W => ∃ c, Ix c pre W ∧ W.heap[w.heap.size + 1]? = some (.loop (M .done (some c))) ∧ W.heap[w.heap.size]? = some (.deferred (some [])))
    V vB ⟨fun pre W v ⟨a1, a2, a3⟩ => ⟨hIb.1 _ _ _ a1, (other W _ v (by omega)).trans a2, (other W _ v (by omega)).trans a3⟩, fun pre W ⟨a1, a2, a3⟩ => ⟨hIb.2 _ _ a1, a2, a3⟩⟩ ?_ ⟨vI, vL, vK⟩).mono ?_
  · rintro pre x W hsp ⟨iW, lW, kW⟩
    have hlt : w.heap.size + 1 < W.heap.size := (Array.getElem?_eq_some_iff.1 lW).1
    have hy := run_yield (P := P) (args := encs x) lW (by rw [hM]; exact hps x)
    rw [hM] at hy
    refine ⟨fn, _, assign, body, hy, roundIn_of_wpIn hfn (hassign _ x W _ fun a' ax => ?_)⟩
    refine ⟨_, run_beginRound lW (by rw [hM]), ?_⟩
    obtain ⟨B, hB⟩ : ∃ B : Loop, B = { M .ready none with state := .busy } := ⟨_, rfl⟩
    rw [← hB]
    have l2 : (W.putObj (w.heap.size + 1) (.loop B)).heap[w.heap.size + 1]? = some (.loop B) := World.putObj_heap_same hlt
    have k2 : (W.putObj (w.heap.size + 1) (.loop B)).heap[w.heap.size]? = some (.deferred (some [])) := (World.putObj_heap_other (by omega)).trans kW
    have s2 : SameAt Bs W (W.putObj (w.heap.size + 1) (.loop B)) := World.putObj_heap_other (by omega)
    refine wpIn_mono (hbody _ pre x a' _ (by omega) ⟨_, l2⟩ hsp (hI.putObj _ iW (by omega) lW rfl) ax) ?_
    have fin : ∀ (j : Option Code) (W3 : World), KeepsFrom w.heap.size (W.putObj (w.heap.size + 1) (.loop B)) W3 → ∃ W4, W4 = W3.putObj (w.heap.size + 1) (.loop (M (if j.isNone then .ready else .done) j)) ∧
        (Instr.endRound (w.heap.size + 1) j).run P W3 = .ok (.bool j.isNone) W4 ∧ W3.heap[w.heap.size + 1]? = some (.loop B) ∧
        W4.heap[w.heap.size + 1]? = some (.loop (M (if j.isNone then .ready else .done) j)) ∧ W4.heap[w.heap.size]? = some (.deferred (some [])) := fun j W3 hk => by
      have l3 := hk.same _ _ (by omega) l2 rfl
      have hr := run_endRound (P := P) j l3
      refine ⟨_, rfl, ?_, l3, World.putObj_heap_same (Array.getElem?_eq_some_iff.1 l3).1, (World.putObj_heap_other (by omega)).trans (hk.same _ _ (Nat.le_refl _) k2 rfl)⟩
      rw [hr, hB, hM]
    rintro e a3 W3 hp
    cases e with
    | normal =>
      obtain ⟨hk3, hs3, hi3⟩ := hp
      obtain ⟨W4, rfl, hr, l3, l4, k4⟩ := fin none W3 hk3
      exact ⟨_, _, hr, .inl ⟨rfl, ⟨hI.putObj _ hi3 (by omega) l3 rfl, l4, k4⟩, (World.putObj_heap_other (by omega)).trans (Eq.trans hs3 s2)⟩⟩
    | ret =>
      obtain ⟨hk3, hi3⟩ := hp
      obtain ⟨W4, rfl, hr, l3, l4, k4⟩ := fin (some .ret) W3 hk3
      exact ⟨_, _, hr, .inr ⟨rfl, .ret, (hIx _).putObj _ hi3 (by omega) l3 rfl, l4, k4⟩⟩
    | exit id =>
      obtain ⟨hk3, hi3⟩ := hp
      obtain ⟨W4, rfl, hr, l3, l4, k4⟩ := fin (some (.exit id)) W3 hk3
      exact ⟨_, _, hr, .inr ⟨rfl, .exit id, (hIx _).putObj _ hi3 (by omega) l3 rfl, l4, k4⟩⟩
    | goto t =>
      obtain ⟨hk3, hi3⟩ := hp
      obtain ⟨W4, rfl, hr, l3, l4, k4⟩ := fin (some (.goto t)) W3 hk3
      exact ⟨_, _, hr, .inr ⟨rfl, .goto t, (hIx _).putObj _ hi3 (by omega) l3 rfl, l4, k4⟩⟩
    | panic ch => exact hp.elim
    | outgrown => exact hp.elim
  · rintro e W2 ⟨⟨v, rfl⟩, (⟨xs, hS, hi, hl, hk⟩ | ⟨pre, hSp, c, hi, hl, hk⟩)⟩
    · exact ⟨none, _, by have := run_endLoop (P := P) hl (by rw [hM]; simp); rw [hM] at this; exact this, hdone _ xs _ (Nat.le_refl _) hS (hI.putObj _ hi (by omega) hl rfl) ((World.putObj_heap_other (by omega)).trans hk)⟩
    · exact ⟨some c, _, by have := run_endLoop (P := P) hl (by rw [hM]; simp); rw [hM] at this; exact this, hstop _ c pre _ (Nat.le_refl _) hSp ((hIx c).putObj _ hi (by omega) hl rfl) ((World.putObj_heap_other (by omega)).trans hk)⟩

end Go.Proofs.YtiijghkfinkphaaGreatDoor

/- strings.Lines: the closure hands out the lines. -/
namespace Go.Proofs.YtiijghkfinkphaaGreatDoor
open Go Go.Proofs Go.RowKit Go.Shelf
open Go.Proofs.YtiijghkfinkphaaGreatDoor.Vm (linesB)
attribute [local go_sem] Oper.semAt_some
set_option linter.unusedVariables false
set_option linter.unusedSimpArgs false

theorem linesB_end : ∀ {s : List UInt8}, Lib.indexByte s 10 = -1 → s ≠ [] → linesB s = [s]
  | [], _, h => absurd rfl h
  | [b], h, _ => by
    unfold Lib.indexByte at h
    cases hb : b == 10 with
    | true => rw [hb] at h; cases h
    | false => simp only [linesB, hb, cond_false]
  | b :: c :: l, h, _ => by
    unfold Lib.indexByte at h
    cases hb : b == 10 with
    | true => rw [hb] at h; cases h
    | false =>
      rw [hb] at h
      have h2 : Lib.indexByte (c :: l) 10 = -1 := by
        cases h3 : Lib.indexByte (c :: l) 10 == -1 with
        | true => simpa using h3
        | false =>
          rw [h3] at h
          have := Lib.indexByte_ge (c :: l) 10
          have h4 : Lib.indexByte (c :: l) 10 ≠ -1 := by simpa using h3
          simp at h
          try omega
      have ih := linesB_end h2 (by simp)
      show cond (b == 10) _ _ = _
      rw [hb, cond_false, ih]

theorem linesB_cut : ∀ {s : List UInt8} {i : Nat}, Lib.indexByte s 10 = (i : Int) → i < s.length ∧ linesB s = s.take (i + 1) :: linesB (s.drop (i + 1))
  | [], i, h => by simp [Lib.indexByte] at h
  | b :: l, i, h => by
    unfold Lib.indexByte at h
    cases hb : b == 10 with
    | true =>
      rw [hb] at h
      obtain rfl : i = 0 := by simp at h; omega
      refine ⟨by simp, ?_⟩
      show cond (b == 10) _ _ = _
      rw [hb, cond_true]
      rfl
    | false =>
      rw [hb] at h
      cases h3 : Lib.indexByte l 10 == -1 with
      | true => rw [h3] at h; simp at h
      | false =>
        rw [h3] at h
        simp at h
        have h5 := Lib.indexByte_ge l 10
        have h4 : Lib.indexByte l 10 ≠ -1 := by simpa using h3
        obtain ⟨k, rfl⟩ : ∃ k : Nat, i = k + 1 := ⟨i - 1, by omega⟩
        obtain ⟨g1, g2⟩ := linesB_cut (s := l) (i := k) (by omega)
        refine ⟨by simp; omega, ?_⟩
        show cond (b == 10) _ _ = _
        rw [hb, cond_false, g2]
        rfl

theorem ext_take (l : List UInt8) (k : Nat) : (⟨l.toArray⟩ : ByteArray).extract 0 k = ⟨(l.take k).toArray⟩ := by
  apply ByteArray.ext
  rw [ByteArray.data_extract]
  apply Array.ext'
  simp
theorem ext_drop (l : List UInt8) (k : Nat) : (⟨l.toArray⟩ : ByteArray).extract k l.length = ⟨(l.drop k).toArray⟩ := by
  apply ByteArray.ext
  rw [ByteArray.data_extract]
  apply Array.ext'
  simp [List.take_of_length_le]
def boxLen (Bs : Nat) (w : World) : Nat := match w.cell? ⟨Bs, 0, none⟩ with | some (.string b) => b.size | _ => 0
theorem boxLen_of {Bs : Nat} {w : World} {l : List UInt8} (h : Boxed w Bs 9 (.string ⟨l.toArray⟩)) : boxLen Bs w = l.length := by
  unfold boxLen
  rw [h.cell]
  rfl

set_option maxRecDepth 100000 in
set_option maxHeartbeats 4000000 in
theorem lines_in (n : Nat) (hn : 2 ≤ n) (Bs : Nat) (s : List UInt8) (hs : s.length ≤ 100000)
    (hidx : ∀ (u : List UInt8) W, Calls Tryz.prog 52 #[.string ⟨u.toArray⟩, .int .u8 10] W fun e w' => e = .returned (.int .i64 (Lib.indexByte u 10)) ∧ w' = W) :
    IterBox Go.Fence.wide n Tryz.prog 51 Bs #[.pointer (some ⟨Bs, 0, none⟩)] (fun x : List UInt8 => #[Value.string ⟨x.toArray⟩]) (fun xs => xs = linesB s) (fun pre => ∃ post, pre ++ post = linesB s) 9 (.string ⟨s.toArray⟩) := by
  intro l J Jx W hbx hbl hY h0
  have hF : Go.Fence.wide.fn 52 := trivial
  have h1 : 1 ≤ n := by omega
  refine callsIn_of_wp Tryz.func51 rfl trivial ?_ rfl
  simp only [Tryz.ntmps51, List.size_toArray, List.length_cons, List.length_nil, Nat.reduceAdd, Nat.reduceSub, Array.replicate_succ, Array.replicate_zero, List.push_toArray, List.append_toArray, List.nil_append, List.cons_append]
  gi_wp2
  gi_loopw [] (fun wr => ∃ (pre : List (List UInt8)) (rest : List UInt8), rest.length ≤ 100000 ∧ pre ++ linesB rest = linesB s ∧ Boxed wr Bs 9 (.string ⟨rest.toArray⟩) ∧ J pre wr)
    (fun wr => boxLen Bs wr)
  case atStart => exact ⟨[], s, hs, rfl, hbx, h0⟩
  case round =>
    obtain ⟨pre, rest, hrl, hpr, hB, hJ⟩ := hrel
    have cB := hB.cell
    have fB := hB.frozen
    by_cases hr : rest = []
    · subst hr
      gi_wp2
      go_end0
      exact ⟨⟨_, rfl⟩, .inl ⟨pre, by simpa [linesB] using hpr, hJ⟩⟩
    · have hlen : 0 < rest.length := List.length_pos_iff.2 hr
      gi_wp2_with (gi_at_call 52; refine (callsIn_wide.2 (hidx rest _)).mono ?_)
      rintro e W3 ⟨rfl, he⟩
      subst he
      have cBd : W3.drew.cell? ⟨Bs, 0, none⟩ = some (.string ⟨rest.toArray⟩) := cB
      have fBd : W3.drew.frozen? ⟨Bs, 0, none⟩ = false := fB
      by_cases hi : 0 ≤ Lib.indexByte rest 10
      · obtain ⟨i, hi'⟩ : ∃ i : Nat, Lib.indexByte rest 10 = i := ⟨_, (Int.toNat_of_nonneg hi).symm⟩
        obtain ⟨hil, hcut⟩ := linesB_cut hi'
        have hw : wrap64 ((i : Int) + 1) = (i : Int) + 1 := by unfold wrap64; omega
        rw [hi']
        gi_wp2
        gi_region
        rw [ext_take, ext_drop]
        have hJ4 := hbl.2 _ _ (hbl.1 _ _ (.string ⟨(rest.drop (i + 1)).toArray⟩) hJ)
        have hB4 : Boxed (W3.setCell ⟨Bs, 0, none⟩ (.string ⟨(rest.drop (i + 1)).toArray⟩)).drew Bs 9 (.string ⟨(rest.drop (i + 1)).toArray⟩) := hB.set _
        obtain ⟨fn, tmps, assign, body, hy, hR⟩ := hY pre (rest.take (i + 1)) _ ⟨linesB (rest.drop (i + 1)), by rw [← hpr, hcut]; simp⟩ hJ4
        gi_wp2
        refine hR.mono ?_
        rintro e W5 (⟨rfl, hJ5, hS5⟩ | ⟨rfl, hJx5⟩)
        · have hB5 : Boxed W5 Bs 9 (.string ⟨(rest.drop (i + 1)).toArray⟩) := Eq.trans hS5 hB4
          gi_wp2
          refine ⟨?_, ?_⟩
          · exact ⟨pre ++ [rest.take (i + 1)], rest.drop (i + 1), by rw [List.length_drop]; omega, by rw [← hpr, hcut]; simp, hB5, hJ5⟩
          · rw [boxLen_of hB5, boxLen_of hB, List.length_drop]
            omega
        · gi_wp2
          refine bodyPost_ret (results_none rfl _ _ _) rfl ?_
          exact ⟨⟨_, rfl⟩, .inr ⟨_, ⟨linesB (rest.drop (i + 1)), by rw [← hpr, hcut]; simp⟩, hJx5⟩⟩
      · have hi' : Lib.indexByte rest 10 = -1 := by have := Lib.indexByte_ge rest 10; omega
        have hcut := linesB_end hi' hr
        have hJ4 := hbl.1 _ _ (.string ⟨#[]⟩) hJ
        have hB4 : Boxed (W3.setCell ⟨Bs, 0, none⟩ (.string ⟨#[]⟩)) Bs 9 (.string ⟨#[]⟩) := hB.set _
        obtain ⟨fn, tmps, assign, body, hy, hR⟩ := hY pre rest _ ⟨[], by rw [← hpr, hcut]; simp⟩ hJ4
        rw [hi']
        gi_wp2
        refine hR.mono ?_
        rintro e W5 (⟨rfl, hJ5, hS5⟩ | ⟨rfl, hJx5⟩)
        · have hB5 : Boxed W5 Bs 9 (.string ⟨([] : List UInt8).toArray⟩) := Eq.trans hS5 hB4
          gi_wp2
          refine ⟨?_, ?_⟩
          · exact ⟨pre ++ [rest], [], by simp, by rw [← hpr, hcut]; simp [linesB], hB5, hJ5⟩
          · rw [boxLen_of hB5, boxLen_of hB]
            exact hlen
        · gi_wp2
          refine bodyPost_ret (results_none rfl _ _ _) rfl ?_
          exact ⟨⟨_, rfl⟩, .inr ⟨_, ⟨[], by rw [← hpr, hcut]; simp⟩, hJx5⟩⟩

end Go.Proofs.YtiijghkfinkphaaGreatDoor

/- logbook.Read: where its loop stands; a region that draws its order, inside a round. -/
namespace Go.Proofs.YtiijghkfinkphaaGreatDoor.Vm
open Go Go.Proofs Go.RowKit Go.Shelf
set_option linter.unusedVariables false
set_option linter.unusedSimpArgs false

theorem rowsIn_wide {n : Nat} {P : Program} {row : String} {args : Array Value} {w : World} {R : Value → World → Prop} (h : Rows P row args w R) : RowsIn Fence.wide n P row args w R :=
  fun c cs _ => let ⟨v, w', r, s⟩ := h c cs; ⟨v, w', r, stepsIn_wide.2 s⟩

theorem wp_round {n l : Nat} {P : Program} {o : Oper} {a : Act} {w : World} {next next' : Act → World → Prop} {Q : Exit → Act → World → Prop} (h1 : 1 ≤ n) (hp : ∀ c, o.op ≠ .defer c) (hn : ∀ a w, next a w → next' a w)
    (h : o.wp P a w next Q) : o.wpIn (Fence.wide.inRound l) n P a w next' Q := by
  refine ⟨fun _ _ => trivial, ?_⟩
  rw [Fence.inRound_round, Oper.semAt_some _ _ _ hp]
  unfold Oper.wp at h
  generalize (execOp a.eval o).run P w = r at h ⊢
  cases r with
  | ok nx w' =>
    cases nx with
    | value v => exact hn _ _ h
    | skip => exact hn _ _ h
    | defer d => exact hn _ _ h
    | enter f args =>
      refine ⟨fun _ => h1, CallsIn.inRound l ((callsIn_wide.2 h).mono ?_)⟩
      intro e w'' he
      cases e with
      | returned v => exact hn _ _ he
      | panicked c => exact he
      | outgrown => exact he
    | row row args => exact ⟨fun _ => h1, (rowsIn_wide h).mono fun v w'' he => hn _ _ he⟩
    | _ => exact h.elim
  | halt st w' => cases st <;> first | exact h | exact h.elim

theorem wpOps_round {n l : Nat} {P : Program} {ops : Array Oper} {Q : Exit → Act → World → Prop} (h1 : 1 ≤ n) (hp : ∀ (i : Nat) (o : Oper), ops[i]? = some o → ∀ c, o.op ≠ .defer c) (hQ : ¬ LetsOut Q) :
    ∀ (is : List Nat) (a : Act) (w : World), wpOps P ops Q is a w → wpOpsIn (Fence.wide.inRound l) n P ops Q is a w
  | [], a, w, h => h
  | i :: is, a, w, h => by
    simp only [wpOps] at h
    simp only [wpOpsIn]
    cases ho : ops[i]? with
    | none =>
      rw [ho] at h
      exact wpOps_round h1 hp hQ is a w h
    | some o =>
      rw [ho] at h
      simp only at h ⊢
      by_cases hw : Region.wanted o (yielded ops a.tmps) = true
      · rw [if_pos hw] at h ⊢
        rcases h with h | ⟨_, h⟩
        · exact wp_round h1 (hp i o ho) (fun a w h => wpOps_round h1 hp hQ is a w h) h
        · exact absurd h hQ
      · rw [if_neg hw] at h ⊢
        exact ⟨fun _ _ => trivial, wpOps_round h1 hp hQ is _ w h⟩

theorem wpIn_region_round {n l id : Nat} {P : Program} {ops : Array Oper} {Q : Exit → Act → World → Prop} {a : Act} {w : World} (h1 : 1 ≤ n) (hm : P.follows .mixedOrders = true)
    (hp : ∀ (i : Nat) (o : Oper), ops[i]? = some o → ∀ c, o.op ≠ .defer c) (hQ : ¬ LetsOut Q) (h : wpAny P .any ops Q ops.size (Array.replicate ops.size false) a w.drew) :
    (Code.region id ops true).wpIn (Fence.wide.inRound l) n P Q a w :=
  wpIn_region_draw fun t => by
    simp only [Region.schedule, hm, Bool.true_or, if_true]
    exact wpOps_round h1 hp hQ _ _ _ (wpAny_sound ops.size t _ a _ h)

def MineR (B : Nat) (v : Value) (p : Nat) (b : Nat) : Prop := v.ownBlock = some b ∨ b = p ∨ b = p + 1 ∨ b = p + 2 ∨ b = B ∨ b = B + 1
def KeepsC (R : (Nat → Prop) → Value → World → Prop) : Prop := ∀ (Y Y' : Nat → Prop) c W W', R Y c W → W.heap.size ≤ W'.heap.size → (∀ b o, W.heap[b]? = some o → o.isCells = true → ¬ Y b → W'.heap[b]? = some o) → (∀ b, b < W.heap.size → Y' b → Y b) → R Y' c W'

structure Adv (q : Nat) (W W' : World) : Prop where
  size : W.heap.size ≤ W'.heap.size
  non : ∀ (b : Nat) (o : Obj), W.heap[b]? = some o → o.isCells = false → W'.heap[b]? = some o
  box : W'.heap[q]? = W.heap[q]?
theorem Adv.refl (q : Nat) (W : World) : Adv q W W := ⟨Nat.le_refl _, fun _ _ h _ => h, rfl⟩
theorem Adv.trans {q : Nat} {A B C : World} (h : Adv q A B) (k : Adv q B C) : Adv q A C := ⟨Nat.le_trans h.size k.size, fun b o hb ho => k.non b o (h.non b o hb ho) ho, k.box.trans h.box⟩
theorem heap_lt {W : World} {b : Nat} {o : Obj} (h : W.heap[b]? = some o) : b < W.heap.size := (Array.getElem?_eq_some_iff.1 h).1
theorem Adv.below {q : Nat} {W W' : World} (h : Below W.heap.size W W') (hq : q < W.heap.size) : Adv q W W' := ⟨h.size, fun b o hb _ => (h.block b (heap_lt hb)).trans hb, h.block q hq⟩
theorem Adv.grown {q : Nat} {W W' : World} {row : Option Nat} (hg : W.grownBy W' row) (hq : q < W.heap.size) (hr : ∀ k, row = some k → k ≠ q ∧ ∃ o : Obj, W.heap[k]? = some o ∧ o.isCells = true) : Adv q W W' :=
  ⟨hg.size, fun b o hb ho => (hg.block b (heap_lt hb) fun e => by
    obtain ⟨_, o', h1, h2⟩ := hr b e.symm
    rw [hb, Option.some.injEq] at h1
    subst h1
    rw [ho] at h2
    cases h2).trans hb, hg.block q hq fun e => (hr q e.symm).1 rfl⟩
theorem Adv.keeps {q B : Nat} {W W' : World} (h : Adv q W W') : KeepsFrom B W W' := ⟨h.size, fun k o _ hk ho => h.non k o hk ho⟩

theorem set_heap {W : World} {b : Nat} {cs : Array Value} {t : TypeId} {fr : Nat × Nat} (h : W.heap[b]? = some (.cells cs t fr)) (i : Nat) (v : Value) : (W.setCell ⟨b, i, none⟩ v).heap[b]? = some (.cells (cs.setIfInBounds i v) t fr) := by
  obtain ⟨hlt, hk⟩ := Array.getElem?_eq_some_iff.1 h
  show (W.heap.modify b _)[b]? = _
  rw [Array.getElem?_eq_getElem (by rw [Array.size_modify]; exact hlt), Array.getElem_modify_self, hk]
  rfl
theorem cell_heap {W : World} {b i : Nat} {cs : Array Value} {t : TypeId} {fr : Nat × Nat} {v : Value} (h : W.heap[b]? = some (.cells cs t fr)) (hv : cs[i]? = some v) : W.cell? ⟨b, i, none⟩ = some v := by simp [World.cell?, h, hv]
theorem frozen_heap {W : World} {b i : Nat} {cs : Array Value} {t : TypeId} (h : W.heap[b]? = some (.cells cs t (0, 0))) : W.frozen? ⟨b, i, none⟩ = false := by simp [World.frozen?, h]

structure RdG (T K : Nat → Int) (R : Nat → (Nat → Prop) → Value → World → Prop) (w : World) (p k : Nat) (v : Value) (Cs : Nat → Value) (s m : Int) (W : World) : Prop where
  below : Below w.heap.size w W
  low : w.heap.size + 2 ≤ p
  size : p + 3 ≤ W.heap.size
  res : W.heap[w.heap.size]? = some (.cells #[.slice none 0 0, .int .u64 0] 32 (0, 0))
  res1 : W.heap[w.heap.size + 1]? = some (.cells #[.int .i64 0] 3 (0, 0))
  bk : W.heap[p]? = some (.cells #[v, .int .u64 s] 32 (0, 0))
  num : W.heap[p + 1]? = some (.cells #[.int .i64 m] 3 (0, 0))
  row : W.ownsRow (p + 3) 51 3 v k (rowF T K Cs k)
  el : ∀ j, j < k → (Cs j).oneCell' = true ∧ R j (MineR w.heap.size v p) (Cs j) W

section
variable {T K : Nat → Int} {R : Nat → (Nat → Prop) → Value → World → Prop} {w : World} {p k : Nat} {v : Value} {Cs : Nat → Value} {s m : Int} {W : World}

theorem owns_same {W W' : World} {B : Nat} {e : TypeId} {size : Nat} {v : Value} {n : Nat} {xs : List Value} (h : W.ownsRow B e size v n xs) (hs : ∀ (b : Nat) (o : Obj), v.ownBlock = some b → W.heap[b]? = some o → o.isCells = true → W'.heap[b]? = some o) : W'.ownsRow B e size v n xs := by
  refine ⟨h.1, h.2.imp id ?_⟩
  rintro ⟨g, cap, cur, rfl, hb, hg, rest⟩
  exact ⟨g, cap, cur, rfl, hb, hs g _ rfl hg rfl, rest⟩

theorem mineR_lt (h : RdG T K R w p k v Cs s m W) {W' : World} (hs : W.heap.size ≤ W'.heap.size) {b : Nat} (hb : MineR w.heap.size v p b) : w.heap.size ≤ b ∧ b < W'.heap.size := by
  have hp := h.low
  have hz := h.size
  rcases hb with hb | hb | hb | hb | hb | hb
  · have := h.row.lt b hb
    omega
  all_goals omega

theorem RdG.move (hR : ∀ k, KeepsC (R k)) (h : RdG T K R w p k v Cs s m W) {W' : World} (hB : Below w.heap.size w W') (hs : W.heap.size ≤ W'.heap.size)
    (hc : ∀ (b : Nat) (o : Obj), W.heap[b]? = some o → o.isCells = true → w.heap.size ≤ b → b ≠ p + 2 → W'.heap[b]? = some o) : RdG T K R w p k v Cs s m W' := by
  have hp := h.low
  refine ⟨hB, hp, Nat.le_trans h.size hs, hc _ _ h.res rfl (Nat.le_refl _) (by omega), hc _ _ h.res1 rfl (by omega) (by omega), hc _ _ h.bk rfl (by omega) (by omega), hc _ _ h.num rfl (by omega) (by omega), ?_, ?_⟩
  · exact owns_same h.row fun b o hb ho hi => hc b o ho hi (by have := h.row.lt b hb; omega) (by have := h.row.lt b hb; omega)
  · intro j hj
    obtain ⟨a1, a2⟩ := h.el j hj
    refine ⟨a1, hR j _ _ _ _ _ a2 hs (fun b o ho hi hn => ?_) (fun b _ h => h)⟩
    by_cases hlt : b < w.heap.size
    · exact ((hB.block b hlt).trans (h.below.block b hlt).symm).trans ho
    · exact hc b o ho hi (by omega) (fun e => hn (.inr (.inr (.inr (.inl e)))))

theorem RdG.below' (hR : ∀ k, KeepsC (R k)) (h : RdG T K R w p k v Cs s m W) {W' : World} (hB : Below W.heap.size W W') : RdG T K R w p k v Cs s m W' :=
  h.move hR (h.below.trans (hB.mono h.below.size)) hB.size fun b o hb _ _ _ => (hB.block b (heap_lt hb)).trans hb
theorem RdG.drew (h : RdG T K R w p k v Cs s m W) (hR : ∀ k, KeepsC (R k)) : RdG T K R w p k v Cs s m W.drew := h.below' hR (Below.refl _ W).drew
theorem RdG.own (hR : ∀ k, KeepsC (R k)) (h : RdG T K R w p k v Cs s m W) {W' : World} {B : Nat} (hB : w.heap.size ≤ B) {row : Option Nat} (hg : W.grownBy W' row) (hr : ∀ r, row = some r → B ≤ r ∧ ∃ o : Obj, W.heap[r]? = some o ∧ o.isCells = false) : RdG T K R w p k v Cs s m W' :=
  h.move hR (below_grown h.below hg h.below.size fun k hk => by have := (hr k hk).1; omega) hg.size fun b o hb hi _ _ => (hg.block b (heap_lt hb) fun e => by
    obtain ⟨_, o', h1, h2⟩ := hr b e.symm
    rw [hb, Option.some.injEq] at h1
    subst h1
    rw [hi] at h2
    cases h2).trans hb
theorem set_other {W : World} {q i b : Nat} (u : Value) (h : b ≠ q) (hb : b < W.heap.size) : (W.setCell ⟨q, i, none⟩ u).heap[b]? = W.heap[b]? := (Lib.grownBy_setCell W q i u).block b hb (fun e => h (by cases e; rfl))
end

section
variable {T K : Nat → Int} {R : Nat → (Nat → Prop) → Value → World → Prop} {w : World} {p k : Nat} {v : Value} {Cs : Nat → Value} {s m : Int} {W : World}

theorem RdG.book (hR : ∀ k, KeepsC (R k)) (h : RdG T K R w p k v Cs s m W) (i : Nat) (u : Value) {v' : Value} {s' : Int} (hv : (#[v, .int .u64 s] : Array Value).setIfInBounds i u = #[v', .int .u64 s'])
    (hrow : W.ownsRow (p + 3) 51 3 v' k (rowF T K Cs k)) (hel : ∀ j, j < k → R j (MineR w.heap.size v' p) (Cs j) W) : RdG T K R w p k v' Cs s' m (W.setCell ⟨p, i, none⟩ u) ∧ Adv (p + 2) W (W.setCell ⟨p, i, none⟩ u) := by
  have hp := h.low
  have hsz := h.size
  have hg := Lib.grownBy_setCell W p i u
  have oth : ∀ b, b ≠ p → b < W.heap.size → (W.setCell ⟨p, i, none⟩ u).heap[b]? = W.heap[b]? := fun b hb hl => set_other u hb hl
  refine ⟨⟨below_grown h.below hg h.below.size (fun k hk => by cases hk; omega), hp, Nat.le_trans hsz hg.size, (oth _ (by omega) (by omega)).trans h.res, (oth _ (by omega) (by omega)).trans h.res1, by rw [← hv]; exact set_heap h.bk i u, (oth _ (by omega) (by omega)).trans h.num, ?_, ?_⟩, ?_⟩
  · exact owns_same hrow fun b o hb ho _ => (oth b (by have := hrow.lt b hb; omega) (heap_lt ho)).trans ho
  · intro j hj
    exact ⟨(h.el j hj).1, hR j _ _ _ _ _ (hel j hj) hg.size (fun b o ho _ hn => (oth b (fun e => hn (.inr (.inl e))) (heap_lt ho)).trans ho) (fun b _ h => h)⟩
  · exact Adv.grown hg (by omega) fun k hk => by cases hk; exact ⟨by omega, _, h.bk, rfl⟩

theorem RdG.number (hR : ∀ k, KeepsC (R k)) (h : RdG T K R w p k v Cs s m W) (m' : Int) : RdG T K R w p k v Cs s m' (W.setCell ⟨p + 1, 0, none⟩ (.int .i64 m')) ∧ Adv (p + 2) W (W.setCell ⟨p + 1, 0, none⟩ (.int .i64 m')) := by
  have hp := h.low
  have hsz := h.size
  have hg := Lib.grownBy_setCell W (p + 1) 0 (.int .i64 m')
  have oth : ∀ b, b ≠ p + 1 → b < W.heap.size → (W.setCell ⟨p + 1, 0, none⟩ (.int .i64 m')).heap[b]? = W.heap[b]? := fun b hb hl => set_other _ hb hl
  refine ⟨⟨below_grown h.below hg h.below.size (fun k hk => by cases hk; omega), hp, Nat.le_trans hsz hg.size, (oth _ (by omega) (by omega)).trans h.res, (oth _ (by omega) (by omega)).trans h.res1, (oth _ (by omega) (by omega)).trans h.bk, set_heap h.num 0 _, ?_, ?_⟩, ?_⟩
  · exact owns_same h.row fun b o hb ho _ => (oth b (by have := h.row.lt b hb; omega) (heap_lt ho)).trans ho
  · intro j hj
    exact ⟨(h.el j hj).1, hR j _ _ _ _ _ (h.el j hj).2 hg.size (fun b o ho _ hn => (oth b (fun e => hn (.inr (.inr (.inl e)))) (heap_lt ho)).trans ho) (fun b _ h => h)⟩
  · exact Adv.grown hg (by omega) fun k hk => by cases hk; exact ⟨by omega, _, h.num, rfl⟩

theorem RdG.next (hR : ∀ k, KeepsC (R k)) (h : RdG T K R w p k v Cs s m W) {w' w1 : World} (hB' : Below W.heap.size W w') {c : Value} (hc1 : c.oneCell' = true) (hRk : R k (MineR w.heap.size v p) c w') {o : Obj} (hgrow : (w'.alloc o).grownBy w1 v.ownBlock) {gg cap : Nat}
    (hown2 : w1.ownsRow (p + 3) 51 3 (.slice (some ⟨gg, 0, none⟩) (k + 1) cap) (k + 1) (rowF T K Cs k ++ [.int .i64 (T k), .int .i64 (K k), c])) (hat : v.ownBlock = some gg ∨ gg = w'.heap.size + 1) :
    RdG T K R w p (k + 1) (.slice (some ⟨gg, 0, none⟩) (k + 1) cap) (fun j => if j = k then c else Cs j) s m (w1.setCell ⟨p, 0, none⟩ (.slice (some ⟨gg, 0, none⟩) (k + 1) cap)) ∧ Adv (p + 2) W (w1.setCell ⟨p, 0, none⟩ (.slice (some ⟨gg, 0, none⟩) (k + 1) cap)) := by
  have hp := h.low
  have hsz := h.size
  have hs' := hB'.size
  have hs1 : w'.heap.size + 1 ≤ w1.heap.size := by have := hgrow.size; simpa using this
  have hvb : ∀ b, v.ownBlock = some b → p + 3 ≤ b ∧ b < W.heap.size := fun b hb => h.row.lt b hb
  have hg3 : p + 3 ≤ gg := (hown2.lt gg rfl).1
  obtain ⟨F, hF⟩ : ∃ F, w1.setCell ⟨p, 0, none⟩ (.slice (some ⟨gg, 0, none⟩) (k + 1) cap) = F := ⟨_, rfl⟩
  have hgF : w1.grownBy F (some p) := by rw [← hF]; exact Lib.grownBy_setCell w1 _ _ _
  have sF : F.heap.size = w1.heap.size := by rw [← hF]; simp [World.setCell]
  have same1 : ∀ b, b < w'.heap.size → v.ownBlock ≠ some b → w1.heap[b]? = w'.heap[b]? := fun b hb hne => (hgrow.block b (by simp; omega) (Ne.symm hne)).trans (heap_alloc_old w' o hb)
  have sameF : ∀ b, b < w'.heap.size → v.ownBlock ≠ some b → b ≠ p → F.heap[b]? = w'.heap[b]? := fun b hb h1 h2 => (hgF.block b (by omega) (fun e => h2 (by simpa using e))).trans (same1 b hb h1)
  have sameF' : ∀ b, b < W.heap.size → v.ownBlock ≠ some b → b ≠ p → F.heap[b]? = W.heap[b]? := fun b hb h1 h2 => (sameF b (by omega) h1 h2).trans (hB'.block b hb)
  have bk1 : w1.heap[p]? = some (.cells #[v, .int .u64 s] 32 (0, 0)) := (same1 p (by omega) (fun h => by have := (hvb _ h).1; omega)).trans ((hB'.block p (by omega)).trans h.bk)
  have hne : ∀ b, b < p + 3 → v.ownBlock ≠ some b := fun b hb h => by have := (hvb _ h).1; omega
  have hY : ∀ b, b < w'.heap.size → MineR w.heap.size (.slice (some ⟨gg, 0, none⟩) (k + 1) cap) p b → MineR w.heap.size v p b := fun b hb hm => by
    rcases hm with hm | hm
    · have : gg = b := by simpa [Value.ownBlock] using hm
      subst this
      rcases hat with h | h
      · exact .inl h
      · omega
    · exact .inr hm
  rw [hF]
  have hrowcell : ∀ b, v.ownBlock = some b → ∃ o : Obj, W.heap[b]? = some o ∧ o.isCells = true := fun b hb => by
    rcases h.row.2 with ⟨e, _⟩ | ⟨g, cp, cur, e, _, hg, _⟩
    · rw [e] at hb; cases hb
    · rw [e] at hb
      have : g = b := by simpa [Value.ownBlock] using hb
      subst this
      exact ⟨_, hg, rfl⟩
  refine ⟨⟨?_, hp, by omega, (sameF' _ (by omega) (hne _ (by omega)) (by omega)).trans h.res, (sameF' _ (by omega) (hne _ (by omega)) (by omega)).trans h.res1, ?_, (sameF' _ (by omega) (hne _ (by omega)) (by omega)).trans h.num, ?_, ?_⟩, ⟨by omega, fun b o hb ho => ?_, sameF' _ (by omega) (hne _ (by omega)) (by omega)⟩⟩
  · have h1 := below_grown ((h.below.trans (hB'.mono h.below.size)).alloc (by have := h.below.size; omega) o) hgrow (by simp; have := h.below.size; omega) (fun k hk => by have := (hvb k hk).1; omega)
    exact below_grown h1 hgF h1.size (fun k hk => by simp only [Option.some.injEq] at hk; omega)
  · rw [← hF]; exact set_heap bk1 0 _
  · rw [rowF_succ, if_pos rfl, rowF_congr (Cs' := Cs) (fun j hj => if_neg (by omega))]
    exact hown2.kept hgF (.inr (by simp [Value.ownBlock]; omega))
  · intro j hj
    by_cases hjk : j = k
    · subst hjk
      simp only [if_true]
      exact ⟨hc1, hR j _ _ _ _ _ hRk (by omega) (fun b o ho _ hn => (sameF b (heap_lt ho) (fun h => hn (.inl h)) (fun h => hn (.inr (.inl h)))).trans ho) hY⟩
    · simp only [if_neg hjk]
      obtain ⟨a1, a2⟩ := h.el j (by omega)
      exact ⟨a1, hR j _ _ _ _ _ a2 (by omega) (fun b o ho _ hn => (sameF' b (heap_lt ho) (fun h => hn (.inl h)) (fun h => hn (.inr (.inl h)))).trans ho) (fun b hb hm => hY b (by omega) hm)⟩
  · refine (sameF' b (heap_lt hb) (fun e => ?_) (fun e => ?_)).trans hb
    · obtain ⟨o', h1, h2⟩ := hrowcell b e
      rw [hb, Option.some.injEq] at h1
      subst h1
      rw [ho] at h2
      cases h2
    · subst e
      rw [h.bk, Option.some.injEq] at hb
      subst hb
      cases ho
end

structure RdE (T K : Nat → Int) (R : Nat → (Nat → Prop) → Value → World → Prop) (w : World) (k : Nat) (v : Value) (Cs : Nat → Value) (s r : Int) (W : World) : Prop where
  below : Below w.heap.size w W
  res : W.heap[w.heap.size]? = some (.cells #[v, .int .u64 s] 32 (0, 0))
  res1 : W.heap[w.heap.size + 1]? = some (.cells #[.int .i64 r] 3 (0, 0))
  row : W.ownsRow w.heap.size 51 3 v k (rowF T K Cs k)
  el : ∀ j, j < k → (Cs j).oneCell' = true ∧ R j (fun b => v.ownBlock = some b) (Cs j) W

section
variable {T K : Nat → Int} {R : Nat → (Nat → Prop) → Value → World → Prop} {w : World} {p k : Nat} {v : Value} {Cs : Nat → Value} {s m r : Int} {W : World}

theorem RdE.own (hR : ∀ k, KeepsC (R k)) (h : RdE T K R w k v Cs s r W) {W' : World} {B : Nat} (hB : w.heap.size ≤ B) {row : Option Nat} (hg : W.grownBy W' row) (hr : ∀ r, row = some r → B ≤ r ∧ ∃ o : Obj, W.heap[r]? = some o ∧ o.isCells = false) : RdE T K R w k v Cs s r W' := by
  have same : ∀ (b : Nat) (o : Obj), W.heap[b]? = some o → o.isCells = true → W'.heap[b]? = some o := fun b o hb hi => (hg.block b (heap_lt hb) fun e => by
    obtain ⟨_, o', h1, h2⟩ := hr b e.symm
    rw [hb, Option.some.injEq] at h1
    subst h1
    rw [hi] at h2
    cases h2).trans hb
  exact ⟨below_grown h.below hg h.below.size fun k hk => by have := (hr k hk).1; omega, same _ _ h.res rfl, same _ _ h.res1 rfl, owns_same h.row fun b o _ hb hi => same b o hb hi,
    fun j hj => ⟨(h.el j hj).1, hR j _ _ _ _ _ (h.el j hj).2 hg.size (fun b o ho hi _ => same b o ho hi) (fun b _ h => h)⟩⟩

theorem RdE.drew (hR : ∀ k, KeepsC (R k)) (h : RdE T K R w k v Cs s r W) : RdE T K R w k v Cs s r W.drew :=
  h.own hR (B := w.heap.size) (Nat.le_refl _) (row := none) ⟨rfl, rfl, rfl, Nat.le_refl _, fun _ _ _ => rfl⟩ (by simp)

theorem RdG.end (hR : ∀ k, KeepsC (R k)) (h : RdG T K R w p k v Cs s m W) (r : Int) :
    RdE T K R w k v Cs s r (((W.setCell ⟨w.heap.size, 0, none⟩ v).setCell ⟨w.heap.size, 1, none⟩ (.int .u64 s)).setCell ⟨w.heap.size + 1, 0, none⟩ (.int .i64 r)) ∧
      Adv (p + 2) W (((W.setCell ⟨w.heap.size, 0, none⟩ v).setCell ⟨w.heap.size, 1, none⟩ (.int .u64 s)).setCell ⟨w.heap.size + 1, 0, none⟩ (.int .i64 r)) := by
  have hp := h.low
  have hsz := h.size
  obtain ⟨A, hA⟩ : ∃ A, W.setCell ⟨w.heap.size, 0, none⟩ v = A := ⟨_, rfl⟩
  obtain ⟨B, hB⟩ : ∃ B, A.setCell ⟨w.heap.size, 1, none⟩ (.int .u64 s) = B := ⟨_, rfl⟩
  obtain ⟨C, hC⟩ : ∃ C, B.setCell ⟨w.heap.size + 1, 0, none⟩ (.int .i64 r) = C := ⟨_, rfl⟩
  rw [hA, hB, hC]
  have gA : W.grownBy A (some w.heap.size) := by rw [← hA]; exact Lib.grownBy_setCell _ _ _ _
  have gB : A.grownBy B (some w.heap.size) := by rw [← hB]; exact Lib.grownBy_setCell _ _ _ _
  have gC : B.grownBy C (some (w.heap.size + 1)) := by rw [← hC]; exact Lib.grownBy_setCell _ _ _ _
  have sA := gA.size
  have sB := gB.size
  have sC := gC.size
  have a0 : A.heap[w.heap.size]? = some (.cells #[v, .int .u64 0] 32 (0, 0)) := by rw [← hA]; exact set_heap h.res 0 v
  have b0 : B.heap[w.heap.size]? = some (.cells #[v, .int .u64 s] 32 (0, 0)) := by rw [← hB]; exact set_heap a0 1 _
  have c0 : C.heap[w.heap.size]? = some (.cells #[v, .int .u64 s] 32 (0, 0)) := (gC.block _ (heap_lt b0) (by simp)).trans b0
  have oth : ∀ b, b < W.heap.size → b ≠ w.heap.size → b ≠ w.heap.size + 1 → C.heap[b]? = W.heap[b]? := fun b hb h0 h1 => (gC.block b (by omega) (by simp; omega)).trans ((gB.block b (by omega) (by simp; omega)).trans (gA.block b hb (by simp; omega)))
  have b1 : B.heap[w.heap.size + 1]? = some (.cells #[.int .i64 0] 3 (0, 0)) := (gB.block _ (by omega) (by simp)).trans ((gA.block _ (by omega) (by simp)).trans h.res1)
  have c1 : C.heap[w.heap.size + 1]? = some (.cells #[.int .i64 r] 3 (0, 0)) := by rw [← hC]; exact set_heap b1 0 _
  have lA := below_grown h.below gA h.below.size (fun k hk => by cases hk; omega)
  have lB := below_grown lA gB lA.size (fun k hk => by cases hk; omega)
  have lC := below_grown lB gC lB.size (fun k hk => by cases hk; omega)
  refine ⟨⟨lC, c0, c1, ?_, fun j hj => ?_⟩, ⟨by omega, fun b o hb ho => ?_, oth _ (by omega) (by omega) (by omega)⟩⟩
  · exact owns_base (owns_same h.row fun b o hb ho _ => (oth b (heap_lt ho) (by have := h.row.lt b hb; omega) (by have := h.row.lt b hb; omega)).trans ho) (by omega)
  · obtain ⟨e1, e2⟩ := h.el j hj
    exact ⟨e1, hR j _ _ _ _ _ e2 (by omega) (fun b o ho _ hn => (oth b (heap_lt ho) (fun e => hn (.inr (.inr (.inr (.inr (.inl e)))))) (fun e => hn (.inr (.inr (.inr (.inr (.inr e))))))).trans ho) (fun b _ h => .inl h)⟩
  · refine (oth b (heap_lt hb) (fun e => ?_) (fun e => ?_)).trans hb
    · subst e; rw [h.res, Option.some.injEq] at hb; subst hb; cases ho
    · subst e; rw [h.res1, Option.some.injEq] at hb; subst hb; cases ho
end

end Go.Proofs.YtiijghkfinkphaaGreatDoor.Vm
