import Derived.Test.YtiijghkfinkphaaGreatDoorCopyS
import Derived.Test.YtiijghkfinkphaaGreatDoorEnv
import Derived.Test.YtiijghkfinkphaaGreatDoorVm35
import Derived.WalkKit
import Derived.OwnWalk
import Derived.Deep.RegionLaw
import Derived.Deep.AppendLies
import Derived.Lib.BufferWrite
import Derived.KernelRfl
import Derived.Below
import Derived.RangeFuncBox
import Derived.Shelf.Abstract
import Derived.OwnWalkIn
import Derived.TacticsInMore
import Derived.LoopNIn
import Derived.LoopIn
import Derived.Stop.RegionWithIn
import Derived.Test.YtiijghkfinkphaaGreatDoorShelf
/- logbook.Append, walked: what the calls inside come to is given. -/
namespace Go.Proofs.YtiijghkfinkphaaGreatDoor.Vm
open Go Go.Proofs Go.RowKit
set_option linter.unusedVariables false
set_option linter.unusedSimpArgs false

structure Fr (w W : World) (sv : Value) (sm t k : Int) (ew : Value) : Prop where
  below : Below w.heap.size w W
  b : W.heap[w.heap.size]? = some (.cells #[sv, .int .u64 sm] 32 (0, 0))
  e : W.heap[w.heap.size + 1]? = some (.cells #[.int .i64 t, .int .i64 k, ew] 51 (0, 0))
  r : W.heap[w.heap.size + 2]? = some (.cells #[.slice none 0 0, .int .u64 0] 32 (0, 0))
theorem Fr.size {w W : World} {sv : Value} {sm t k : Int} {ew : Value} (h : Fr w W sv sm t k ew) : w.heap.size + 3 ≤ W.heap.size := by
  have := (Array.getElem?_eq_some_iff.1 h.r).1
  omega
theorem Fr.step {w W W' : World} {sv : Value} {sm t k : Int} {ew : Value} (h : Fr w W sv sm t k ew) (hB : Below W.heap.size W W') : Fr w W' sv sm t k ew :=
  ⟨h.below.trans (hB.mono h.below.size), (hB.block _ (by have := h.size; omega)).trans h.b, (hB.block _ (by have := h.size; omega)).trans h.e, (hB.block _ (by have := h.size; omega)).trans h.r⟩
theorem Fr.cells {w W : World} {sv : Value} {sm t k : Int} {ew : Value} (h : Fr w W sv sm t k ew) : W.cell? ⟨w.heap.size, 0, none⟩ = some sv ∧ W.cell? ⟨w.heap.size, 1, none⟩ = some (.int .u64 sm) ∧
    W.cell? ⟨w.heap.size + 1, 0, none⟩ = some (.int .i64 t) ∧ W.cell? ⟨w.heap.size + 1, 1, none⟩ = some (.int .i64 k) ∧ W.cell? ⟨w.heap.size + 1, 2, none⟩ = some ew ∧
    W.cell? ⟨w.heap.size + 1 + 1, 0, none⟩ = some (.slice none 0 0) ∧ W.cell? ⟨w.heap.size + 1 + 1, 1, none⟩ = some (.int .u64 0) ∧ W.frozen? ⟨w.heap.size + 1 + 1, 0, none⟩ = false ∧ W.frozen? ⟨w.heap.size + 1 + 1, 1, none⟩ = false := by
  obtain ⟨_, h1, h2, h3⟩ := h
  have h3' : W.heap[w.heap.size + 1 + 1]? = some (.cells #[.slice none 0 0, .int .u64 0] 32 (0, 0)) := h3
  refine ⟨?_, ?_, ?_, ?_, ?_, ?_, ?_, ?_, ?_⟩ <;> simp [World.cell?, World.frozen?, h1, h2, h3']
theorem fr_start (w : World) (sv : Value) (sm t k : Int) (ew : Value) : Fr w (((w.alloc (.cells #[sv, .int .u64 sm] 32)).alloc (.cells #[.int .i64 t, .int .i64 k, ew] 51)).alloc (.cells #[.slice none 0 0, .int .u64 0] 32)) sv sm t k ew := by
  obtain ⟨A, hA⟩ : ∃ A, w.alloc (.cells #[sv, .int .u64 sm] 32) = A := ⟨_, rfl⟩
  obtain ⟨B, hB⟩ : ∃ B, A.alloc (.cells #[.int .i64 t, .int .i64 k, ew] 51) = B := ⟨_, rfl⟩
  obtain ⟨C, hC⟩ : ∃ C, B.alloc (.cells #[.slice none 0 0, .int .u64 0] 32) = C := ⟨_, rfl⟩
  rw [hA, hB, hC]
  have sA : A.heap.size = w.heap.size + 1 := by rw [← hA]; simp
  have sB : B.heap.size = w.heap.size + 2 := by rw [← hB]; simp [sA]
  have sC : C.heap.size = w.heap.size + 3 := by rw [← hC]; simp [sB]
  have bA : Below w.heap.size w A := by rw [← hA]; exact (Below.refl _ w).alloc (Nat.le_refl _) _
  have bB : Below w.heap.size w B := by rw [← hB]; exact bA.alloc (by omega) _
  have bC : Below w.heap.size w C := by rw [← hC]; exact bB.alloc (by omega) _
  refine ⟨bC, ?_, ?_, ?_⟩
  · rw [← hC, heap_alloc_old B _ (by omega), ← hB, heap_alloc_old A _ (by omega), ← hA]
    exact heap_alloc_new w _
  · rw [← hC, heap_alloc_old B _ (by omega), ← hB, ← sA]
    exact heap_alloc_new A _
  · rw [← hC, ← sB]
    exact heap_alloc_new B _

theorem below_two {w W : World} (h : Below w.heap.size w W) (d : Nat) (x y : Value) : Below w.heap.size w ((W.setCell ⟨w.heap.size + d, 0, none⟩ x).setCell ⟨w.heap.size + d, 1, none⟩ y) := by
  have g1 : W.grownBy (W.setCell ⟨w.heap.size + d, 0, none⟩ x) (some (w.heap.size + d)) := Lib.grownBy_setCell W _ _ _
  have g2 : (W.setCell ⟨w.heap.size + d, 0, none⟩ x).grownBy ((W.setCell ⟨w.heap.size + d, 0, none⟩ x).setCell ⟨w.heap.size + d, 1, none⟩ y) (some (w.heap.size + d)) := Lib.grownBy_setCell _ _ _ _
  exact below_grown (below_grown h g1 h.size (fun k hk => by simp only [Option.some.injEq] at hk; omega)) g2 (Nat.le_trans h.size g1.size) (fun k hk => by simp only [Option.some.injEq] at hk; omega)

def appCode (err : Int) (vb lb : Bool) (len : Nat) : Int := if err ≠ 0 then 72 else if vb = false then 72 else if lb = false then 16 else if len = 200 then 2 else 0

set_option maxRecDepth 100000 in
set_option maxHeartbeats 4000000 in
theorem app_bad (sa : Option Addr) (len sc : Nat) (sm t k : Int) (ea : Option Addr) (el ec : Nat) (w : World) (err : Int) (vb lb : Bool)
    (hcheck : ∀ W, Below w.heap.size w W → Calls Tryz.prog 15 #[.agg #[.slice sa len sc, .int .u64 sm]] W fun e w' => e = .returned (.int .i64 err) ∧ Below W.heap.size W w')
    (hvalid : err = 0 → ∀ W, Below w.heap.size w W → Calls Tryz.prog 37 #[.agg #[.int .i64 t, .int .i64 k, .slice ea el ec]] W fun e w' => e = .returned (.bool vb) ∧ Below W.heap.size W w')
    (hlate : err = 0 → vb = true → ∀ W, Below w.heap.size w W → Calls Tryz.prog 30 #[.agg #[.slice sa len sc, .int .u64 sm], .agg #[.int .i64 t, .int .i64 k, .slice ea el ec]] W fun e w' => e = .returned (.bool lb) ∧ Below W.heap.size W w')
    (hbad : appCode err vb lb len ≠ 0) :
    Calls Tryz.prog 16 #[.agg #[.slice sa len sc, .int .u64 sm], .agg #[.int .i64 t, .int .i64 k, .slice ea el ec]] w fun e w' =>
      e = .returned (.tuple #[.agg #[.slice none 0 0, .int .u64 0], .int .i64 (appCode err vb lb len)]) ∧ Below w.heap.size w w' := by
  have hF0 := fr_start w (.slice sa len sc) sm t k (.slice ea el ec)
  go_enter Tryz.func16, Tryz.ntmps16
  go_wp2_with (go_at_call 15; refine (hcheck _ hF0.below).mono ?_)
  rintro e W1 ⟨rfl, hB1⟩
  have hF1 := hF0.step hB1
  clear hF0 hB1
  obtain ⟨x0, x1, x2, x3, x4, x5, x6, x7, x8⟩ := hF1.cells
  by_cases h0 : err = 0
  · subst h0
    have hv := hvalid rfl W1 hF1.below
    replace hlate := hlate rfl
    clear hvalid hcheck
    go_wp2_with (go_at_call 37; refine hv.mono ?_)
    rintro e W2 ⟨rfl, hB2⟩
    have hF2 := hF1.step hB2
    clear hF1 hB2 x0 x1 x2 x3 x4 x5 x6 x7 x8
    obtain ⟨x0, x1, x2, x3, x4, x5, x6, x7, x8⟩ := hF2.cells
    cases vb with
    | false =>
      go_wp2
      refine bodyPost_ret (v := .tuple #[.agg #[.slice none 0 0, .int .u64 0], .int .i64 72]) (by simp [results, Tryz.results16, go_sem, x5, x6]) rfl ⟨by simp [appCode], below_two hF2.below 2 _ _⟩
    | true =>
      have hl := hlate rfl W2 hF2.below
      clear hlate hv
      go_wp2_with (go_at_call 30; refine hl.mono ?_)
      rintro e W3 ⟨rfl, hB3⟩
      have hF3 := hF2.step hB3
      clear hF2 hB3 x0 x1 x2 x3 x4 x5 x6 x7 x8
      obtain ⟨x0, x1, x2, x3, x4, x5, x6, x7, x8⟩ := hF3.cells
      cases lb with
      | false =>
        go_wp2
        refine bodyPost_ret (v := .tuple #[.agg #[.slice none 0 0, .int .u64 0], .int .i64 16]) (by simp [results, Tryz.results16, go_sem, x5, x6]) rfl ⟨by simp [appCode], below_two hF3.below 2 _ _⟩
      | true =>
        have h200 : len = 200 := by
          by_cases h : len = 200
          · exact h
          · exact absurd (by simp [appCode, h]) hbad
        subst h200
        go_wp2
        refine bodyPost_ret (v := .tuple #[.agg #[.slice none 0 0, .int .u64 0], .int .i64 2]) (by simp [results, Tryz.results16, go_sem, x5, x6]) rfl ⟨by simp [appCode], below_two hF3.below 2 _ _⟩
  · go_wp2
    refine bodyPost_ret (v := .tuple #[.agg #[.slice none 0 0, .int .u64 0], .int .i64 72]) (by simp [results, Tryz.results16, go_sem, x5, x6]) rfl ⟨by simp [appCode, h0], below_two hF1.below 2 _ _⟩

def Mine2 (v : Value) (p r b : Nat) : Prop := v.ownBlock = some b ∨ b = p ∨ b = r
structure AppRel (T K : Nat → Int) (sm t k : Int) (sv ew : Value) (R : Nat → (Nat → Prop) → Value → World → Prop) (w : World) (p n : Nat) (v : Value) (Cs : Nat → Value) (F : World) : Prop where
  fr : Fr w F sv sm t k ew
  c0 : F.cell? ⟨p, 0, none⟩ = some v
  c1 : F.cell? ⟨p, 1, none⟩ = some (.int .u64 sm)
  f0 : F.frozen? ⟨p, 0, none⟩ = false
  f1 : F.frozen? ⟨p, 1, none⟩ = false
  lo : w.heap.size + 3 ≤ p
  hi : p < F.heap.size
  own : F.ownsRow (w.heap.size + 3) 51 3 v n (rowF T K Cs n)
  ne : v.ownBlock ≠ some p
  el : ∀ j, j < n → (Cs j).oneCell' = true ∧ R j (Mine2 v p (w.heap.size + 2)) (Cs j) F

section
variable {T K : Nat → Int} {sm t k : Int} {sv ew : Value} {R : Nat → (Nat → Prop) → Value → World → Prop} {w : World} {p n : Nat} {v : Value} {Cs : Nat → Value} {F F' : World}
theorem AppRel.step (hR : ∀ k, Keeps (R k)) (h : AppRel T K sm t k sv ew R w p n v Cs F) (hB : Below F.heap.size F F') : AppRel T K sm t k sv ew R w p n v Cs F' := by
  have hp := hB.block p h.hi
  refine ⟨h.fr.step hB, (World.cell?_of_block (a := ⟨p, 0, none⟩) hp).trans h.c0, (World.cell?_of_block (a := ⟨p, 1, none⟩) hp).trans h.c1, (World.frozen?_of_block (a := ⟨p, 0, none⟩) hp).trans h.f0, (World.frozen?_of_block (a := ⟨p, 1, none⟩) hp).trans h.f1, h.lo, Nat.lt_of_lt_of_le h.hi hB.size,
    h.own.kept (row := none) ⟨hB.os, hB.tape, hB.output, hB.size, fun k hk _ => hB.block k hk⟩ (by cases v.ownBlock <;> simp), h.ne, fun j hj => ⟨(h.el j hj).1, hR j _ _ _ _ _ (h.el j hj).2 hB.size (fun b hb _ => hB.block b hb) (fun b _ h => h)⟩⟩

theorem app_start (hR : ∀ k, Keeps (R k)) {W W' : World} (hF : Fr w W sv sm t k ew) (hB : Below W.heap.size W W') (hown : W'.ownsRow W.heap.size 51 3 v n (rowF T K Cs n)) (hel : ∀ j, j < n → (Cs j).oneCell' = true ∧ R j (fun b => v.ownBlock = some b ∨ b = w.heap.size + 2) (Cs j) W') :
    AppRel T K sm t k sv ew R w W'.heap.size n v Cs (W'.alloc (.cells #[v, .int .u64 sm] 32)) := by
  have hs := hF.size
  have hs' := hB.size
  obtain ⟨X, hX⟩ : ∃ X, W'.alloc (.cells #[v, .int .u64 sm] 32) = X := ⟨_, rfl⟩
  have hpx : X.heap[W'.heap.size]? = some (.cells #[v, .int .u64 sm] 32 (0, 0)) := by rw [← hX]; exact heap_alloc_new W' _
  have bX : Below W'.heap.size W' X := by rw [← hX]; exact (Below.refl _ W').alloc (Nat.le_refl _) _
  have sX : X.heap.size = W'.heap.size + 1 := by rw [← hX]; simp
  rw [hX]
  have hlt : ∀ b, v.ownBlock = some b → W.heap.size ≤ b ∧ b < W'.heap.size := fun b hb => hown.lt b hb
  refine ⟨(hF.step hB).step bX, by simp [World.cell?, hpx], by simp [World.cell?, hpx], by simp [World.frozen?, hpx], by simp [World.frozen?, hpx], by omega, by omega, owns_base (hown.kept (row := none) ⟨bX.os, bX.tape, bX.output, bX.size, fun k hk _ => bX.block k hk⟩ (by cases v.ownBlock <;> simp)) hs,
    fun h => by have := hlt _ h; omega, fun j hj => ⟨(hel j hj).1, hR j _ _ _ _ _ (hel j hj).2 bX.size (fun b hb _ => bX.block b hb) (fun b hb h => ?_)⟩⟩
  rcases h with h | h | h
  · exact .inl h
  · omega
  · exact .inr h

theorem app_next (hR : ∀ k, Keeps (R k)) (h : AppRel T K sm t k sv ew R w p n v Cs F) {w' w1 : World} (hB' : Below F.heap.size F w') {c : Value} (hc1 : c.oneCell' = true) (hRk : R n (Mine2 v p (w.heap.size + 2)) c w') (hT : T n = t) (hK : K n = k) {o : Obj} (hgrow : (w'.alloc o).grownBy w1 v.ownBlock) {gg cap : Nat}
    (hown2 : w1.ownsRow (w.heap.size + 3) 51 3 (.slice (some ⟨gg, 0, none⟩) (n + 1) cap) (n + 1) (rowF T K Cs n ++ [.int .i64 t, .int .i64 k, c])) (hat : v.ownBlock = some gg ∨ gg = w'.heap.size + 1) :
    AppRel T K sm t k sv ew R w p (n + 1) (.slice (some ⟨gg, 0, none⟩) (n + 1) cap) (fun j => if j = n then c else Cs j) (w1.setCell ⟨p, 0, none⟩ (.slice (some ⟨gg, 0, none⟩) (n + 1) cap)) := by
  obtain ⟨fr, hc0, hc1', hf0, hf1, hlo, hhi, hown, hne, hel⟩ := h.step hR hB'
  have hs' := hB'.size
  have hpF := h.hi
  have hs1 : w'.heap.size + 1 ≤ w1.heap.size := by have := hgrow.size; simpa using this
  have hvb : ∀ b, v.ownBlock = some b → w.heap.size + 3 ≤ b ∧ b < w'.heap.size := fun b hb => hown.lt b hb
  have hg3 : w.heap.size + 3 ≤ gg := (hown2.lt gg rfl).1
  have hggp : gg ≠ p := fun e => by
    rcases hat with h | h
    · rw [e] at h; exact hne h
    · omega
  have same1 : ∀ b, b < w'.heap.size → v.ownBlock ≠ some b → w1.heap[b]? = w'.heap[b]? := fun b hb hn => (hgrow.block b (by simp; omega) (Ne.symm hn)).trans (heap_alloc_old w' o hb)
  have hp := same1 p hhi hne
  obtain ⟨G, hG⟩ : ∃ G, w1.setCell ⟨p, 0, none⟩ (.slice (some ⟨gg, 0, none⟩) (n + 1) cap) = G := ⟨_, rfl⟩
  have hgG : w1.grownBy G (some p) := by rw [← hG]; exact Lib.grownBy_setCell w1 _ _ _
  have sG : G.heap.size = w1.heap.size := by rw [← hG]; simp [World.setCell]
  have sameG : ∀ b, b < w'.heap.size → v.ownBlock ≠ some b → b ≠ p → G.heap[b]? = w'.heap[b]? := fun b hb h1 h2 => (hgG.block b (by omega) (fun e => h2 (by simpa using e))).trans (same1 b hb h1)
  rw [hG]
  have hnv : ∀ b, b < w.heap.size + 3 → v.ownBlock ≠ some b := fun b hb h => by have := (hvb b h).1; omega
  have hfs := fr.size
  have hY : ∀ b, b < w'.heap.size → Mine2 (.slice (some ⟨gg, 0, none⟩) (n + 1) cap) p (w.heap.size + 2) b → Mine2 v p (w.heap.size + 2) b := fun b hb hm => by
    rcases hm with hm | hm
    · have : gg = b := by simpa [Value.ownBlock] using hm
      subst this
      rcases hat with h | h
      · exact .inl h
      · omega
    · exact .inr hm
  refine ⟨⟨?_, ?_, ?_, ?_⟩, ?_, ?_, ?_, ?_, hlo, by omega, ?_, fun e => hggp (by simpa [Value.ownBlock] using e), ?_⟩
  · have h1 := below_grown (fr.below.alloc (by omega) o) hgrow (by simp; omega) (fun k hk => by have := (hvb k hk).1; omega)
    exact below_grown h1 hgG h1.size (fun k hk => by simp only [Option.some.injEq] at hk; omega)
  · rw [sameG _ (by omega) (hnv _ (by omega)) (by omega)]; exact fr.b
  · rw [sameG _ (by omega) (hnv _ (by omega)) (by omega)]; exact fr.e
  · rw [sameG _ (by omega) (hnv _ (by omega)) (by omega)]; exact fr.r
  · rw [← hG]; exact World.cell?_setCell_same _ _ _ ((World.cell?_of_block (a := ⟨p, 0, none⟩) hp).trans hc0)
  · rw [← hG, World.cell?_setCell_other _ _ _ _ (by simp)]; exact (World.cell?_of_block (a := ⟨p, 1, none⟩) hp).trans hc1'
  · rw [← hG, World.frozen?_setCell]; exact (World.frozen?_of_block (a := ⟨p, 0, none⟩) hp).trans hf0
  · rw [← hG, World.frozen?_setCell]; exact (World.frozen?_of_block (a := ⟨p, 1, none⟩) hp).trans hf1
  · rw [rowF_succ, hT, hK, if_pos rfl, rowF_congr (Cs' := Cs) (fun j hj => if_neg (by omega))]
    exact hown2.kept hgG (.inr (by simp [Value.ownBlock]; exact hggp))
  · intro j hj
    by_cases hjk : j = n
    · subst hjk
      simp only [if_true]
      exact ⟨hc1, hR j _ _ _ _ _ hRk (by omega) (fun b hb hn => sameG b hb (fun h => hn (.inl h)) (fun h => hn (.inr (.inl h)))) hY⟩
    · simp only [if_neg hjk]
      obtain ⟨a1, a2⟩ := hel j (by omega)
      exact ⟨a1, hR j _ _ _ _ _ a2 (by omega) (fun b hb hn => sameG b hb (fun h => hn (.inl h)) (fun h => hn (.inr (.inl h)))) hY⟩

theorem app_end (hR : ∀ k, Keeps (R k)) (h : AppRel T K sm t k sv ew R w p n v Cs F) (x y z : Value) :
    (((F.setCell ⟨p, 1, none⟩ x).setCell ⟨w.heap.size + 2, 0, none⟩ y).setCell ⟨w.heap.size + 2, 1, none⟩ z).ownsRow w.heap.size 51 3 v n (rowF T K Cs n) ∧ (∀ j, j < n → (Cs j).oneCell' = true ∧ R j (fun b => v.ownBlock = some b) (Cs j) (((F.setCell ⟨p, 1, none⟩ x).setCell ⟨w.heap.size + 2, 0, none⟩ y).setCell ⟨w.heap.size + 2, 1, none⟩ z)) ∧
      Below w.heap.size w (((F.setCell ⟨p, 1, none⟩ x).setCell ⟨w.heap.size + 2, 0, none⟩ y).setCell ⟨w.heap.size + 2, 1, none⟩ z) := by
  obtain ⟨fr, hc0, hc1', hf0, hf1, hlo, hhi, hown, hne, hel⟩ := h
  obtain ⟨A, hA⟩ : ∃ A, F.setCell ⟨p, 1, none⟩ x = A := ⟨_, rfl⟩
  obtain ⟨B, hB⟩ : ∃ B, A.setCell ⟨w.heap.size + 2, 0, none⟩ y = B := ⟨_, rfl⟩
  obtain ⟨C, hC⟩ : ∃ C, B.setCell ⟨w.heap.size + 2, 1, none⟩ z = C := ⟨_, rfl⟩
  rw [hA, hB, hC]
  have g1 : F.grownBy A (some p) := by rw [← hA]; exact Lib.grownBy_setCell F _ _ _
  have g2 : A.grownBy B (some (w.heap.size + 2)) := by rw [← hB]; exact Lib.grownBy_setCell A _ _ _
  have g3 : B.grownBy C (some (w.heap.size + 2)) := by rw [← hC]; exact Lib.grownBy_setCell B _ _ _
  have s1 := g1.size
  have s2 := g2.size
  have s3 := g3.size
  have hne2 : v.ownBlock = none ∨ v.ownBlock ≠ some (w.heap.size + 2) := .inr fun h => by have := (hown.lt _ h).1; omega
  have hfs := fr.size
  refine ⟨owns_base (((hown.kept g1 (.inr hne)).kept g2 hne2).kept g3 hne2) (by omega), fun j hj => ?_, ?_⟩
  · obtain ⟨a1, a2⟩ := hel j hj
    refine ⟨a1, hR j _ _ _ _ _ a2 (by omega) (fun b hb hn => ?_) (fun b hb h => .inl h)⟩
    have h1 : some b ≠ some p := fun e => hn (.inr (.inl (by simpa using e)))
    have h2 : some b ≠ some (w.heap.size + 2) := fun e => hn (.inr (.inr (by simpa using e)))
    exact (g3.block b (by omega) h2).trans ((g2.block b (by omega) h2).trans (g1.block b hb h1))
  · have b1 := below_grown fr.below g1 (by omega) (fun k hk => by simp only [Option.some.injEq] at hk; omega)
    have b2 := below_grown b1 g2 (by omega) (fun k hk => by simp only [Option.some.injEq] at hk; omega)
    exact below_grown b2 g3 (by omega) (fun k hk => by simp only [Option.some.injEq] at hk; omega)
end

theorem owns_form {w : World} {b : Nat} {e : TypeId} {size : Nat} {v : Value} {n : Nat} {xs : List Value} (h : w.ownsRow b e size v n xs) : ∃ a l c, v = .slice a l c := by
  rcases h.2 with ⟨h, _⟩ | ⟨g, cap, cur, h, _⟩
  · exact ⟨_, _, _, h⟩
  · exact ⟨_, _, _, h⟩

set_option maxRecDepth 100000 in
set_option maxHeartbeats 8000000 in
theorem app_good (sa : Option Addr) (len sc : Nat) (sm t k : Int) (ea : Option Addr) (el ec : Nat) (T K : Nat → Int) (SA : Nat → Option Addr) (SL SC : Nat → Nat) (w : World) (R : Nat → (Nat → Prop) → Value → World → Prop) (hlen : len ≤ 100000) (h200 : len ≠ 200) (hT : T len = t) (hK : K len = k) (s : ByteArray) (m : Int)
    (hcheck : ∀ W, Below w.heap.size w W → Calls Tryz.prog 15 #[.agg #[.slice sa len sc, .int .u64 sm]] W fun e w' => e = .returned (.int .i64 0) ∧ Below W.heap.size W w')
    (hvalid : ∀ W, Below w.heap.size w W → Calls Tryz.prog 37 #[.agg #[.int .i64 t, .int .i64 k, .slice ea el ec]] W fun e w' => e = .returned (.bool true) ∧ Below W.heap.size W w')
    (hlate : ∀ W, Below w.heap.size w W → Calls Tryz.prog 30 #[.agg #[.slice sa len sc, .int .u64 sm], .agg #[.int .i64 t, .int .i64 k, .slice ea el ec]] W fun e w' => e = .returned (.bool true) ∧ Below W.heap.size W w')
    (hI : (∃ a cap, Value.slice sa len sc = .slice a 0 cap ∧ len = 0) ∨ ∃ b off cap, Value.slice sa len sc = .slice (some ⟨b, off, none⟩) len cap ∧ b < w.heap.size ∧ ∀ j, j < len → w.cell? ⟨b, off + j * 3, none⟩ = some (.int .i64 (T j)) ∧ w.cell? ⟨b, off + j * 3 + 1, none⟩ = some (.int .i64 (K j)) ∧ w.cell? ⟨b, off + j * 3 + 2, none⟩ = some (.slice (SA j) (SL j) (SC j)))
    (hcopy : ∀ k, k < len → ∀ W (Y : Nat → Prop), Below w.heap.size w W → (∀ b, Y b → w.heap.size ≤ b ∧ b < W.heap.size) → Calls Tryz.prog 31 #[.agg #[.int .i64 (T k), .int .i64 (K k), .slice (SA k) (SL k) (SC k)]] W fun e w' => ∃ c, e = .returned (.agg #[.int .i64 (T k), .int .i64 (K k), c]) ∧ c.oneCell' = true ∧ R k Y c w' ∧ Below W.heap.size W w')
    (hce : ∀ W (Y : Nat → Prop), Below w.heap.size w W → (∀ b, Y b → w.heap.size ≤ b ∧ b < W.heap.size) → Calls Tryz.prog 31 #[.agg #[.int .i64 t, .int .i64 k, .slice ea el ec]] W fun e w' => ∃ c, e = .returned (.agg #[.int .i64 t, .int .i64 k, c]) ∧ c.oneCell' = true ∧ R len Y c w' ∧ Below W.heap.size W w')
    (hline : ∀ W, Below w.heap.size w W → Calls Tryz.prog 21 #[.agg #[.int .i64 t, .int .i64 k, .slice ea el ec]] W fun e w' => e = .returned (.string s) ∧ Below W.heap.size W w')
    (hsum : ∀ W, Below w.heap.size w W → Calls Tryz.prog 32 #[.int .u64 sm, .string s] W fun e w' => e = .returned (.int .u64 m) ∧ Below W.heap.size W w')
    (hR : ∀ k, Keeps (R k)) :
    Calls Tryz.prog 16 #[.agg #[.slice sa len sc, .int .u64 sm], .agg #[.int .i64 t, .int .i64 k, .slice ea el ec]] w fun e w' => ∃ v Cs, e = .returned (.tuple #[.agg #[v, .int .u64 m], .int .i64 0]) ∧ v.oneCell' = true ∧
      w'.ownsRow w.heap.size 51 3 v (len + 1) (rowF T K Cs (len + 1)) ∧ (∀ j, j < len + 1 → (Cs j).oneCell' = true ∧ R j (fun b => v.ownBlock = some b) (Cs j) w') ∧ Below w.heap.size w w' := by
  obtain ⟨i0, hi, hz0, hz1, hz2⟩ := info_parts info51
  have hF0 := fr_start w (.slice sa len sc) sm t k (.slice ea el ec)
  have hcopyAt := fun W3 (hB3 : Below w.heap.size w W3) (hs3 : w.heap.size + 3 ≤ W3.heap.size) => copy_walk (.slice sa len sc) sm len T K SA SL SC W3 (fun k Y c W => R k (fun b => Y b ∨ b = w.heap.size + 2) c W) hlen
    (hI.imp id (fun ⟨b, off, cap, e, hb, hc⟩ => ⟨b, off, cap, e, Nat.lt_of_lt_of_le hb hB3.size, fun j hj => ⟨(hB3.cell (p := ⟨b, off + j * 3, none⟩) hb).trans (hc j hj).1, (hB3.cell (p := ⟨b, off + j * 3 + 1, none⟩) hb).trans (hc j hj).2.1, (hB3.cell (p := ⟨b, off + j * 3 + 2, none⟩) hb).trans (hc j hj).2.2⟩⟩))
    (fun k hk W Y hW hY => hcopy k hk W _ (hB3.trans (hW.mono hB3.size)) (fun b hb => by
      have := hW.size
      rcases hb with hb | hb
      · have := hY b hb; omega
      · omega))
    (fun k Y Y' c W W' h1 h2 h3 h4 => hR k _ _ _ _ _ h1 h2 (fun b hb hn => h3 b hb (fun h => hn (.inl h))) (fun b hb h => h.imp (h4 b hb) id))
  clear hcopy hI
  go_enter Tryz.func16, Tryz.ntmps16
  go_wp2_with (first
    | (go_at_call 15; refine (hcheck _ hF0.below).mono ?_; rintro e W1 ⟨rfl, hB1⟩; have hF1 := hF0.step hB1; have hv := hvalid W1 hF1.below; obtain ⟨x0, x1, x2, x3, x4, x5, x6, x7, x8⟩ := hF1.cells)
    | (go_at_call 37; refine hv.mono ?_; rintro e W2 ⟨rfl, hB2⟩; have hF2 := hF1.step hB2; have hl := hlate W2 hF2.below; obtain ⟨y0, y1, y2, y3, y4, y5, y6, y7, y8⟩ := hF2.cells)
    | (go_at_call 30; refine hl.mono ?_; rintro e W3 ⟨rfl, hB3⟩; have hF3 := hF2.step hB3; have hcp := hcopyAt W3 hF3.below hF3.size; obtain ⟨z0, z1, z2, z3, z4, z5, z6, z7, z8⟩ := hF3.cells)
    | (go_at_call 38; refine hcp.mono ?_; rintro e W4 ⟨v, Cs, rfl, hv1, hown, hel, hB4⟩; have hA := app_start hR hF3 hB4 hown hel; have hsz4 : w.heap.size + 3 ≤ W4.heap.size := Nat.le_trans hF3.size hB4.size; obtain ⟨va, vl, vc, rfl⟩ := owns_form hown))
  clear hF0 hB1 hF1 hv x0 x1 x2 x3 x4 x5 x6 x7 x8 hB2 hF2 hl y0 y1 y2 y3 y4 y5 y6 y7 y8 hB3 hF3 hcp z0 z1 z2 z3 z4 z5 z6 z7 z8 hcheck hvalid hlate hcopyAt hown hel hB4
  obtain ⟨W5, hW5⟩ : ∃ W5, W4.alloc (.cells #[.slice va vl vc, .int .u64 sm] 32) = W5 := ⟨_, rfl⟩
  obtain ⟨p, hp⟩ : ∃ p, W4.heap.size = p := ⟨_, rfl⟩
  rw [hW5, hp] at hA
  rw [hW5, hp]
  rw [hp] at hsz4
  clear hW5 hp
  have hhi := hA.hi
  have hnp := hA.ne
  have hfs := hA.fr.size
  obtain ⟨x0, x1, x2, x3, x4, x5, x6, x7, x8⟩ := hA.fr.cells
  have q0 := hA.c0
  have qf := hA.f0
  have q0d : W5.drew.cell? ⟨p, 0, none⟩ = some (.slice va vl vc) := hA.c0
  have hcall := hce W5.drew (Mine2 (.slice va vl vc) p (w.heap.size + 2)) hA.fr.below.drew (fun b hb => by
    show w.heap.size ≤ b ∧ b < W5.heap.size
    rcases hb with h | h | h
    · have := hA.own.lt _ h; omega
    · omega
    · omega)
  have hown1 := hA.own.drew
  go_region_law
    (first
      | (refine step_append_lies _ (by rfl) _ _ _ (by rfl) (w.heap.size + 3) 51 i0 _ 3 40 Tryz.underlying29 hi hz0 hz1 hz2 rfl (by omega) (.slice va vl vc) len (rowF T K Cs len) (by rfl) ((hown1.kept (row := none) ⟨hB3.os, hB3.tape, hB3.output, hB3.size, fun k hk _ => hB3.block k hk⟩ (by cases (Value.slice va vl vc).ownBlock <;> simp)).alloc _) ⟨w'.heap.size, 0, none⟩ 1 1 [.int .i64 t, .int .i64 k, c] (by rfl) (by rfl) (World.news_of_block (cs := #[.int .i64 t, .int .i64 k, c]) (t := 51) (fr := (0, 0)) (heap_alloc_new w' _)) (by intro u hu; simp only [List.mem_cons, List.not_mem_nil, or_false] at hu; rcases hu with rfl | rfl | rfl; rfl; rfl; exact hc1) (by omega) (by unfold maxLen; omega) (by omega) (by have := hB3.size; simp at this ⊢; omega) (w'.heap.size + 1) (by simp) ?_; intro gg cap w1 hown2 hgrow hat hltg; have hpb : w1.heap[p]? = W5.heap[p]? := (hgrow.block _ (by have := hB3.size; simp at this ⊢; omega) (Ne.symm hnp)).trans ((heap_alloc_old w' _ (by have := hB3.size; simp at this; omega)).trans (hB3.block _ (by simp; omega))); have fz := (World.frozen?_of_block (a := ⟨p, 0, none⟩) hpb).trans qf; have xz := (World.cell?_of_block (a := ⟨p, 0, none⟩) hpb).trans q0)
      | (go_simp; refine hcall.mono ?_; rintro e w' ⟨c, rfl, hc1, hRk, hB3⟩; have xz3 := (hB3.cell (p := ⟨p, 0, none⟩) (by simp; omega)).trans q0; have xz4 : (w'.alloc (.cells #[.int .i64 t, .int .i64 k, c] 51)).cell? ⟨p, 0, none⟩ = some (.slice va vl vc) := (World.cell?_of_block (a := ⟨p, 0, none⟩) (heap_alloc_old w' _ (by have := hB3.size; simp at this ⊢; omega))).trans xz3))
  all_goals
    have hN := app_next (o := .cells #[.int .i64 t, .int .i64 k, c] 51) hR hA ((Below.refl _ W5).drew.trans hB3) hc1 hRk hT hK hgrow hown2 hat
    clear hgrow hown2 hRk hB3 hcall hpb fz xz xz3 xz4 q0 qf q0d hown1 x0 x1 x2 x3 x4 x5 x6 x7 x8 hA hnp hhi hfs
    go_wp2_with fail
    obtain ⟨F, hF⟩ : ∃ F, w1.setCell ⟨p, 0, none⟩ (.slice (some ⟨gg, 0, none⟩) (len + 1) cap) = F := ⟨_, rfl⟩
    rw [hF] at hN
    rw [hF]
    clear hF
    have hfs := hN.fr.size
    have hhi := hN.hi
    obtain ⟨x0, x1, x2, x3, x4, x5, x6, x7, x8⟩ := hN.fr.cells
    have x1d : F.drew.cell? ⟨w.heap.size, 1, none⟩ = some (.int .u64 sm) := x1
    have hln := hline F.drew hN.fr.below.drew
    go_region_law (first
      | (go_simp; refine hln.mono ?_; rintro e G ⟨rfl, hG⟩; have hsm := hsum G (hN.fr.below.drew.trans (hG.mono hN.fr.below.size)); have u1 := (hG.cell (p := ⟨w.heap.size, 1, none⟩) (by simp; omega)).trans x1)
      | (go_simp; refine hsm.mono ?_; rintro e H ⟨rfl, hH⟩; have hNH := hN.step hR ((Below.refl _ F).drew.trans (hG.trans (hH.mono hG.size))); have u2 := hNH.c0; have u3 := hNH.c1; have u4 := hNH.f1; have u5 := hNH.fr.cells))
    all_goals
      obtain ⟨t0, t1, t2, t3, t4, t5, t6, t7, t8⟩ := u5
      have hlo := hNH.lo
      go_wp2
      refine bodyPost_ret (v := .tuple #[.agg #[.slice (some ⟨gg, 0, none⟩) (len + 1) cap, .int .u64 m], .int .i64 0]) ?_ rfl ⟨_, _, rfl, rfl, app_end hR hNH _ _ _⟩
      have hpne : ¬ (w.heap.size + 1 + 1 = p) := by omega
      simp [results, Tryz.results16, go_sem, t5, t6, hpne, Ne.symm hpne]

end Go.Proofs.YtiijghkfinkphaaGreatDoor.Vm

/- logbook.Text answers what its row says. -/
namespace Go.Proofs.YtiijghkfinkphaaGreatDoor.Vm
open Go Go.Proofs Go.RowKit Go.Shelf
set_option linter.unusedVariables false
set_option linter.unusedSimpArgs false

theorem bld_kept {T e : TypeId} {B b : Nat} {bs : List Value} {w w' : World} (h : Lib.IsBuilder T e B b bs w) (hg : Below w.heap.size w w') : Lib.IsBuilder T e B b bs w' := by
  have hg' : w.grownBy w' none := ⟨hg.os, hg.tape, hg.output, hg.size, fun k hk _ => hg.block k hk⟩
  have one : ∀ p, Lib.BuilderAt T e B b p bs w → Lib.BuilderAt T e B b p bs w' := fun p ⟨hB, v, hb, hown, hne⟩ =>
    ⟨hB, v, (hg.block b (Array.getElem?_eq_some_iff.1 hb).1).trans hb, hown.kept hg' (by
      cases v.ownBlock with
      | none => exact .inl rfl
      | some x => exact .inr (by simp)), hne⟩
  exact h.imp (one _) (one _)

theorem strR_some {r : Option Res} {s : List UInt8} (h : strR r = some s) : r = some ([.p (.str s)], []) := by
  unfold strR at h
  split at h
  · cases h; rfl
  · cases h
theorem intR_some {r : Option Res} {e : Int} (h : intR r = some e) : r = some ([.p (.int .i64 e)], []) := by
  unfold intR at h
  split at h
  · cases h; rfl
  · cases h

theorem call_str {F : Fun} (hF : FSound E F) {f : Nat} (hf : hasN f E.okf = true) {args : List AV} {s : List UInt8} (h : strR (F f args []) = some s) {C : Ctx} (hok : Ok C) (hC : C.h = []) {W : World} (hg : Grow C.w W) {us : Array Value} (hv : All2 (VA C) args us.toList) :
    Calls E.P f us W fun e w' => e = .returned (.string ⟨s.toArray⟩) ∧ Below W.heap.size W w' := by
  refine (FOk.at (hF.fn f args [] _ _ (strR_some h) hf) hok hC hg hv).mono fun e w' ⟨u, he, D, hw, hx, _, _, hu⟩ => ?_
  subst he
  refine ⟨congrArg _ (by cases hu; rfl), ?_⟩
  rw [← hw]
  exact below_ext hx hC (Nat.le_refl _)
theorem call_int {F : Fun} (hF : FSound E F) {f : Nat} (hf : hasN f E.okf = true) {args : List AV} {s : Int} (h : intR (F f args []) = some s) {C : Ctx} (hok : Ok C) (hC : C.h = []) {W : World} (hg : Grow C.w W) {us : Array Value} (hv : All2 (VA C) args us.toList) :
    Calls E.P f us W fun e w' => e = .returned (.int .i64 s) ∧ Below W.heap.size W w' := by
  refine (FOk.at (hF.fn f args [] _ _ (intR_some h) hf) hok hC hg hv).mono fun e w' ⟨u, he, D, hw, hx, _, _, hu⟩ => ?_
  subst he
  refine ⟨congrArg _ (by cases hu; rfl), ?_⟩
  rw [← hw]
  exact below_ext hx hC (Nat.le_refl _)

theorem L166 : Go.Proofs.Lays.n166 Tryz.prog Tryz.lays156_ren := { Tryz.lays156 with }
theorem L169 : Go.Proofs.Lays.n169 Tryz.prog Tryz.lays156_ren := { Tryz.lays156 with }

set_option maxRecDepth 100000 in
set_option maxHeartbeats 4000000 in
theorem book_walk (sv sum : Value) (hs1 : sv.oneCell' = true) (hs2 : sum.oneCell' = true) (len : Nat) (T K : Nat → Int) (SA : Nat → Option Addr) (SL SC : Nat → Nat) (w : World) (err : Int) (tx : Nat → List UInt8) (last : List UInt8) (hlen : err = 0 → len ≤ 100000)
    (hI : err = 0 → (∃ a cap, sv = .slice a 0 cap ∧ len = 0) ∨ ∃ b off cap, sv = .slice (some ⟨b, off, none⟩) len cap ∧ b < w.heap.size ∧ ∀ j, j < len → w.cell? ⟨b, off + j * 3, none⟩ = some (.int .i64 (T j)) ∧ w.cell? ⟨b, off + j * 3 + 1, none⟩ = some (.int .i64 (K j)) ∧ w.cell? ⟨b, off + j * 3 + 2, none⟩ = some (.slice (SA j) (SL j) (SC j)))
    (hcheck : ∀ W, Below w.heap.size w W → Calls Tryz.prog 15 #[.agg #[sv, sum]] W fun e w' => e = .returned (.int .i64 err) ∧ Below W.heap.size W w')
    (hline : err = 0 → ∀ k, k < len → ∀ W, Below w.heap.size w W → Calls Tryz.prog 21 #[.agg #[.int .i64 (T k), .int .i64 (K k), .slice (SA k) (SL k) (SC k)]] W fun e w' => e = .returned (.string ⟨(tx k).toArray⟩) ∧ Below W.heap.size W w')
    (hlast : err = 0 → ∀ W, Below w.heap.size w W → Calls Tryz.prog 23 #[.agg #[sv, sum]] W fun e w' => e = .returned (.string ⟨last.toArray⟩) ∧ Below W.heap.size W w')
    (hsz : err = 0 → (((List.range len).map tx).flatten).length + last.length ≤ 140737488355328) :
    CallsIn Fence.wide 6 Tryz.prog 7 #[.agg #[sv, sum]] w fun e w' =>
      e = .returned (.tuple (if err = 0 then #[.string ⟨(((List.range len).map tx).flatten ++ last).toArray⟩, .int .i64 0] else #[.string ⟨#[]⟩, .int .i64 err])) ∧ Below w.heap.size w w' := by
  refine callsIn_of_wp Tryz.func7 rfl trivial ?_ rfl
  simp only [Tryz.ntmps7, List.size_toArray, List.length_cons, List.length_nil, Nat.reduceAdd, Nat.reduceSub, Array.replicate_succ, Array.replicate_zero, List.push_toArray, List.append_toArray, List.nil_append, List.cons_append]
  have hB0 : Below w.heap.size w (w.alloc (.cells #[sv, sum] 32)) := (Below.refl _ w).alloc (Nat.le_refl _) _
  gi_wp2_with (refine ⟨trivial, ?_⟩; gi_at_call 15; refine (callsIn_wide.2 (hcheck _ hB0)).mono ?_)
  rintro e W1 ⟨rfl, hB1⟩
  have hW1 := hB0.trans (hB1.mono hB0.size)
  by_cases h0 : err = 0
  · subst h0
    have hl := hline rfl
    replace hlen := hlen rfl
    replace hI := hI rfl
    replace hsz := hsz rfl
    have hla := hlast rfl
    clear hline hlast hcheck
    have hbx : W1.heap[w.heap.size]? = some (.cells #[sv, sum] 32 (0, 0)) := (hB1.block _ (by simp)).trans (World.alloc_heap_new w _)
    have hbl : w.heap.size < W1.heap.size := (Array.getElem?_eq_some_iff.1 hbx).1
    obtain ⟨W2, hW2⟩ : ∃ W2, W1.alloc (.cells #[.pointer none, .slice none 0 0] 62) = W2 := ⟨_, rfl⟩
    have hI2 : Lib.IsBuilder 62 5 W1.heap.size W1.heap.size [] W2 := by rw [← hW2]; exact Lib.fresh_isBuilder 62 5 W1
    have hB2 : Below W1.heap.size W1 W2 := by rw [← hW2]; exact (Below.refl _ W1).alloc (Nat.le_refl _) _
    have hbx0 : W2.cell? ⟨w.heap.size, 0, none⟩ = some sv := (hB2.cell (p := ⟨w.heap.size, 0, none⟩) hbl).trans (by simp [World.cell?, hbx])
    have hbx1 : W2.cell? ⟨w.heap.size, 1, none⟩ = some sum := (hB2.cell (p := ⟨w.heap.size, 1, none⟩) hbl).trans (by simp [World.cell?, hbx])
    obtain ⟨acc, hacc⟩ : ∃ acc : Nat → List UInt8, acc = fun k => ((List.range k).map tx).flatten := ⟨_, rfl⟩
    have acc0 : acc 0 = [] := by rw [hacc]; rfl
    have accS : ∀ k, acc (k + 1) = acc k ++ tx k := fun k => by simp [hacc, List.range_succ]
    have accL : ∀ k, k ≤ len → (acc k).length ≤ 140737488355328 := fun k hk => by
      have h1 : ∀ d k, (acc k).length ≤ (acc (k + d)).length := fun d => by
        induction d with
        | zero => exact fun k => Nat.le_refl _
        | succ d ih => exact fun k => Nat.le_trans (ih k) (by rw [← Nat.add_assoc, accS]; simp)
      have h2 := h1 (len - k) k
      have e : k + (len - k) = len := by omega
      rw [e] at h2
      rw [hacc] at h2 ⊢
      exact Nat.le_trans h2 (Nat.le_trans (Nat.le_add_right _ _) hsz)
    have hsum : (acc len).length + last.length ≤ 140737488355328 := by rw [hacc]; exact hsz
    have hI' : (∃ a cap, sv = .slice a 0 cap ∧ len = 0) ∨ ∃ b off cap, sv = .slice (some ⟨b, off, none⟩) len cap ∧ b < w.heap.size ∧ ∀ j, j < len → w.cell? ⟨b, off + j * 3, none⟩ = some (.int .i64 (T j)) ∧ w.cell? ⟨b, off + j * 3 + 1, none⟩ = some (.int .i64 (K j)) ∧ w.cell? ⟨b, off + j * 3 + 2, none⟩ = some (.slice (SA j) (SL j) (SC j)) := hI
    obtain ⟨sa, sc, rfl⟩ : ∃ sa sc, sv = .slice sa len sc := by
      rcases hI with ⟨a, cap, e, e2⟩ | ⟨b, off, cap, e, _⟩
      · exact ⟨a, cap, by rw [e, e2]⟩
      · exact ⟨_, _, e⟩
    gi_wp2
    gi_loopw [16] (fun i wr => ∃ k : Nat, k ≤ len ∧ i = .int .i64 (k : Nat) ∧ Lib.IsBuilder 62 5 W1.heap.size W1.heap.size (Lib.byteCells (acc k)) wr ∧ Below W1.heap.size W1 wr)
      (fun i _ => len - (intOf i).toNat)
    case atStart => exact ⟨0, Nat.zero_le _, rfl, by rw [acc0]; exact hI2, hB2⟩
    case round =>
      obtain ⟨k, hk, rfl, hIb, hBb⟩ := hrel
      by_cases hlt : k < len
      · rcases hI' with ⟨a, cap, e, e2⟩ | ⟨b, off, cap, e, hb, hc⟩
        · omega
        obtain rfl : sa = some ⟨b, off, none⟩ := by cases e; rfl
        have hBw := hW1.trans (hBb.mono hW1.size)
        obtain ⟨c0', c1', c2'⟩ := hc k hlt
        have c0 := (hBw.cell (p := ⟨b, off + k * 3, none⟩) hb).trans c0'
        have c1 := (hBw.cell (p := ⟨b, off + k * 3 + 1, none⟩) hb).trans c1'
        have c2 := (hBw.cell (p := ⟨b, off + k * 3 + 2, none⟩) hb).trans c2'
        have hBa : Below wr.heap.size wr (wr.alloc (.cells #[.int .i64 (T k), .int .i64 (K k), .slice (SA k) (SL k) (SC k)] 51)) := (Below.refl _ wr).alloc (Nat.le_refl _) _
        gi_wp2
        refine ⟨trivial, ?_⟩
        refine (callsIn_wide.2 (hl k hlt _ (hBw.trans (hBa.mono hBw.size)))).mono ?_
        rintro e W3 ⟨rfl, hB3⟩
        have hIc := bld_kept (bld_kept hIb hBa) hB3
        have hBc : Below W1.heap.size W1 W3 := hBb.trans ((hBa.mono hBb.size).trans (hB3.mono (by have := hBb.size; simp; omega)))
        have hlen' : (Lib.byteCells (acc k)).length + (⟨(tx k).toArray⟩ : ByteArray).size ≤ 140737488355328 := by
          have := accL (k + 1) (by omega)
          rw [accS, List.length_append] at this
          rw [Lib.byteCells_length]
          exact this
        gi_wp2
        refine ⟨trivial, ?_⟩
        refine (callsIn_wide.2 (Any.Builder_WriteString L166 Tryz.extra156 W1.heap.size W1.heap.size _ ⟨(tx k).toArray⟩ W3 hIc hlen' hBc.size)).mono ?_
        rintro e W4 ⟨rfl, hI4, hB4⟩
        gi_wp2
        go_roundw
        case rel =>
          refine ⟨k + 1, by omega, by simp, ?_, hBc.trans hB4⟩
          rw [accS, Lib.byteCells_append]
          exact Or.inr hI4
        case measure => simp [intOf] <;> omega
      · obtain rfl : k = len := by omega
        have hx : ∀ W, Below W1.heap.size wr W → W.cell? ⟨w.heap.size, 0, none⟩ = some (.slice sa k sc) ∧ W.cell? ⟨w.heap.size, 1, none⟩ = some sum := fun W h => by
          have h1 := (hBb.trans h)
          exact ⟨(h1.cell (p := ⟨w.heap.size, 0, none⟩) hbl).trans (by simp [World.cell?, hbx]), (h1.cell (p := ⟨w.heap.size, 1, none⟩) hbl).trans (by simp [World.cell?, hbx])⟩
        have hx5' : ∀ W, Below W1.heap.size wr W → W.cell? ⟨w.heap.size, 0, none⟩ = some (.slice sa k sc) ∧ W.cell? ⟨w.heap.size, 1, none⟩ = some sum := hx
        obtain ⟨X, hX⟩ : ∃ X : ByteArray, (⟨(acc k).toArray⟩ : ByteArray) = X := ⟨_, rfl⟩
        obtain ⟨Y, hY⟩ : ∃ Y : ByteArray, (⟨last.toArray⟩ : ByteArray) = Y := ⟨_, rfl⟩
        have hXs : X.size = (acc k).length := by rw [← hX]; rfl
        have hYs : Y.size = last.length := by rw [← hY]; rfl
        have hXY : (X.size : Int) + (Y.size : Int) ≤ 9223372036854775807 := by omega
        have hXY' : X.size + Y.size ≤ 9223372036854775807 := by omega
        rw [hY] at hla
        have hadd : ∀ W, (Op.stringOp .add X Y).run Tryz.prog W = .ok (.string (X ++ Y)) W := fun W => by
          have h1 : ¬ (((X.size + Y.size : Nat) : Int) > IntKind.i64.max) := by
            have : IntKind.i64.max = 9223372036854775807 := rfl
            rw [this]; omega
          simp only [Op.stringOp, if_neg h1, Sem.run_pure]
        have hstr : ∀ W, Below wr.heap.size wr W → Calls Tryz.prog 22 #[.pointer (some ⟨W1.heap.size, 0, none⟩)] W fun e w' => e = .returned (.string X) ∧ Below W1.heap.size W w' := fun W h => by
          rw [← hX]; exact Any.Builder_String_any L169 Tryz.extra156 W1.heap.size W1.heap.size (acc k) W (bld_kept hIb h) (Nat.le_trans hBb.size h.size)
        gi_wp2
        obtain ⟨hxd0, hxd1⟩ := hx wr.drew ((Below.refl _ wr).drew)
        obtain ⟨hxe0, hxe1⟩ := hx wr (Below.refl _ wr)
        gi_region_with (first
          | (refine ⟨trivial, ?_⟩; gi_at_call 22; refine (callsIn_wide.2 (hstr wr.drew (Below.refl _ _).drew)).mono ?_; rintro e W5 ⟨rfl, hB5⟩
             have hw5 := hW1.trans ((hBb.trans ((Below.refl _ wr).drew.trans hB5)).mono hW1.size)
             have hx5 := hx5' W5 ((Below.refl _ wr).drew.trans hB5)
             obtain ⟨hx20, hx22⟩ := hx5)
          | (refine ⟨trivial, ?_⟩; gi_at_call 23; refine (callsIn_wide.2 (hla _ (by assumption))).mono ?_; rintro e W6 ⟨rfl, hB6⟩; have hadd6 := hadd W6))
        all_goals
          gi_wp2
          go_ret2
          refine ⟨?_, hw5.trans (hB6.mono hw5.size)⟩
          have hval : X ++ Y = (⟨(((List.range k).map tx).flatten ++ last).toArray⟩ : ByteArray) := by
            rw [← hX, ← hY, hacc]
            apply ByteArray.ext
            simp
          first | (rw [← hval]; rfl) | (rw [if_pos rfl, ← hval]; rfl)
  · gi_wp2
    go_ret2
    exact ⟨by first | rfl | (rw [if_neg h0]; rfl), hW1⟩

theorem linesF_get {F : Fun} {line : Nat} : ∀ {es : List (List PV)} {x : List UInt8}, linesF F line es = some x → ∃ tx : Nat → List UInt8, x = ((List.range es.length).map tx).flatten ∧
    ∀ (i : Nat) e, es[i]? = some e → ∃ t k n ws, e = [.int .i64 t, .int .i64 k, .sl n ws] ∧ strR (F line [.t (.agg e)] []) = some (tx i)
  | [], x, h => by
    simp only [linesF, Option.some.injEq] at h
    subst h
    exact ⟨fun _ => [], rfl, fun i e h => by simp at h⟩
  | e :: es, x, h => by
    unfold linesF at h
    split at h
    · rename_i he; cases he
    · rename_i t k n ws l' he
      cases he
      split at h
      · rename_i s r hs hr
        cases h
        obtain ⟨tx, hx, ht⟩ := linesF_get hr
        refine ⟨fun i => match i with | 0 => s | i + 1 => tx i, ?_, fun i e hi => ?_⟩
        · rw [List.length_cons, List.range_succ_eq_map, List.map_cons, List.flatten_cons, List.map_map, hx]
          rfl
        · cases i with
          | zero => simp at hi; subst hi; exact ⟨_, _, _, _, rfl, hs⟩
          | succ i => exact ht i e (by simpa using hi)
      · cases h
    · cases h

def slA' : Value → Option Addr | .slice a _ _ => a | _ => none
def slL' : Value → Nat | .slice _ l _ => l | _ => 0
def slC' : Value → Nat | .slice _ _ c => c | _ => 0
def inV : Value → Int | .int _ n => n | _ => 0

theorem okf_15 : hasN 15 E.okf = true := by kernel_rfl
theorem okf_21 : hasN 21 E.okf = true := by kernel_rfl
theorem okf_23 : hasN 23 E.okf = true := by kernel_rfl

theorem s_hBook : ∀ F, FSound E F → ∀ args rs, (hBook 15 21 23).run F args = some rs → FOk E 7 args [] rs [] := by
  intro F hF args rs h
  replace h : bookRun 15 21 23 F args = some rs := h
  unfold bookRun at h
  split at h
  · rename_i es n
    split at h
    · rename_i err herr
      intro C hok hC us hv
      have hv0 := hv
      obtain ⟨u, rfl, hu⟩ := one_arg hv
      obtain ⟨cs, rfl, hcs⟩ := hu
      obtain ⟨c0, c1, rfl, p0, p1⟩ : ∃ c0 c1, cs = #[c0, c1] ∧ C.P (.sl 3 es) c0 ∧ C.P (.int .u64 n) c1 := by
        cases hc : cs.toList with
        | nil => rw [hc] at hcs; exact hcs.elim
        | cons c0 r => cases r with
          | nil => rw [hc] at hcs; exact hcs.2.elim
          | cons c1 r => cases r with
            | nil => rw [hc] at hcs; exact ⟨c0, c1, by rw [← Array.toArray_toList (xs := cs), hc], hcs.1, hcs.2.1⟩
            | cons => rw [hc] at hcs; exact hcs.2.2.elim
      have hck : ∀ W, Below C.w.heap.size C.w W → Calls Tryz.prog 15 #[.agg #[c0, c1]] W fun e w' => e = .returned (.int .i64 err) ∧ Below W.heap.size W w' := fun W hW =>
        call_int hF okf_15 herr hok hC (Grow.of_below hW) hv0
      split at h
      · rename_i h0
        split at h
        · rename_i x y hx hy
          split at h
          · rename_i hb
            cases h
            obtain ⟨tx, rfl, htx⟩ := linesF_get hx
            have key : ∃ f : Nat → Nat → Value, ((∃ a cap, c0 = .slice a 0 cap ∧ es.length = 0) ∨ ∃ b off cap, c0 = .slice (some ⟨b, off, none⟩) es.length cap ∧ b < C.w.heap.size ∧ ∀ i j e c, es[i]? = some e → e[j]? = some c → C.w.cell? ⟨b, off + i * 3 + j, none⟩ = some (f i j)) ∧ ∀ i j e c, es[i]? = some e → e[j]? = some c → C.P c (f i j) := by
              cases p0 with
              | sl0 _ a cap => exact ⟨fun _ _ => Go.undef, .inl ⟨_, _, rfl, rfl⟩, fun i j e c h => by simp at h⟩
              | sl _ _ b off cap f hb hO hc hz hcell hv2 => exact ⟨f, .inr ⟨b, off, cap, rfl, hb, hcell⟩, hv2⟩
            obtain ⟨f, hE, hf⟩ := key
            have hel : ∀ i, i < es.length → f i 0 = .int .i64 (inV (f i 0)) ∧ f i 1 = .int .i64 (inV (f i 1)) ∧ f i 2 = .slice (slA' (f i 2)) (slL' (f i 2)) (slC' (f i 2)) := by
              intro i hi
              obtain ⟨t, k, m, ws, he, _⟩ := htx i _ (List.getElem?_eq_getElem hi)
              have hi' := List.getElem?_eq_getElem hi
              rw [he] at hi'
              have h0 := hf i 0 _ _ hi' rfl
              have h1 := hf i 1 _ _ hi' rfl
              have h2 := hf i 2 _ _ hi' rfl
              refine ⟨?_, ?_, ?_⟩
              · generalize f i 0 = u at h0 ⊢; cases h0; rfl
              · generalize f i 1 = u at h1 ⊢; cases h1; rfl
              · generalize f i 2 = u at h2 ⊢; cases h2 <;> rfl
            refine (callsIn_wide.1 (book_walk c0 c1 p0.oneCell p1.oneCell es.length (fun i => inV (f i 0)) (fun i => inV (f i 1)) (fun i => slA' (f i 2)) (fun i => slL' (f i 2)) (fun i => slC' (f i 2)) C.w err tx y (fun _ => hb.1) ?_ hck ?_ ?_ (fun _ => hb.2))).mono ?_
            · intro _
              rcases hE with h | ⟨b, off, cap, e, hlt, hcc⟩
              · exact .inl h
              · refine .inr ⟨b, off, cap, e, hlt, fun j hj => ?_⟩
                obtain ⟨t, k, m, ws, he, _⟩ := htx j _ (List.getElem?_eq_getElem hj)
                have hj' := List.getElem?_eq_getElem hj
                rw [he] at hj'
                obtain ⟨e0, e1, e2⟩ := hel j hj
                exact ⟨e0 ▸ hcc j 0 _ _ hj' rfl, e1 ▸ hcc j 1 _ _ hj' rfl, e2 ▸ hcc j 2 _ _ hj' rfl⟩
            · intro _ k hk W hW
              obtain ⟨t, kk, m, ws, he, hs⟩ := htx k _ (List.getElem?_eq_getElem hk)
              obtain ⟨e0, e1, e2⟩ := hel k hk
              rw [← e0, ← e1, ← e2]
              have hk' := List.getElem?_eq_getElem hk
              rw [he] at hk' hs
              exact call_str hF okf_21 hs hok hC (Grow.of_below hW) ⟨⟨_, rfl, hf k 0 _ _ hk' rfl, hf k 1 _ _ hk' rfl, hf k 2 _ _ hk' rfl, trivial⟩, trivial⟩
            · intro _ W hW
              exact call_str hF okf_23 hy hok hC (Grow.of_below hW) hv0
            · rintro e w' ⟨rfl, hB⟩
              have hg := Grow.of_below hB
              rw [if_pos h0]
              exact ⟨C.setW w', rfl, ext_grow C hg, ok_grow hok hg, hC, _, rfl, .str _, .int _ _, trivial⟩
          · cases h
        · cases h
      · rename_i h0
        cases h
        refine (callsIn_wide.1 (book_walk c0 c1 p0.oneCell p1.oneCell 0 (fun _ => 0) (fun _ => 0) (fun _ => none) (fun _ => 0) (fun _ => 0) C.w err (fun _ => []) [] (fun h => absurd h h0) (fun h => absurd h h0) hck (fun h => absurd h h0) (fun h => absurd h h0) (fun h => absurd h h0))).mono ?_
        rintro e w' ⟨rfl, hB⟩
        have hg := Grow.of_below hB
        rw [if_neg h0]
        exact ⟨C.setW w', rfl, ext_grow C hg, ok_grow hok hg, hC, _, rfl, .str _, .int _ _, trivial⟩
    · cases h
  · cases h

end Go.Proofs.YtiijghkfinkphaaGreatDoor.Vm

/- logbook.Append answers what its row says. -/
namespace Go.Proofs.YtiijghkfinkphaaGreatDoor.Vm
open Go Go.Proofs Go.RowKit
set_option linter.unusedVariables false
set_option linter.unusedSimpArgs false

theorem run_int {F : Fun} {f : Nat} {a : List AV} {K : Int → Ask} {rs : List RV} (h : (Ask.int f a K).run F = some rs) : ∃ n, F f a [] = some ([.p (.int .i64 n)], []) ∧ (K n).run F = some rs := by
  unfold Ask.int at h
  simp only [Ask.run] at h
  split at h
  · rename_i r hr
    split at h
    · exact ⟨_, hr, h⟩
    · cases h
  · cases h
theorem run_u64 {F : Fun} {f : Nat} {a : List AV} {K : Int → Ask} {rs : List RV} (h : (Ask.u64 f a K).run F = some rs) : ∃ n, F f a [] = some ([.p (.int .u64 n)], []) ∧ (K n).run F = some rs := by
  unfold Ask.u64 at h
  simp only [Ask.run] at h
  split at h
  · rename_i r hr
    split at h
    · exact ⟨_, hr, h⟩
    · cases h
  · cases h
theorem run_bool {F : Fun} {f : Nat} {a : List AV} {K : Bool → Ask} {rs : List RV} (h : (Ask.bool f a K).run F = some rs) : ∃ n, F f a [] = some ([.p (.bool n)], []) ∧ (K n).run F = some rs := by
  unfold Ask.bool at h
  simp only [Ask.run] at h
  split at h
  · rename_i r hr
    split at h
    · exact ⟨_, hr, h⟩
    · cases h
  · cases h
theorem run_str {F : Fun} {f : Nat} {a : List AV} {K : List UInt8 → Ask} {rs : List RV} (h : (Ask.str f a K).run F = some rs) : ∃ n, F f a [] = some ([.p (.str n)], []) ∧ (K n).run F = some rs := by
  unfold Ask.str at h
  simp only [Ask.run] at h
  split at h
  · rename_i r hr
    split at h
    · exact ⟨_, hr, h⟩
    · cases h
  · cases h
theorem run_entry {F : Fun} {f : Nat} {t k : Int} {n : Nat} {ws : List (List PV)} {K : List PV → Ask} {rs : List RV} (h : (Ask.entry f t k n ws K).run F = some rs) :
    ∃ n' ws', F f [.t (.agg [.int .i64 t, .int .i64 k, .sl n ws])] [] = some ([.agg [.int .i64 t, .int .i64 k, .sl n' ws']], []) ∧ (K [.int .i64 t, .int .i64 k, .sl n' ws']).run F = some rs := by
  unfold Ask.entry at h
  simp only [Ask.run] at h
  split at h
  · rename_i r hr
    split at h
    · rename_i t' k' n' ws'
      cases hc : (t == t' && k == k') with
      | false => rw [hc] at h; cases h
      | true =>
        rw [hc] at h
        simp only [Bool.and_eq_true, beq_iff_eq] at hc
        obtain ⟨rfl, rfl⟩ := hc
        exact ⟨n', ws', hr, h⟩
    · cases h
  · cases h
theorem run_copies {F : Fun} {cp : Nat} : ∀ {es : List (List PV)} {K : List (List PV) → Ask} {rs : List RV}, (askCopies cp es K).run F = some rs →
    ∃ cs : List (List PV), cs.length = es.length ∧ (K cs).run F = some rs ∧ ∀ (i : Nat) (e : List PV), es[i]? = some e → ∃ t k n ws n' ws', e = [PV.int .i64 t, PV.int .i64 k, PV.sl n ws] ∧ cs[i]? = some [PV.int .i64 t, PV.int .i64 k, PV.sl n' ws'] ∧
      F cp [.t (.agg [.int .i64 t, .int .i64 k, .sl n ws])] [] = some ([.agg [.int .i64 t, .int .i64 k, .sl n' ws']], [])
  | [], K, rs, h => ⟨[], rfl, h, fun i e h => by simp at h⟩
  | e :: es, K, rs, h => by
    simp only [askCopies] at h
    split at h
    · rename_i t k n ws
      obtain ⟨n', ws', h1, h2⟩ := run_entry h
      obtain ⟨cs, h3, h4, h5⟩ := run_copies h2
      refine ⟨[.int .i64 t, .int .i64 k, .sl n' ws'] :: cs, by simp [h3], h4, fun i e hi => ?_⟩
      cases i with
      | zero =>
        simp at hi
        subst hi
        exact ⟨t, k, n, ws, n', ws', rfl, rfl, h1⟩
      | succ i => exact h5 i e (by simpa using hi)
    · cases h

theorem okf_31 : hasN 31 E.okf = true := by kernel_rfl
theorem okf_37 : hasN 37 E.okf = true := by kernel_rfl
theorem okf_30 : hasN 30 E.okf = true := by kernel_rfl
theorem okf_32 : hasN 32 E.okf = true := by kernel_rfl

theorem call_bool {F : Fun} (hF : FSound E F) {f : Nat} (hf : hasN f E.okf = true) {args : List AV} {s : Bool} (h : F f args [] = some ([.p (.bool s)], [])) {C : Ctx} (hok : Ok C) (hC : C.h = []) {W : World} (hg : Grow C.w W) {us : Array Value} (hv : All2 (VA C) args us.toList) :
    Calls E.P f us W fun e w' => e = .returned (.bool s) ∧ Below W.heap.size W w' := by
  refine (FOk.at (hF.fn f args [] _ _ h hf) hok hC hg hv).mono fun e w' ⟨u, he, D, hw, hx, _, _, hu⟩ => ?_
  subst he
  refine ⟨congrArg _ (by cases hu; rfl), ?_⟩
  rw [← hw]
  exact below_ext hx hC (Nat.le_refl _)
theorem call_u64 {F : Fun} (hF : FSound E F) {f : Nat} (hf : hasN f E.okf = true) {args : List AV} {s : Int} (h : F f args [] = some ([.p (.int .u64 s)], [])) {C : Ctx} (hok : Ok C) (hC : C.h = []) {W : World} (hg : Grow C.w W) {us : Array Value} (hv : All2 (VA C) args us.toList) :
    Calls E.P f us W fun e w' => e = .returned (.int .u64 s) ∧ Below W.heap.size W w' := by
  refine (FOk.at (hF.fn f args [] _ _ h hf) hok hC hg hv).mono fun e w' ⟨u, he, D, hw, hx, _, _, hu⟩ => ?_
  subst he
  refine ⟨congrArg _ (by cases hu; rfl), ?_⟩
  rw [← hw]
  exact below_ext hx hC (Nat.le_refl _)

theorem cells3 {P : PV → Value → Prop} {t k : Int} {x : PV} {us : Array Value} (hi : ∀ n u, P (.int .i64 n) u → u = .int .i64 n) (h : All2 P [.int .i64 t, .int .i64 k, x] us.toList) : ∃ d, us = #[.int .i64 t, .int .i64 k, d] ∧ P x d := by
  cases hc : us.toList with
  | nil => rw [hc] at h; exact h.elim
  | cons c0 r => cases r with
    | nil => rw [hc] at h; exact h.2.elim
    | cons c1 r => cases r with
      | nil => rw [hc] at h; exact h.2.2.elim
      | cons c2 r => cases r with
        | nil =>
          rw [hc] at h
          refine ⟨c2, ?_, h.2.2.1⟩
          rw [← Array.toArray_toList (xs := us), hc, hi _ _ h.1, hi _ _ h.2.1]
        | cons => rw [hc] at h; exact h.2.2.2.elim
theorem vp_int64 {w : World} {O : Nat → Prop} (n : Int) (u : Value) (h : VP w O (.int .i64 n) u) : u = .int .i64 n := by cases h; rfl

theorem copy_call {F : Fun} (hF : FSound E F) {t k : Int} {n n' : Nat} {ws ws' : List (List PV)} (h : F 31 [.t (.agg [.int .i64 t, .int .i64 k, .sl n ws])] [] = some ([.agg [.int .i64 t, .int .i64 k, .sl n' ws']], [])) {C : Ctx} (hok : Ok C) (hC : C.h = []) {W : World} (hW : Below C.w.heap.size C.w W)
    {Y : Nat → Prop} (hY : ∀ b, Y b → C.w.heap.size ≤ b ∧ b < W.heap.size) {d : Value} (hd : C.P (.sl n ws) d) :
    Calls E.P 31 #[.agg #[.int .i64 t, .int .i64 k, d]] W fun e w' => ∃ c, e = .returned (.agg #[.int .i64 t, .int .i64 k, c]) ∧ c.oneCell' = true ∧ VP w' (fun b => C.X b ∨ Y b) (.sl n' ws') c ∧ Below W.heap.size W w' := by
  have hg := Grow.of_below hW
  have hph := P_hide hC hg (fun b hb => (hY b hb).1) hd
  refine (FOk.atX (hF.fn 31 _ [] _ _ h okf_31) hok hC hg (Y := Y) (us := #[.agg #[.int .i64 t, .int .i64 k, d]]) (fun b hb => (hY b hb).2) ⟨⟨_, rfl, .int _ _, .int _ _, hph, trivial⟩, trivial⟩).mono fun e w' ⟨u, he, D, hw, hx, _, hDh, hu⟩ => ?_
  subst he
  obtain ⟨us, rfl, ht⟩ := hu
  obtain ⟨c, rfl, hc⟩ := cells3 vp_int64 ht
  subst hw
  refine ⟨c, rfl, hc.oneCell, VP.ext (Nat.le_refl _) (fun _ _ _ => rfl) (fun b hb ho => .inl ?_) hc, below_ext hx hC (Nat.le_refl _)⟩
  rw [hx.X]
  exact ho

theorem badBook_run {F : Fun} {k : Int} {rs : List RV} (h : (badBook k).run F = some rs) : rs = [.agg [.nils, .int .u64 0], .p (.int .i64 k)] := by
  simp only [badBook, Ask.run, Option.some.injEq] at h
  exact h.symm

theorem rowF_get (T K : Nat → Int) (Cs : Nat → Value) : ∀ (n i : Nat), i < n → (rowF T K Cs n)[i * 3]? = some (.int .i64 (T i)) ∧ (rowF T K Cs n)[i * 3 + 1]? = some (.int .i64 (K i)) ∧ (rowF T K Cs n)[i * 3 + 2]? = some (Cs i)
  | 0, i, h => absurd h (by omega)
  | n + 1, i, h => by
    have hl : (rowF T K Cs n).length = n * 3 := by
      clear h
      induction n with
      | zero => rfl
      | succ n ih => rw [rowF_succ, List.length_append, ih]; simp; omega
    rw [rowF_succ]
    rcases Nat.lt_or_ge i n with hlt | hge
    · obtain ⟨h0, h1, h2⟩ := rowF_get T K Cs n i hlt
      rw [List.getElem?_append_left (by omega), List.getElem?_append_left (by omega), List.getElem?_append_left (by omega)]
      exact ⟨h0, h1, h2⟩
    · have : i = n := by omega
      subst this
      rw [List.getElem?_append_right (by omega), List.getElem?_append_right (by omega), List.getElem?_append_right (by omega), hl]
      refine ⟨?_, ?_, ?_⟩
      · rw [Nat.sub_self]; rfl
      · rw [show i * 3 + 1 - i * 3 = 1 by omega]; rfl
      · rw [show i * 3 + 2 - i * 3 = 2 by omega]; rfl

theorem row_vp {w' : World} {O : Nat → Prop} {base n : Nat} {T K : Nat → Int} {Cs : Nat → Value} {v : Value} {L : List (List PV)} (hL : L.length = n) (hn : 0 < n) (hown : w'.ownsRow base 51 3 v n (rowF T K Cs n)) (hO : ∀ b, O b → b < base)
    (hel : ∀ j, j < n → ∃ n' ws1, L[j]? = some [.int .i64 (T j), .int .i64 (K j), .sl n' ws1] ∧ VP w' O (.sl n' ws1) (Cs j)) : VP w' O (.sl 3 L) v := by
  have hcl := fun g (hg : v.ownBlock = some g) => hown.cells hg
  rcases hown.2 with ⟨_, h0⟩ | ⟨g, cap, cur, rfl, hbg, hg, hnc, hcm, hcs, htake⟩
  · omega
  have hcl := hcl g rfl
  rw [← hL]
  refine .sl 3 L g 0 cap (fun i j => match j with | 0 => .int .i64 (T i) | 1 => .int .i64 (K i) | _ => Cs i) (Array.getElem?_eq_some_iff.1 hg).1 (fun ho => by have := hO g ho; omega) (by omega) ?_ ?_ ?_
  · intro e he
    obtain ⟨i, hi, rfl⟩ := List.mem_iff_getElem.1 he
    obtain ⟨n', ws1, h1, _⟩ := hel i (by omega)
    rw [List.getElem?_eq_getElem hi, Option.some.injEq] at h1
    rw [h1]; rfl
  · intro i j e c he hj
    have hi : i < L.length := (List.getElem?_eq_some_iff.1 he).1
    obtain ⟨n', ws1, h1, _⟩ := hel i (by omega)
    rw [h1, Option.some.injEq] at he
    subst he
    obtain ⟨r0, r1, r2⟩ := rowF_get T K Cs n i (by omega)
    have a0 := hcl _ _ r0
    have a1 := hcl _ _ r1
    have a2 := hcl _ _ r2
    rw [add0] at a0 a1 a2
    match j, hj with
    | 0, _ => exact a0
    | 1, _ => rw [Nat.add_assoc]; exact a1
    | 2, _ => rw [Nat.add_assoc]; exact a2
    | j + 3, hj => simp at hj
  · intro i j e c he hj
    have hi : i < L.length := (List.getElem?_eq_some_iff.1 he).1
    obtain ⟨n', ws1, h1, h2⟩ := hel i (by omega)
    rw [h1, Option.some.injEq] at he
    subst he
    match j, hj with
    | 0, hj => simp at hj; subst hj; exact .int _ _
    | 1, hj => simp at hj; subst hj; exact .int _ _
    | 2, hj => simp at hj; subst hj; exact h2
    | j + 3, hj => simp at hj

set_option maxHeartbeats 1000000 in
theorem s_hAppend : ∀ F, FSound E F → ∀ args rs, (hAppend 15 37 30 31 21 32).run F args = some rs → FOk E 16 args [] rs [] := by
  intro F hF args rs h
  replace h : (appT 15 37 30 31 21 32 args).run F = some rs := h
  unfold appT at h
  split at h
  case h_2 => cases h
  rename_i es n t k m ws
  obtain ⟨err, herr, h⟩ := run_int h
  intro C hok hC us hv
  obtain ⟨u, v, rfl, hu, hw⟩ := two_args hv
  have hu0 := hu
  have hw0 := hw
  obtain ⟨cs0, rfl, hcs⟩ := hu
  obtain ⟨ds, rfl, hds⟩ := hw
  obtain ⟨d2, rfl, pd⟩ := cells3 vp_int64 hds
  obtain ⟨c0, rfl, p0⟩ : ∃ c0, cs0 = #[c0, .int .u64 n] ∧ C.P (.sl 3 es) c0 := by
    cases hc : cs0.toList with
    | nil => rw [hc] at hcs; exact hcs.elim
    | cons c0 r => cases r with
      | nil => rw [hc] at hcs; exact hcs.2.elim
      | cons c1 r => cases r with
        | nil =>
          rw [hc] at hcs
          have : c1 = .int .u64 n := by have := hcs.2.1; cases this; rfl
          exact ⟨c0, by rw [← Array.toArray_toList (xs := cs0), hc, this], hcs.1⟩
        | cons => rw [hc] at hcs; exact hcs.2.2.elim
  obtain ⟨ea, el, ec, rfl⟩ : ∃ a l c, d2 = .slice a l c := by cases pd <;> exact ⟨_, _, _, rfl⟩
  have key : ∃ (sa : Option Addr) (sc : Nat) (f : Nat → Nat → Value), c0 = .slice sa es.length sc ∧ ((∃ a cap, Value.slice sa es.length sc = .slice a 0 cap ∧ es.length = 0) ∨ ∃ b off cap, Value.slice sa es.length sc = .slice (some ⟨b, off, none⟩) es.length cap ∧ b < C.w.heap.size ∧ ∀ i j e c, es[i]? = some e → e[j]? = some c → C.w.cell? ⟨b, off + i * 3 + j, none⟩ = some (f i j)) ∧ ∀ i j e c, es[i]? = some e → e[j]? = some c → C.P c (f i j) := by
    cases p0 with
    | sl0 _ a cap => exact ⟨a, cap, fun _ _ => Go.undef, rfl, .inl ⟨_, _, rfl, rfl⟩, fun i j e c h => by simp at h⟩
    | sl _ _ b off cap f hb hO hc hz hcell hv2 => exact ⟨_, cap, f, rfl, .inr ⟨b, off, cap, rfl, hb, hcell⟩, hv2⟩
  obtain ⟨sa, sc, f, rfl, hE, hf⟩ := key
  have hck : ∀ W, Below C.w.heap.size C.w W → Calls Tryz.prog 15 #[.agg #[.slice sa es.length sc, .int .u64 n]] W fun e w' => e = .returned (.int .i64 err) ∧ Below W.heap.size W w' := fun W hW =>
    call_int hF okf_15 (args := [.t (.agg [.sl 3 es, .int .u64 n])]) (by rw [herr]; rfl) hok hC (Grow.of_below hW) ⟨hu0, trivial⟩
  have bad : ∀ code vb lb, code ≠ 0 → appCode err vb lb es.length = code → (err = 0 → ∀ W, Below C.w.heap.size C.w W → Calls Tryz.prog 37 #[.agg #[.int .i64 t, .int .i64 k, .slice ea el ec]] W fun e w' => e = .returned (.bool vb) ∧ Below W.heap.size W w') →
      (err = 0 → vb = true → ∀ W, Below C.w.heap.size C.w W → Calls Tryz.prog 30 #[.agg #[.slice sa es.length sc, .int .u64 n], .agg #[.int .i64 t, .int .i64 k, .slice ea el ec]] W fun e w' => e = .returned (.bool lb) ∧ Below W.heap.size W w') →
      rs = [.agg [.nils, .int .u64 0], .p (.int .i64 code)] →
      Calls E.P 16 #[.agg #[.slice sa es.length sc, .int .u64 n], .agg #[.int .i64 t, .int .i64 k, .slice ea el ec]] C.w fun e w' => match e with
        | .returned u => ∃ D : Ctx, D.w = w' ∧ Ext C D ∧ Ok D ∧ D.h = ([] ++ rawB rs).map Ent.blk ∧ VA D (valOf (rawT 0 rs)) u
        | _ => False := by
    intro code vb lb hc0 hcode hval hlat hrs
    subst hrs
    refine (app_bad sa es.length sc n t k ea el ec C.w err vb lb hck hval hlat (by rw [hcode]; exact hc0)).mono ?_
    rintro e w' ⟨rfl, hB⟩
    have hg := Grow.of_below hB
    rw [hcode]
    exact ⟨C.setW w', rfl, ext_grow C hg, ok_grow hok hg, hC, _, rfl, ⟨_, rfl, .nils, .int _ _, trivial⟩, .int _ _, trivial⟩
  cases hce : (err != 0) with
  | true =>
    rw [hce] at h
    have h0 : err ≠ 0 := by simpa using hce
    exact bad 72 false false (by decide) (by simp [appCode, h0]) (fun e => absurd e h0) (fun e => absurd e h0) (badBook_run h)
  | false =>
    rw [hce] at h
    obtain rfl : err = 0 := by simpa using hce
    simp only [cond_false] at h
    obtain ⟨vb, hvb, h⟩ := run_bool h
    have hval : ∀ W, Below C.w.heap.size C.w W → Calls Tryz.prog 37 #[.agg #[.int .i64 t, .int .i64 k, .slice ea el ec]] W fun e w' => e = .returned (.bool vb) ∧ Below W.heap.size W w' := fun W hW =>
      call_bool hF okf_37 hvb hok hC (Grow.of_below hW) (us := #[.agg #[.int .i64 t, .int .i64 k, .slice ea el ec]]) ⟨hw0, trivial⟩
    cases vb with
    | false => exact bad 72 false false (by decide) (by simp [appCode]) (fun _ => hval) (fun _ e => by cases e) (badBook_run h)
    | true =>
      simp only [cond_true] at h
      obtain ⟨lb, hlb, h⟩ := run_bool h
      have hlat : ∀ W, Below C.w.heap.size C.w W → Calls Tryz.prog 30 #[.agg #[.slice sa es.length sc, .int .u64 n], .agg #[.int .i64 t, .int .i64 k, .slice ea el ec]] W fun e w' => e = .returned (.bool lb) ∧ Below W.heap.size W w' := fun W hW =>
        call_bool hF okf_30 hlb hok hC (Grow.of_below hW) (us := #[.agg #[.slice sa es.length sc, .int .u64 n], .agg #[.int .i64 t, .int .i64 k, .slice ea el ec]]) ⟨hu0, hw0, trivial⟩
      cases lb with
      | false => exact bad 16 true false (by decide) (by simp [appCode]) (fun _ => hval) (fun _ _ => hlat) (badBook_run h)
      | true =>
        simp only [cond_true] at h
        cases h200 : Nat.beq es.length 200 with
        | true =>
          rw [h200] at h
          have h2 : es.length = 200 := Nat.eq_of_beq_eq_true h200
          exact bad 2 true true (by decide) (by simp [appCode, h2]) (fun _ => hval) (fun _ _ => hlat) (badBook_run h)
        | false =>
          rw [h200] at h
          have h2 : es.length ≠ 200 := Nat.ne_of_beq_eq_false h200
          simp only [cond_false] at h
          cases hle : Nat.ble es.length 100000 with
          | false => rw [hle] at h; cases h
          | true =>
            rw [hle] at h
            simp only [cond_true] at h
            have hlen : es.length ≤ 100000 := Nat.le_of_ble_eq_true hle
            obtain ⟨cs, hcl, h, hcp⟩ := run_copies h
            obtain ⟨m', ws', hce', h⟩ := run_entry h
            obtain ⟨s, hs, h⟩ := run_str h
            obtain ⟨x, hx, h⟩ := run_u64 h
            have hrs : rs = [.agg [.sl 3 (cs ++ [[.int .i64 t, .int .i64 k, .sl m' ws']]), .int .u64 x], .p (.int .i64 0)] := by
              simp only [Ask.run, Option.some.injEq] at h
              exact h.symm
            clear h bad
            obtain ⟨T, hT⟩ : ∃ T : Nat → Int, T = fun i => if i < es.length then inV (f i 0) else t := ⟨_, rfl⟩
            obtain ⟨K, hK⟩ : ∃ K : Nat → Int, K = fun i => if i < es.length then inV (f i 1) else k := ⟨_, rfl⟩
            have hel : ∀ i, i < es.length → f i 0 = .int .i64 (T i) ∧ f i 1 = .int .i64 (K i) ∧ f i 2 = .slice (slA' (f i 2)) (slL' (f i 2)) (slC' (f i 2)) ∧ ∃ n' ws n ws0, es[i]? = some [.int .i64 (T i), .int .i64 (K i), .sl n ws0] ∧ cs[i]? = some [.int .i64 (T i), .int .i64 (K i), .sl n' ws] ∧
                F 31 [.t (.agg [.int .i64 (T i), .int .i64 (K i), .sl n ws0])] [] = some ([.agg [.int .i64 (T i), .int .i64 (K i), .sl n' ws]], []) ∧ C.P (.sl n ws0) (f i 2) := by
              intro i hi
              obtain ⟨t', k', n0, ws0, n', ws1, he, hc, hcall⟩ := hcp i _ (List.getElem?_eq_getElem hi)
              have hi' := List.getElem?_eq_getElem hi
              rw [he] at hi'
              have g0 := hf i 0 _ _ hi' rfl
              have g1 := hf i 1 _ _ hi' rfl
              have g2 := hf i 2 _ _ hi' rfl
              have a0 : f i 0 = .int .i64 t' := vp_int64 _ _ g0
              have a1 : f i 1 = .int .i64 k' := vp_int64 _ _ g1
              have eT : T i = t' := by simp only [hT, if_pos hi, a0, inV]
              have eK : K i = k' := by simp only [hK, if_pos hi, a1, inV]
              rw [eT, eK]
              refine ⟨a0, a1, ?_, n', ws1, n0, ws0, hi', hc, hcall, g2⟩
              generalize f i 2 = u at g2 ⊢
              cases g2 <;> rfl
            have hall : ∀ j, j < es.length + 1 → ∃ n' ws1, (cs ++ [[PV.int .i64 t, PV.int .i64 k, PV.sl m' ws']])[j]? = some [.int .i64 (T j), .int .i64 (K j), .sl n' ws1] := by
              intro j hj
              rcases Nat.lt_or_ge j es.length with hlt | hge
              · obtain ⟨_, _, _, n', ws1, _, _, _, hc, _⟩ := hel j hlt
                exact ⟨n', ws1, by rw [List.getElem?_append_left (by omega)]; exact hc⟩
              · have : j = es.length := by omega
                subst this
                refine ⟨m', ws', ?_⟩
                rw [List.getElem?_append_right (by omega), hcl]
                simp [hT, hK]
            subst hrs
            refine (app_good sa es.length sc n t k ea el ec T K (fun i => slA' (f i 2)) (fun i => slL' (f i 2)) (fun i => slC' (f i 2)) C.w
              (fun j Y c W => ∀ y, (cs ++ [[PV.int .i64 t, PV.int .i64 k, PV.sl m' ws']])[j]? = some y → VP W (fun b => C.X b ∨ Y b) (nth .nilp y 2) c) hlen h2 (by simp [hT]) (by simp [hK]) ⟨s.toArray⟩ x hck hval hlat ?_ ?_ ?_ ?_ ?_ ?_).mono ?_
            · rcases hE with h | ⟨b, off, cap, e, hlt, hcc⟩
              · exact .inl h
              · refine .inr ⟨b, off, cap, e, hlt, fun j hj => ?_⟩
                obtain ⟨e0, e1, e2, _, _, _, _, he, _⟩ := hel j hj
                exact ⟨e0 ▸ hcc j 0 _ _ he rfl, e1 ▸ hcc j 1 _ _ he rfl, e2 ▸ hcc j 2 _ _ he rfl⟩
            · intro j hj W Y hW hY
              obtain ⟨e0, e1, e2, n', ws1, n0, ws0, he, hc, hcall, hp⟩ := hel j hj
              refine (copy_call hF hcall hok hC hW hY (e2 ▸ hp)).mono ?_
              rintro e w' ⟨c, rfl, h1, h2', h3⟩
              refine ⟨c, rfl, h1, fun y hy => ?_, h3⟩
              rw [List.getElem?_append_left (by omega), hc] at hy
              cases hy
              exact h2'
            · intro W Y hW hY
              refine (copy_call hF hce' hok hC hW hY pd).mono ?_
              rintro e w' ⟨c, rfl, h1, h2', h3⟩
              refine ⟨c, rfl, h1, fun y hy => ?_, h3⟩
              rw [List.getElem?_append_right (by omega), hcl] at hy
              simp at hy
              subst hy
              exact h2'
            · intro W hW
              exact call_str hF okf_21 (by rw [hs]; rfl) hok hC (Grow.of_below hW) (us := #[.agg #[.int .i64 t, .int .i64 k, .slice ea el ec]]) (args := [.t (.agg [.int .i64 t, .int .i64 k, .sl m ws])]) ⟨hw0, trivial⟩
            · intro W hW
              exact call_u64 hF okf_32 hx hok hC (Grow.of_below hW) (us := #[.int .u64 n, .string ⟨s.toArray⟩]) ⟨.int _ _, .str _, trivial⟩
            · intro j Y Y' c W W' hr hsz hk hY y hy
              exact VP.ext hsz (fun b hb ho => hk b hb (fun h => ho (.inr h))) (fun b hb ho => ho.imp id (hY b hb)) (hr y hy)
            · rintro e w' ⟨v, Cs, rfl, hv1, hown, hR, hB⟩
              have hg := Grow.of_below hB
              refine ⟨C.setW w', rfl, ext_grow C hg, ok_grow hok hg, hC, _, rfl, ⟨_, rfl, ?_, .int _ _, trivial⟩, .int _ _, trivial⟩
              refine row_vp (n := es.length + 1) (by simp [hcl]) (by omega) hown (fun b ho => ?_) (fun j hj => ?_)
              · rcases ho with h | h
                · exact (hok.x b h).1
                · exact absurd h (no_own (C := C.setW w') hC b)
              · obtain ⟨n', ws1, h1⟩ := hall j hj
                refine ⟨n', ws1, h1, VP.ext (Nat.le_refl _) (fun _ _ _ => rfl) (fun b _ ho => ?_) ((hR j hj).2 _ h1)⟩
                rcases ho with h | h
                · exact .inl h
                · exact absurd h (no_own (C := C.setW w') hC b)

end Go.Proofs.YtiijghkfinkphaaGreatDoor.Vm
