import Derived.Test.YtdbajagnhanpfaaDoorAppS
import Derived.Lib.BufferMore
/- LogbookLimits, walked. -/
namespace Go.Proofs.YtdbajagnhanpfaaDoor.Vm
open Go Go.Proofs Go.RowKit
set_option linter.unusedVariables false
set_option linter.unusedSimpArgs false

/-- Where the book stands after n entries. -/
structure LimRel (w : World) (p n : Nat) (sm : Int) (v : Value) (Cs : Nat → Value) (W : World) : Prop where
  below : Below w.heap.size w W
  box : W.heap[p]? = some (.cells #[v, .int .u64 sm] 25 (0, 0))
  lo : w.heap.size ≤ p
  own : W.ownsRow (p + 1) 29 3 v n (rowF (fun j => (j : Int)) (fun _ => 1) Cs n)
  el : ∀ j, j < n → ∃ g, Cs j = .slice (some ⟨g, 0, none⟩) 1 1 ∧ p + 1 ≤ g ∧ v.ownBlock ≠ some g ∧ W.heap[g]? = some (.cells #[.int .i64 ((j % 4 : Nat) : Int)] 3 (0, 0))

section
variable {w W W' : World} {p n : Nat} {sm : Int} {v : Value} {Cs : Nat → Value}
theorem LimRel.hi (h : LimRel w p n sm v Cs W) : p < W.heap.size := (Array.getElem?_eq_some_iff.1 h.box).1
theorem LimRel.step (h : LimRel w p n sm v Cs W) (hB : Below W.heap.size W W') : LimRel w p n sm v Cs W' := by
  refine ⟨h.below.trans (hB.mono h.below.size), (hB.block _ h.hi).trans h.box, h.lo, h.own.kept (row := none) ⟨hB.os, hB.tape, hB.output, hB.size, fun k hk _ => hB.block k hk⟩ (by cases v.ownBlock <;> simp), fun j hj => ?_⟩
  obtain ⟨g, h1, h2, h3, h4⟩ := h.el j hj
  exact ⟨g, h1, h2, h3, (hB.block _ (Array.getElem?_eq_some_iff.1 h4).1).trans h4⟩

theorem lim_next (h : LimRel w p n sm v Cs W) {w' w1 w2 : World} (hB : Below W.heap.size W w') {g0 : Nat} (hg0 : W.heap.size ≤ g0) (hw0 : w'.heap[g0]? = some (.cells #[.int .i64 ((n % 4 : Nat) : Int)] 3 (0, 0))) {o : Obj} (hgrow : (w'.alloc o).grownBy w1 v.ownBlock) {gg cap : Nat}
    (hown2 : w1.ownsRow (p + 1) 29 3 (.slice (some ⟨gg, 0, none⟩) (n + 1) cap) (n + 1) (rowF (fun j => (j : Int)) (fun _ => 1) Cs n ++ [.int .i64 (n : Int), .int .i64 1, .slice (some ⟨g0, 0, none⟩) 1 1])) (hat : v.ownBlock = some gg ∨ gg = w'.heap.size + 1) (hB2 : Below w1.heap.size w1 w2) (x : Int) :
    LimRel w p (n + 1) x (.slice (some ⟨gg, 0, none⟩) (n + 1) cap) (fun j => if j = n then .slice (some ⟨g0, 0, none⟩) 1 1 else Cs j) ((w2.setCell ⟨p, 0, none⟩ (.slice (some ⟨gg, 0, none⟩) (n + 1) cap)).setCell ⟨p, 1, none⟩ (.int .u64 x)) := by
  have h' := h.step hB
  have hhi := h.hi
  have hs' := hB.size
  have hs1 : w'.heap.size + 1 ≤ w1.heap.size := by have := hgrow.size; simpa using this
  have hs2 := hB2.size
  have hvb : ∀ b, v.ownBlock = some b → p + 1 ≤ b ∧ b < W.heap.size := fun b hb => h.own.lt b hb
  have hgb := hown2.lt gg rfl
  have same : ∀ b, b < w'.heap.size → v.ownBlock ≠ some b → w2.heap[b]? = w'.heap[b]? := fun b hb hn => (hB2.block b (by omega)).trans ((hgrow.block b (by simp; omega) (Ne.symm hn)).trans (heap_alloc_old w' o hb))
  obtain ⟨A, hA⟩ : ∃ A, w2.setCell ⟨p, 0, none⟩ (.slice (some ⟨gg, 0, none⟩) (n + 1) cap) = A := ⟨_, rfl⟩
  obtain ⟨F, hF⟩ : ∃ F, A.setCell ⟨p, 1, none⟩ (.int .u64 x) = F := ⟨_, rfl⟩
  have gA : w2.grownBy A (some p) := by rw [← hA]; exact Lib.grownBy_setCell _ _ _ _
  have gF : A.grownBy F (some p) := by rw [← hF]; exact Lib.grownBy_setCell _ _ _ _
  have hpb : w2.heap[p]? = some (.cells #[v, .int .u64 sm] 25 (0, 0)) := (same p (by omega) (fun e => by have := (hvb _ e).1; omega)).trans h'.box
  have hAb : A.heap[p]? = some (.cells #[.slice (some ⟨gg, 0, none⟩) (n + 1) cap, .int .u64 sm] 25 (0, 0)) := by rw [← hA, Lib.heap_setCell_same hpb]; rfl
  have sA := gA.size
  have sF := gF.size
  have sameF : ∀ b, b < w2.heap.size → b ≠ p → F.heap[b]? = w2.heap[b]? := fun b hb hn => (gF.block b (by omega) (by simp only [ne_eq, Option.some.injEq]; omega)).trans (gA.block b hb (by simp only [ne_eq, Option.some.injEq]; omega))
  rw [hA, hF]
  have hne : (Value.slice (some ⟨gg, 0, none⟩) (n + 1) cap).ownBlock = none ∨ (Value.slice (some ⟨gg, 0, none⟩) (n + 1) cap).ownBlock ≠ some p := .inr (by simp only [Value.ownBlock, ne_eq, Option.some.injEq]; omega)
  refine ⟨?_, ?_, h.lo, ?_, fun j hj => ?_⟩
  · have hlo := h.lo
    have b1 := below_grown (h'.below.alloc (by have := h'.below.size; omega) o) hgrow (by simp; have := h'.below.size; omega) (fun k hk => by have := (hvb k hk).1; omega)
    have b2 := b1.trans (hB2.mono b1.size)
    have b3 := below_grown b2 gA b2.size (fun k hk => by simp only [Option.some.injEq] at hk; omega)
    exact below_grown b3 gF b3.size (fun k hk => by simp only [Option.some.injEq] at hk; omega)
  · rw [← hF, Lib.heap_setCell_same hAb]; rfl
  · rw [rowF_succ, if_pos rfl, rowF_congr (Cs' := Cs) (fun j hj => if_neg (by omega))]
    exact ((hown2.kept (row := none) ⟨hB2.os, hB2.tape, hB2.output, hB2.size, fun k hk _ => hB2.block k hk⟩ (by simp [Value.ownBlock])).kept gA hne).kept gF hne
  · by_cases hjn : j = n
    · subst hjn
      have hlt := (Array.getElem?_eq_some_iff.1 hw0).1
      refine ⟨g0, if_pos rfl, by omega, ?_, ?_⟩
      · simp only [Value.ownBlock, ne_eq, Option.some.injEq]
        rcases hat with e | e
        · have := hvb _ e; omega
        · omega
      · rw [sameF g0 (by omega) (by omega), same g0 hlt (fun e => by have := hvb _ e; omega)]
        exact hw0
    · obtain ⟨g, h1, h2, h3, h4⟩ := h.el j (by omega)
      have hlt := (Array.getElem?_eq_some_iff.1 h4).1
      refine ⟨g, by rw [if_neg hjn]; exact h1, h2, ?_, ?_⟩
      · simp only [Value.ownBlock, ne_eq, Option.some.injEq]
        rcases hat with e | e
        · intro e2; subst e2; exact h3 e
        · omega
      · rw [sameF g (by omega) (by omega), same g (by omega) h3, hB.block g hlt]
        exact h4
end

theorem lim_below {w W : World} {p n : Nat} {sm : Int} {v : Value} {Cs : Nat → Value} (h : LimRel w p n sm v Cs W) {w1 : World} {o : Obj} (hgrow : (W.drew.alloc o).grownBy w1 v.ownBlock) : Below w.heap.size w w1 ∧ p < w1.heap.size := by
  have hlo := h.lo
  have hs := hgrow.size
  have hhi := h.hi
  have h0 : W.heap.size ≤ (W.drew.alloc o).heap.size := by simp
  exact ⟨below_grown (h.below.drew.alloc h.below.size o) hgrow (Nat.le_trans h.below.size h0) (fun q hq => by have := (h.own.lt _ hq).1; omega), by omega⟩

theorem lim_start {w W0 : World} {sm : Int} (hB : Below w.heap.size w W0) : LimRel w W0.heap.size 0 sm (.slice none 0 0) (fun _ => .slice none 0 0) (W0.alloc (.cells #[.slice none 0 0, .int .u64 sm] 25)) :=
  ⟨hB.alloc hB.size _, heap_alloc_new W0 _, hB.size, World.ownsRow_nil _ _ _ _, fun j hj => absurd hj (by omega)⟩

/-- Only block p of those that stand may have changed. -/
def Stay (p : Nat) (W W' : World) : Prop := W.heap.size ≤ W'.heap.size ∧ ∀ b, b < W.heap.size → b ≠ p → W'.heap[b]? = W.heap[b]?
theorem Stay.of_below {p : Nat} {W W' : World} (h : Below W.heap.size W W') : Stay p W W' := ⟨h.size, fun b hb _ => h.block b hb⟩
theorem Stay.trans {p : Nat} {A B C : World} (h : Stay p A B) (k : Stay p B C) : Stay p A C := ⟨Nat.le_trans h.1 k.1, fun b hb hn => (k.2 b (Nat.lt_of_lt_of_le hb h.1) hn).trans (h.2 b hb hn)⟩

/-- Where the second loop stands. -/
structure Lim2 (w : World) (bs : Nat → Int) (Bk : Nat → Value → World → Prop) (p k : Nat) (v : Value) (W : World) : Prop where
  below : Below w.heap.size w W
  box : W.heap[p]? = some (.cells #[v, .int .u64 (bs k)] 25 (0, 0))
  lo : w.heap.size ≤ p
  bk : Bk k v W
theorem Lim2.hi {w : World} {bs : Nat → Int} {Bk : Nat → Value → World → Prop} {p k : Nat} {v : Value} {W : World} (h : Lim2 w bs Bk p k v W) : p < W.heap.size := (Array.getElem?_eq_some_iff.1 h.box).1

theorem lim2_store {w : World} {p : Nat} {W : World} {v : Value} {s : Int} (hp : W.heap[p]? = some (.cells #[v, .int .u64 s] 25 (0, 0))) (hB : Below w.heap.size w W) (hlo : w.heap.size ≤ p) (u x : Value) :
    Below w.heap.size w ((W.setCell ⟨p, 0, none⟩ u).setCell ⟨p, 1, none⟩ x) ∧ Stay p W ((W.setCell ⟨p, 0, none⟩ u).setCell ⟨p, 1, none⟩ x) ∧ ((W.setCell ⟨p, 0, none⟩ u).setCell ⟨p, 1, none⟩ x).heap[p]? = some (.cells #[u, x] 25 (0, 0)) := by
  obtain ⟨A, hA⟩ : ∃ A, W.setCell ⟨p, 0, none⟩ u = A := ⟨_, rfl⟩
  obtain ⟨F, hF⟩ : ∃ F, A.setCell ⟨p, 1, none⟩ x = F := ⟨_, rfl⟩
  have gA : W.grownBy A (some p) := by rw [← hA]; exact Lib.grownBy_setCell _ _ _ _
  have gF : A.grownBy F (some p) := by rw [← hF]; exact Lib.grownBy_setCell _ _ _ _
  have hAb : A.heap[p]? = some (.cells #[u, .int .u64 s] 25 (0, 0)) := by rw [← hA, Lib.heap_setCell_same hp]; rfl
  have sA := gA.size
  have sF := gF.size
  rw [hA, hF]
  refine ⟨below_grown (below_grown hB gA hB.size (fun k hk => by simp only [Option.some.injEq] at hk; omega)) gF (Nat.le_trans hB.size sA) (fun k hk => by simp only [Option.some.injEq] at hk; omega), ⟨Nat.le_trans sA sF, fun b hb hn => (gF.block b (by omega) (by simp only [ne_eq, Option.some.injEq]; omega)).trans (gA.block b hb (by simp only [ne_eq, Option.some.injEq]; omega))⟩, ?_⟩
  rw [← hF, Lib.heap_setCell_same hAb]
  rfl

set_option maxRecDepth 100000 in
set_option maxHeartbeats 8000000 in
theorem lim_walk (n : Int) (hn : 0 ≤ n ∧ n ≤ 255) (w : World) (sm : Nat → Int) (tx : Nat → ByteArray) (er : Nat → Int) (ans : Bool)
    (hnew : Calls Tryd.prog 7 #[] w fun e w' => e = .returned (.agg #[.slice none 0 0, .int .u64 (sm 0)]) ∧ Below w.heap.size w w')
    (hline : ∀ j, j < 197 → ∀ W g, Below w.heap.size w W → w.heap.size ≤ g → W.heap[g]? = some (.cells #[.int .i64 ((j % 4 : Nat) : Int)] 3 (0, 0)) → Calls Tryd.prog 8 #[.agg #[.int .i64 (j : Int), .int .i64 1, .slice (some ⟨g, 0, none⟩) 1 1]] W fun e w' => e = .returned (.tuple #[.string (tx j), .int .i64 (er j)]) ∧ Below W.heap.size W w')
    (hsum : ∀ j, j < 197 → ∀ W, Below w.heap.size w W → Calls Tryd.prog 9 #[.int .u64 (sm j), .string (tx j)] W fun e w' => e = .returned (.int .u64 (sm (j + 1))) ∧ Below W.heap.size W w')
    (bs : Nat → Int) (Bk : Nat → Nat → Value → World → Prop) (hbs : bs 197 = sm 197) (hb0 : ∀ p v Cs W, LimRel w p 197 (sm 197) v Cs W → Bk p 197 v W) (hbk : ∀ p k v W W', w.heap.size ≤ p → p < W.heap.size → Bk p k v W → Stay p W W' → Bk p k v W')
    (hsame : ∀ p k v W, 200 ≤ k → k < 197 + (n % 6).toNat → Bk p k v W → bs (k + 1) = bs k ∧ Bk p (k + 1) v W)
    (happ : ∀ p k v g W, 197 ≤ k → k < 197 + (n % 6).toNat → Below w.heap.size w W → w.heap.size ≤ p → p < W.heap.size → Bk p k v W → w.heap.size ≤ g → g ≠ p → W.heap[g]? = some (.cells #[.int .i64 ((k % 4 : Nat) : Int)] 3 (0, 0)) →
      Calls Tryd.prog 10 #[.agg #[v, .int .u64 (bs k)], .agg #[.int .i64 (k : Int), .int .i64 1, .slice (some ⟨g, 0, none⟩) 1 1]] W fun e w' => ∃ ua ul uc s', e = .returned (.tuple #[.agg #[.slice ua ul uc, .int .u64 s'], .int .i64 (if k < 200 then 0 else 2)]) ∧ (k < 200 → s' = bs (k + 1) ∧ Bk p (k + 1) (.slice ua ul uc) w') ∧ Below W.heap.size W w')
    (hlast : ∀ p v g W, Below w.heap.size w W → w.heap.size ≤ p → p < W.heap.size → Bk p (197 + (n % 6).toNat) v W → w.heap.size ≤ g → W.heap[g]? = some (.cells #[.int .i64 1] 3 (0, 0)) →
      Calls Tryd.prog 10 #[.agg #[v, .int .u64 (bs (197 + (n % 6).toNat))], .agg #[.int .i64 1, .int .i64 1, .slice (some ⟨g, 0, none⟩) 1 1]] W fun e w' => ∃ ua ul uc s', e = .returned (.tuple #[.agg #[.slice ua ul uc, .int .u64 s'], .int .i64 16]) ∧ Below W.heap.size W w')
    (hsane : ∀ W, Below w.heap.size w W → Calls Tryd.prog 11 #[] W fun e w' => e = .returned (.bool ans) ∧ Below W.heap.size W w') :
    Calls Tryd.prog 3 #[.int .u8 n] w fun e w' => e = .returned (.bool ans) ∧ Below w.heap.size w w' := by
  obtain ⟨i0, hi, hz0, hz1, hz2⟩ := info_parts info29
  go_enter Tryd.func3, Tryd.ntmps3
  go_wp2_with (go_at_call 7; refine hnew.mono ?_)
  rintro e W0 ⟨rfl, hB0⟩
  have hR0 := lim_start (sm := sm 0) hB0
  go_wp2
  go_loopw [4] (fun i wr => ∃ (k : Nat) (v : Value) (Cs : Nat → Value), k ≤ 197 ∧ i = .int .i64 (k : Nat) ∧ LimRel w W0.heap.size k (sm k) v Cs wr)
    (fun i _ => 197 - (intOf i).toNat)
  case atStart => exact ⟨0, _, _, by omega, rfl, hR0⟩
  case round =>
    obtain ⟨k, v, Cs, hk, rfl, hR⟩ := hrel
    clear hR0
    by_cases hlt : k < 197
    · have hrem : IntKind.i64.wrap ((k : Int).tmod 4) = ((k % 4 : Nat) : Int) := by rw [IntKind.wrap_i64]; rw [Int.tmod_eq_emod_of_nonneg (by omega)]; omega
      have hrem2 : (k : Int).tmod 4 = ((k % 4 : Nat) : Int) := by rw [Int.tmod_eq_emod_of_nonneg (by omega)]; omega
      have hlo := hR.lo
      have hhi := hR.hi
      obtain ⟨Y1, hY1⟩ : ∃ Y1, wr.alloc (.cells #[.int .i64 ((k % 4 : Nat) : Int)] 3) = Y1 := ⟨_, rfl⟩
      obtain ⟨X, hX⟩ : ∃ X, Y1.alloc (.cells #[.int .i64 (k : Int), .int .i64 1, .slice (some ⟨wr.heap.size, 0, none⟩) 1 1] 29) = X := ⟨_, rfl⟩
      have sY : Y1.heap.size = wr.heap.size + 1 := by rw [← hY1]; simp
      have bY : Below wr.heap.size wr Y1 := by rw [← hY1]; exact (Below.refl _ wr).alloc (Nat.le_refl _) _
      have bX : Below wr.heap.size wr X := by rw [← hX]; exact bY.alloc (by omega) _
      have wX : X.heap[wr.heap.size]? = some (.cells #[.int .i64 ((k % 4 : Nat) : Int)] 3 (0, 0)) := by rw [← hX, heap_alloc_old Y1 _ (by omega), ← hY1]; exact heap_alloc_new wr _
      have hl := hline k hlt X wr.heap.size (hR.below.trans (bX.mono hR.below.size)) (by omega) wX
      rw [← hX, ← hY1] at hl
      go_wp2_with (go_at_call 8; refine hl.mono ?_)
      rintro e W1 ⟨rfl, hB1⟩
      have hB1 : Below X.heap.size X W1 := by rw [← hX, ← hY1]; exact hB1
      have bW : Below wr.heap.size wr W1 := bX.trans (hB1.mono bX.size)
      have sX : X.heap.size = wr.heap.size + 2 := by rw [← hX]; simp [sY]
      have sW := hB1.size
      have hR1 := hR.step bW
      have wW := (hB1.block wr.heap.size (by omega)).trans wX
      have eX : X.heap[wr.heap.size + 1]? = some (.cells #[.int .i64 (k : Int), .int .i64 1, .slice (some ⟨wr.heap.size, 0, none⟩) 1 1] 29 (0, 0)) := by rw [← hX, ← sY]; exact heap_alloc_new Y1 _
      have eW := (hB1.block (wr.heap.size + 1) (by omega)).trans eX
      obtain ⟨va, vl, vc, rfl⟩ := owns_form hR.own
      clear hl hX hY1 hline eX wX
      have c0 : W1.cell? ⟨W0.heap.size, 0, none⟩ = some (.slice va vl vc) := by simp [World.cell?, hR1.box]
      have c1 : W1.cell? ⟨W0.heap.size, 1, none⟩ = some (.int .u64 (sm k)) := by simp [World.cell?, hR1.box]
      have c0d : W1.drew.cell? ⟨W0.heap.size, 0, none⟩ = some (.slice va vl vc) := c0
      have c1d : W1.drew.cell? ⟨W0.heap.size, 1, none⟩ = some (.int .u64 (sm k)) := c1
      have d0 : W1.cell? ⟨wr.heap.size + 1, 0, none⟩ = some (.int .i64 (k : Int)) := by simp [World.cell?, eW]
      have e0 : W1.drew.cell? ⟨wr.heap.size + 1, 0, none⟩ = some (.int .i64 (k : Int)) := d0
      have d1 : W1.cell? ⟨wr.heap.size + 1, 1, none⟩ = some (.int .i64 1) := by simp [World.cell?, eW]
      have e1 : W1.drew.cell? ⟨wr.heap.size + 1, 1, none⟩ = some (.int .i64 1) := d1
      have d2 : W1.cell? ⟨wr.heap.size + 1, 2, none⟩ = some (.slice (some ⟨wr.heap.size, 0, none⟩) 1 1) := by simp [World.cell?, eW]
      have e2 : W1.drew.cell? ⟨wr.heap.size + 1, 2, none⟩ = some (.slice (some ⟨wr.heap.size, 0, none⟩) 1 1) := d2
      have hnp : (Value.slice va vl vc).ownBlock ≠ some W0.heap.size := fun e => by have := (hR.own.lt _ e).1; omega
      have hhi1 := hR1.hi
      have c1e : (W1.alloc (.cells #[.int .i64 (k : Int), .int .i64 1, .slice (some ⟨wr.heap.size, 0, none⟩) 1 1] 29)).cell? ⟨W0.heap.size, 1, none⟩ = some (.int .u64 (sm k)) := (World.cell?_of_block (a := ⟨W0.heap.size, 1, none⟩) (heap_alloc_old W1 _ hhi1)).trans c1
      have c0e : (W1.alloc (.cells #[.int .i64 (k : Int), .int .i64 1, .slice (some ⟨wr.heap.size, 0, none⟩) 1 1] 29)).cell? ⟨W0.heap.size, 0, none⟩ = some (.slice va vl vc) := (World.cell?_of_block (a := ⟨W0.heap.size, 0, none⟩) (heap_alloc_old W1 _ hhi1)).trans c0
      go_wp2
      go_region_law (first
        | (refine step_append_lies _ (by rfl) _ _ _ (by rfl) (W0.heap.size + 1) 29 i0 _ 3 40 Tryd.underlying22 hi hz0 hz1 hz2 rfl (by omega) (.slice va vl vc) k _ (by rfl) (hR1.own.drew.alloc _) ⟨W1.heap.size, 0, none⟩ 1 1 [.int .i64 (k : Int), .int .i64 1, .slice (some ⟨wr.heap.size, 0, none⟩) 1 1] (by rfl) (by rfl) (World.news_of_block (cs := #[.int .i64 (k : Int), .int .i64 1, .slice (some ⟨wr.heap.size, 0, none⟩) 1 1]) (t := 29) (fr := (0, 0)) (heap_alloc_new W1.drew _)) (by intro u hu; simp only [List.mem_cons, List.not_mem_nil, or_false] at hu; rcases hu with rfl | rfl | rfl <;> rfl) (by omega) (by unfold maxLen; omega) (by omega) (by simp; omega) (W1.heap.size + 1) (by simp) ?_; intro gg cap w1 hown2 hgrow hat hltg; have hpb : w1.heap[W0.heap.size]? = W1.heap[W0.heap.size]? := (hgrow.block _ (by simp; omega) (Ne.symm hnp)).trans (heap_alloc_old W1.drew _ (by show _ < W1.heap.size; omega)); have c1a := (World.cell?_of_block (a := ⟨W0.heap.size, 1, none⟩) hpb).trans c1; have c0a := (World.cell?_of_block (a := ⟨W0.heap.size, 0, none⟩) hpb).trans c0)
        | (go_simp; refine (hsum k hlt _ (lim_below hR1 hgrow).1).mono ?_; rintro e w2 ⟨rfl, hB2⟩; have hp2 := (hB2.block W0.heap.size (lim_below hR1 hgrow).2).trans (hpb.trans hR1.box); have f20 : w2.frozen? ⟨W0.heap.size, 0, none⟩ = false := (by simp [World.frozen?, hp2]); have f21 : w2.frozen? ⟨W0.heap.size, 1, none⟩ = false := (by simp [World.frozen?, hp2]); have c20 : w2.cell? ⟨W0.heap.size, 0, none⟩ = some (.slice va vl vc) := (by simp [World.cell?, hp2]); have c21 : w2.cell? ⟨W0.heap.size, 1, none⟩ = some (.int .u64 (sm k)) := (by simp [World.cell?, hp2])))
      all_goals
        have hnext := lim_next (o := .cells #[.int .i64 (k : Int), .int .i64 1, .slice (some ⟨wr.heap.size, 0, none⟩) 1 1] 29) hR bW.drew (Nat.le_refl _) wW hgrow hown2 hat hB2 (sm (k + 1))
        go_wp2
        go_roundw
        case rel => exact ⟨k + 1, _, _, by omega, by simp, hnext⟩
        case measure => simp [intOf] <;> omega
    · obtain rfl : k = 197 := by omega
      rw [show ((197 : Nat) : Int) = 197 from rfl]
      clear hnew hline hsum
      have hlo := hR.lo
      have hhi := hR.hi
      have hq0 := hb0 _ _ _ _ hR
      obtain ⟨m, hm⟩ : ∃ m : Nat, (n % 6).toNat = m := ⟨_, rfl⟩
      have hnm : n % 6 = (m : Int) := by omega
      have hm6 : m < 6 := by omega
      have hcv : IntKind.i64.wrap n = n := by rw [IntKind.wrap_i64]; omega
      have hrem : n.tmod 6 = (m : Int) := by rw [Int.tmod_eq_emod_of_nonneg (by omega)]; exact hnm
      rw [hm] at hsame happ hlast
      obtain ⟨va, vl, vc, rfl⟩ := owns_form hR.own
      have hL0 : Lim2 w bs (Bk W0.heap.size) W0.heap.size 197 (.slice va vl vc) wr := ⟨hR.below, by rw [hbs]; exact hR.box, hlo, hq0⟩
      clear hR hq0 hb0 hnm
      go_wp2
      go_loopw [9] (fun i wr => ∃ (k : Nat) (va : Option Addr) (vl vc : Nat), 197 ≤ k ∧ k ≤ 197 + m ∧ i = .int .i64 (k : Nat) ∧ Lim2 w bs (Bk W0.heap.size) W0.heap.size k (.slice va vl vc) wr)
        (fun i _ => 197 + m - (intOf i).toNat)
      case atStart => exact ⟨197, va, vl, vc, by omega, by omega, rfl, hL0⟩
      case round =>
        obtain ⟨k, va, vl, vc, hk1, hk2, rfl, hL⟩ := hrel
        clear hL0
        have hlo := hL.lo
        have hhi := hL.hi
        have c0 : wr.cell? ⟨W0.heap.size, 0, none⟩ = some (.slice va vl vc) := by simp [World.cell?, hL.box]
        have c1 : wr.cell? ⟨W0.heap.size, 1, none⟩ = some (.int .u64 (bs k)) := by simp [World.cell?, hL.box]
        by_cases hlt : k < 197 + m
        · have hrem1 : IntKind.i64.wrap ((k : Int).tmod 4) = ((k % 4 : Nat) : Int) := by rw [IntKind.wrap_i64]; rw [Int.tmod_eq_emod_of_nonneg (by omega)]; omega
          have hrem2 : (k : Int).tmod 4 = ((k % 4 : Nat) : Int) := by rw [Int.tmod_eq_emod_of_nonneg (by omega)]; omega
          obtain ⟨Y1, hY1⟩ : ∃ Y1, wr.alloc (.cells #[.int .i64 ((k % 4 : Nat) : Int)] 3) = Y1 := ⟨_, rfl⟩
          have sY : Y1.heap.size = wr.heap.size + 1 := by rw [← hY1]; simp
          have bY : Below wr.heap.size wr Y1 := by rw [← hY1]; exact (Below.refl _ wr).alloc (Nat.le_refl _) _
          have hc := happ W0.heap.size k _ wr.heap.size Y1 hk1 hlt (hL.below.trans (bY.mono hL.below.size)) hlo (by omega) (hbk _ k _ wr Y1 hlo hhi hL.bk (Stay.of_below bY)) (by omega) (by omega) (by rw [← hY1]; exact heap_alloc_new wr _)
          by_cases h200 : k < 200
          · simp only [if_pos h200] at hc
            rw [← hY1] at hc
            go_wp2_with (go_at_call 10; refine hc.mono ?_)
            rintro e W1 ⟨ua, ul, uc, s', rfl, hgood, hB1⟩
            obtain ⟨rfl, hbk1⟩ := hgood h200
            have hB1 : Below Y1.heap.size Y1 W1 := by rw [← hY1]; exact hB1
            have hBw : Below wr.heap.size wr W1 := bY.trans (hB1.mono bY.size)
            have sW := hBw.size
            have hp1 := (hBw.block W0.heap.size hhi).trans hL.box
            obtain ⟨X, hX⟩ : ∃ X, W1.alloc (.cells #[.slice ua ul uc, .int .u64 (bs (k + 1))] 25) = X := ⟨_, rfl⟩
            have bX : Below W1.heap.size W1 X := by rw [← hX]; exact (Below.refl _ W1).alloc (Nat.le_refl _) _
            have sX := bX.size
            have hpX := (bX.block W0.heap.size (by omega)).trans hp1
            have f0 : X.frozen? ⟨W0.heap.size, 0, none⟩ = false := by simp [World.frozen?, hpX]
            have f1 : X.frozen? ⟨W0.heap.size, 1, none⟩ = false := by simp [World.frozen?, hpX]
            have hXn : X.heap[W1.heap.size]? = some (.cells #[.slice ua ul uc, .int .u64 (bs (k + 1))] 25 (0, 0)) := by rw [← hX]; exact heap_alloc_new W1 _
            have k0 : X.cell? ⟨W0.heap.size, 0, none⟩ = some (.slice va vl vc) := by simp [World.cell?, hpX]
            have k1 : X.cell? ⟨W0.heap.size, 1, none⟩ = some (.int .u64 (bs k)) := by simp [World.cell?, hpX]
            have x0 : X.cell? ⟨W1.heap.size, 0, none⟩ = some (.slice ua ul uc) := by simp [World.cell?, hXn]
            have x1 : X.cell? ⟨W1.heap.size, 1, none⟩ = some (.int .u64 (bs (k + 1))) := by simp [World.cell?, hXn]
            have hst := lim2_store hpX ((hL.below.trans (hBw.mono hL.below.size)).trans (bX.mono (Nat.le_trans hL.below.size sW))) hlo (.slice ua ul uc) (.int .u64 (bs (k + 1)))
            have hnext : Lim2 w bs (Bk W0.heap.size) W0.heap.size (k + 1) (.slice ua ul uc) _ := ⟨hst.1, hst.2.2, hlo, hbk _ _ _ W1 _ hlo (by omega) hbk1 ((Stay.of_below bX).trans hst.2.1)⟩
            clear hst hc hp1 hpX hBw hB1 hXn
            rw [← hX] at f0 f1 k0 k1 x0 x1 hnext
            clear hX bX hY1 bY
            go_wp2
            go_roundw
            case rel => exact ⟨k + 1, ua, ul, uc, by omega, by omega, by simp, hnext⟩
            case measure => simp [intOf] <;> omega
          · simp only [if_neg h200] at hc
            rw [← hY1] at hc
            go_wp2_with (go_at_call 10; refine hc.mono ?_)
            rintro e W1 ⟨ua, ul, uc, s', rfl, hgood, hB1⟩
            have hB1 : Below Y1.heap.size Y1 W1 := by rw [← hY1]; exact hB1
            have hBw : Below wr.heap.size wr W1 := bY.trans (hB1.mono bY.size)
            have hBX : Below wr.heap.size wr (W1.alloc (.cells #[.slice ua ul uc, .int .u64 s'] 25)) := hBw.alloc hBw.size _
            have hsm := hsame W0.heap.size k _ _ (by omega) hlt (hbk _ k _ wr _ hlo hhi hL.bk (Stay.of_below hBX))
            have hnext : Lim2 w bs (Bk W0.heap.size) W0.heap.size (k + 1) (.slice va vl vc) _ := ⟨hL.below.trans (hBX.mono hL.below.size), by rw [hsm.1]; exact (hBX.block _ hhi).trans hL.box, hlo, hsm.2⟩
            clear hsm hc hBw hB1 hY1 bY hBX
            go_wp2
            go_roundw
            case rel => exact ⟨k + 1, va, vl, vc, by omega, by omega, by simp, hnext⟩
            case measure => simp [intOf] <;> omega
        · obtain rfl : k = 197 + m := by omega
          clear happ hsame
          obtain ⟨Y1, hY1⟩ : ∃ Y1, wr.alloc (.cells #[.int .i64 1] 3) = Y1 := ⟨_, rfl⟩
          have sY : Y1.heap.size = wr.heap.size + 1 := by rw [← hY1]; simp
          have bY : Below wr.heap.size wr Y1 := by rw [← hY1]; exact (Below.refl _ wr).alloc (Nat.le_refl _) _
          have hc := hlast W0.heap.size _ wr.heap.size Y1 (hL.below.trans (bY.mono hL.below.size)) hlo (by omega) (hbk _ _ _ wr Y1 hlo hhi hL.bk (Stay.of_below bY)) (by omega) (by rw [← hY1]; exact heap_alloc_new wr _)
          rw [← hY1] at hc
          have hcv : ∀ W1, Below (wr.alloc (.cells #[.int .i64 1] 3)).heap.size (wr.alloc (.cells #[.int .i64 1] 3)) W1 → Below Y1.heap.size Y1 W1 := by rw [← hY1]; exact fun _ h => h
          clear hY1
          go_wp2_with (go_at_call 10; refine hc.mono ?_)
          rintro e W1 ⟨ua, ul, uc, s', rfl, hB1⟩
          replace hB1 := hcv W1 hB1
          have hBw : Below wr.heap.size wr W1 := bY.trans (hB1.mono bY.size)
          have hBX : Below w.heap.size w (W1.alloc (.cells #[.slice ua ul uc, .int .u64 s'] 25)) := hL.below.trans ((hBw.alloc hBw.size _).mono hL.below.size)
          have hsa := hsane _ hBX
          go_wp2_with (go_at_call 11; refine hsa.mono ?_)
          rintro e W2 ⟨rfl, hB2⟩
          go_wp2
          refine bodyPost_ret (v := .bool ans) (by simp [results, Tryd.results3, go_sem]) rfl ⟨rfl, hBX.trans (hB2.mono hBX.size)⟩

end Go.Proofs.YtdbajagnhanpfaaDoor.Vm

/- LogbookLimits answers what its row says. -/
namespace Go.Proofs.YtdbajagnhanpfaaDoor.Vm
open Go Go.Proofs Go.RowKit
set_option linter.unusedVariables false
set_option linter.unusedSimpArgs false

theorem okf_lim : (hasN 7 E.okf && (hasN 8 E.okf && (hasN 9 E.okf && (hasN 10 E.okf && hasN 11 E.okf)))) = true := by kernel_rfl

theorem limA_run {F : Fun} {line sum : Nat} {K : List (List PV) → Int → Ask} {rs : List RV} : ∀ {m : Nat} {es : List (List PV)} {s : Int}, (limA line sum m es s K).run F = some rs →
    ∃ (sm : Nat → Int) (tx : Nat → List UInt8) (er : Nat → Int), sm 0 = s ∧ (∀ j, j < m → F line [.t (.agg (limE (es.length + j)))] [] = some ([.p (.str (tx j)), .p (.int .i64 (er j))], []) ∧ F sum [.t (.p (.int .u64 (sm j))), .t (.p (.str (tx j)))] [] = some ([.p (.int .u64 (sm (j + 1)))], [])) ∧
      (K (es ++ (List.range m).map fun j => limE (es.length + j)) (sm m)).run F = some rs
  | 0, es, s, h => ⟨fun _ => s, fun _ => [], fun _ => 0, rfl, fun j hj => absurd hj (by omega), by simpa [limA] using h⟩
  | m + 1, es, s, h => by
    unfold limA at h
    simp only [Ask.run] at h
    split at h
    · rename_i r hr
      split at h
      · rename_i x e
        obtain ⟨s', hs, h⟩ := run_u64 h
        obtain ⟨sm, tx, er, h0, h1, h2⟩ := limA_run h
        refine ⟨fun j => match j with | 0 => s | j + 1 => sm j, fun j => match j with | 0 => x | j + 1 => tx j, fun j => match j with | 0 => e | j + 1 => er j, rfl, fun j hj => ?_, ?_⟩
        · match j, hj with
          | 0, _ => exact ⟨hr, by show F sum _ _ = some ([.p (.int .u64 (sm 0))], []); rw [h0]; exact hs⟩
          | j + 1, hj =>
            obtain ⟨a, b⟩ := h1 j (by omega)
            simp only [List.length_append, List.length_cons, List.length_nil] at a
            rw [show es.length + (0 + 1) + j = es.length + (j + 1) by omega] at a
            exact ⟨a, b⟩
        · simp only [List.length_append, List.length_cons, List.length_nil, List.append_assoc] at h2
          have e1 : (List.range (m + 1)).map (fun j => limE (es.length + j)) = [limE es.length] ++ (List.range m).map fun j => limE (es.length + (0 + 1) + j) := by
            rw [List.range_succ_eq_map]
            simp only [List.map_cons, List.map_map, Nat.add_zero, List.cons_append, List.nil_append]
            congr 1
            apply List.map_congr_left
            intro j _
            show limE (es.length + (j + 1)) = _
            rw [show es.length + (j + 1) = es.length + (0 + 1) + j by omega]
          rw [e1]
          exact h2
      · cases h
    · cases h

theorem limB_run {F : Fun} {app : Nat} {K : List (List PV) → Int → Ask} {rs : List RV} : ∀ {m i : Nat} {es : List (List PV)} {s : Int}, (limB app m i es s K).run F = some rs →
    ∃ (eb : Nat → List (List PV)) (bs : Nat → Int), eb 0 = es ∧ bs 0 = s ∧ (∀ j, j < m → (i + j < 200 → F app [.t (.agg [.sl 3 (eb j), .int .u64 (bs j)]), .t (.agg (limE (i + j)))] [] = some ([.agg [.sl 3 (eb (j + 1)), .int .u64 (bs (j + 1))], .p (.int .i64 0)], [])) ∧
      (¬ i + j < 200 → eb (j + 1) = eb j ∧ bs (j + 1) = bs j ∧ ∃ x, F app [.t (.agg [.sl 3 (eb j), .int .u64 (bs j)]), .t (.agg (limE (i + j)))] [] = some ([.agg [.nils, .int .u64 x], .p (.int .i64 2)], []))) ∧ (K (eb m) (bs m)).run F = some rs
  | 0, i, es, s, h => ⟨fun _ => es, fun _ => s, rfl, rfl, fun j hj => absurd hj (by omega), h⟩
  | m + 1, i, es, s, h => by
    unfold limB at h
    simp only [Ask.run] at h
    split at h
    · rename_i r hr
      split at h
      · rename_i es' s' e
        cases hi : decide (i < 200) with
        | false => rw [hi] at h; cases h
        | true =>
          rw [hi, cond_true] at h
          cases he : e == 0 with
          | false => rw [he] at h; cases h
          | true =>
            rw [he, cond_true] at h
            obtain rfl : e = 0 := by simpa using he
            have hi' : i < 200 := by simpa using hi
            obtain ⟨eb, bs, h0, h0', h1, h2⟩ := limB_run h
            refine ⟨fun j => match j with | 0 => es | j + 1 => eb j, fun j => match j with | 0 => s | j + 1 => bs j, rfl, rfl, fun j hj => ?_, h2⟩
            match j, hj with
            | 0, _ => exact ⟨fun _ => by show F app _ _ = some ([.agg [.sl 3 (eb 0), .int .u64 (bs 0)], .p (.int .i64 0)], []); rw [h0, h0']; exact hr, fun hn => absurd hi' hn⟩
            | j + 1, hj =>
              have := h1 j (by omega)
              rw [show i + 1 + j = i + (j + 1) by omega] at this
              exact this
      · rename_i x e
        cases hi : decide (i < 200) with
        | true => rw [hi] at h; cases h
        | false =>
          rw [hi, cond_false] at h
          cases he : e == 2 with
          | false => rw [he] at h; cases h
          | true =>
            rw [he, cond_true] at h
            obtain rfl : e = 2 := by simpa using he
            have hi' : ¬ i < 200 := by simpa using hi
            obtain ⟨eb, bs, h0, h0', h1, h2⟩ := limB_run h
            refine ⟨fun j => match j with | 0 => es | j + 1 => eb j, fun j => match j with | 0 => s | j + 1 => bs j, rfl, rfl, fun j hj => ?_, h2⟩
            match j, hj with
            | 0, _ => exact ⟨fun hn => absurd hn hi', fun _ => ⟨h0, h0', x, hr⟩⟩
            | j + 1, hj =>
              have := h1 j (by omega)
              rw [show i + 1 + j = i + (j + 1) by omega] at this
              exact this
      · cases h
    · cases h

theorem vp_one {W : World} {O : Nat → Prop} {g : Nat} {x : Int} (hg : W.heap[g]? = some (.cells #[.int .i64 x] 3 (0, 0))) (hO : ¬ O g) : VP W O (.sl 1 [[.int .i64 x]]) (.slice (some ⟨g, 0, none⟩) 1 1) := by
  refine VP.sl 1 [[.int .i64 x]] g 0 1 (fun _ _ => .int .i64 x) (Array.getElem?_eq_some_iff.1 hg).1 hO (by simp) (by simp) ?_ ?_
  · intro i j e c he hj
    match i, he with
    | 0, he =>
      simp at he
      subst he
      match j, hj with
      | 0, hj => simp [World.cell?, hg]
      | j + 1, hj => simp at hj
    | i + 1, he => simp at he
  · intro i j e c he hj
    match i, he with
    | 0, he =>
      simp at he
      subst he
      match j, hj with
      | 0, hj => simp at hj; subst hj; exact .int _ _
      | j + 1, hj => simp at hj
    | i + 1, he => simp at he

theorem tup2 {P : TV → Value → Prop} {a b : TV} {us : Array Value} (h : All2 P [a, b] us.toList) : ∃ u v, us = #[u, v] ∧ P a u ∧ P b v := by
  cases hl : us.toList with
  | nil => rw [hl] at h; exact h.elim
  | cons x l => cases l with
    | nil => rw [hl] at h; exact h.2.elim
    | cons y l => cases l with
      | nil => rw [hl] at h; exact ⟨x, y, arr2 hl, h.1, h.2.1⟩
      | cons => rw [hl] at h; exact h.2.2.elim
theorem agg2 {P : PV → Value → Prop} {a b : PV} {us : Array Value} (h : All2 P [a, b] us.toList) : ∃ u v, us = #[u, v] ∧ P a u ∧ P b v := by
  cases hl : us.toList with
  | nil => rw [hl] at h; exact h.elim
  | cons x l => cases l with
    | nil => rw [hl] at h; exact h.2.elim
    | cons y l => cases l with
      | nil => rw [hl] at h; exact ⟨x, y, arr2 hl, h.1, h.2.1⟩
      | cons => rw [hl] at h; exact h.2.2.elim
theorem sl_form {W : World} {O : Nat → Prop} {n : Nat} {es : List (List PV)} {u : Value} (h : VP W O (.sl n es) u) : ∃ a l c, u = .slice a l c := by
  cases h <;> exact ⟨_, _, _, rfl⟩
theorem nils_form {W : World} {O : Nat → Prop} {u : Value} (h : VP W O .nils u) : u = .slice none 0 0 := by cases h; rfl
theorem u64_form {W : World} {O : Nat → Prop} {x : Int} {u : Value} (h : VP W O (.int .u64 x) u) : u = .int .u64 x := by cases h; rfl

theorem lim_entry {W : World} {O : Nat → Prop} {i : Nat} {g : Nat} (hg : W.heap[g]? = some (.cells #[.int .i64 ((i % 4 : Nat) : Int)] 3 (0, 0))) (hO : ¬ O g) : All2 (VP W O) (limE i) [.int .i64 (i : Int), .int .i64 1, .slice (some ⟨g, 0, none⟩) 1 1] :=
  ⟨.int _ _, .int _ _, vp_one hg hO, trivial⟩

set_option maxHeartbeats 1000000 in
theorem s_hLim : ∀ F, FSound E F → ∀ args rs, (hLim 7 8 9 10 11).run F args = some rs → FOk E 3 args [] rs [] := by
  intro F hF args rs h
  have hokf := okf_lim
  simp only [Bool.and_eq_true] at hokf
  obtain ⟨ok7, ok8, ok9, ok10, ok11⟩ := hokf
  replace h : (limT 7 8 9 10 11 args).run F = some rs := h
  unfold limT at h
  split at h
  case h_2 => cases h
  rename_i n
  cases hn : (decide (0 ≤ n) && decide (n ≤ 255)) with
  | false => rw [hn] at h; cases h
  | true =>
  rw [hn, cond_true] at h
  simp only [Bool.and_eq_true, decide_eq_true_eq] at hn
  simp only [Ask.run] at h
  split at h
  case h_2 => cases h
  rename_i r hnew
  split at h
  case h_2 => cases h
  rename_i s
  obtain ⟨sm, tx, er, rfl, hA, h⟩ := limA_run h
  simp only [List.length_nil, Nat.zero_add, List.nil_append] at hA h
  obtain ⟨eb, bs, hb0, hb0', hB, h⟩ := limB_run h
  simp only [Ask.run] at h
  split at h
  case h_2 => cases h
  rename_i r hlast
  split at h
  case h_2 => cases h
  rename_i x e
  cases he : e == 16 with
  | false => rw [he] at h; cases h
  | true =>
  rw [he, cond_true] at h
  obtain rfl : e = 16 := by simpa using he
  obtain ⟨ans, hsane, h⟩ := run_bool h
  simp only [Ask.run, Option.some.injEq] at h
  subst h
  obtain ⟨m, hm⟩ : ∃ m, (n % 6).toNat = m := ⟨_, rfl⟩
  rw [hm] at hB hlast
  intro C hok hC us hv
  obtain ⟨u, rfl, hu⟩ := one_arg hv
  obtain rfl := vp_int hu
  have hx : ∀ b, C.X b → b < C.w.heap.size := fun b h => (hok.x b h).1
  refine (lim_walk n hn C.w sm (fun j => ⟨(tx j).toArray⟩) er ans ?_ ?_ ?_ (fun k => bs (k - 197)) (fun p k v W => VP W (fun b => C.X b ∨ b = p) (.sl 3 (eb (k - 197))) v) hb0' ?_ ?_ ?_ ?_ ?_ ?_).mono ?_
  · refine (FOk.at (hF.fn 7 [] [] _ _ hnew ok7) hok hC (Grow.refl _) (us := #[]) trivial).mono fun e w' ⟨u, he, D, hw, hx, _, _, hu⟩ => ?_
    subst he
    obtain ⟨us, rfl, ha⟩ := hu
    obtain ⟨a, b, rfl, h1, h2⟩ := agg2 ha
    obtain rfl := nils_form h1
    obtain rfl := u64_form h2
    refine ⟨rfl, ?_⟩
    rw [← hw]
    exact below_ext hx hC (Nat.le_refl _)
  · intro j hj W g hW hg hgW
    have hno : ¬ (C.setW W).O g := by
      rintro (h | h)
      · have := hx g h; omega
      · exact no_own (C := C.setW W) hC g h
    refine (FOk.at (C := C.setW W) (hF.fn 8 _ [] _ _ (hA j hj).1 ok8) (ok_grow hok (Grow.of_below hW)) hC (Grow.refl _) (us := #[.agg #[.int .i64 (j : Int), .int .i64 1, .slice (some ⟨g, 0, none⟩) 1 1]]) ⟨⟨_, rfl, lim_entry hgW hno⟩, trivial⟩).mono fun e w' ⟨u, he, D, hw, hx, _, _, hu⟩ => ?_
    subst he
    obtain ⟨us, rfl, ha⟩ := hu
    obtain ⟨a, b, rfl, h1, h2⟩ := tup2 ha
    refine ⟨by cases h1; cases h2; rfl, ?_⟩
    rw [← hw]
    exact below_ext hx hC (Nat.le_refl _)
  · intro j hj W hW
    exact call_u64 hF ok9 (hA j hj).2 hok hC (Grow.of_below hW) (us := #[.int .u64 (sm j), .string ⟨(tx j).toArray⟩]) ⟨.int _ _, .str _, trivial⟩
  · intro p v Cs W hR
    have hlo := hR.lo
    show VP W _ (.sl 3 (eb 0)) v
    rw [hb0]
    refine row_vp (n := 197) (by simp) (by omega) hR.own (fun b ho => ?_) (fun j hj => ?_)
    · rcases ho with h | h
      · have := hx b h; omega
      · omega
    · obtain ⟨g, h1, h2, h3, h4⟩ := hR.el j hj
      refine ⟨1, [[.int .i64 ((j % 4 : Nat) : Int)]], ?_, ?_⟩
      · rw [List.getElem?_map, List.getElem?_range hj]
        rfl
      · rw [h1]
        refine vp_one h4 ?_
        rintro (h | h)
        · have := hx g h; omega
        · omega
  · intro p k v W W' hlo hhi hb hs
    exact VP.ext hs.1 (fun b hb ho => hs.2 b hb (fun e => ho (.inr e))) (fun _ _ h => h) hb
  · intro p k v W h200 hk hb
    rw [hm] at hk
    obtain ⟨e1, e2, _⟩ := (hB (k - 197) (by omega)).2 (by omega)
    have e3 : k + 1 - 197 = k - 197 + 1 := by omega
    show bs (k + 1 - 197) = bs (k - 197) ∧ VP W _ (.sl 3 (eb (k + 1 - 197))) v
    rw [e3, e1, e2]
    exact ⟨rfl, hb⟩
  · intro p k v g W h197 hk hW hlo hhi hb hg hgp hgW
    rw [hm] at hk
    have hr := hB (k - 197) (by omega)
    have e3 : k + 1 - 197 = k - 197 + 1 := by omega
    rw [show 197 + (k - 197) = k by omega] at hr
    have hno : ¬ (C.hide W fun b => b = p).O g := by
      rintro ((h | h) | h)
      · have := hx g h; omega
      · exact hgp h
      · exact no_own (C := C.hide W fun b => b = p) hC g h
    have hva : All2 (VA (C.hide W fun b => b = p)) [.t (.agg [.sl 3 (eb (k - 197)), .int .u64 (bs (k - 197))]), .t (.agg (limE k))] (#[Value.agg #[v, .int .u64 (bs (k - 197))], .agg #[.int .i64 (k : Int), .int .i64 1, .slice (some ⟨g, 0, none⟩) 1 1]] : Array Value).toList := by
      refine ⟨⟨_, rfl, VP.ext (Nat.le_refl _) (fun _ _ _ => rfl) (fun b _ ho => ?_) hb, .int _ _, trivial⟩, ⟨_, rfl, lim_entry hgW hno⟩, trivial⟩
      rcases ho with h | h
      · exact h
      · exact absurd h (no_own (C := C.hide W fun b => b = p) hC b)
    by_cases h200 : k < 200
    · refine (FOk.atX (hF.fn 10 _ [] _ _ (hr.1 h200) ok10) hok hC (Grow.of_below hW) (Y := fun b => b = p) (fun b hb => by omega) hva).mono fun e w' ⟨u, he, D, hw, hx, _, _, hu⟩ => ?_
      subst he
      obtain ⟨us, rfl, ha⟩ := hu
      obtain ⟨a, b, rfl, h1, h2⟩ := tup2 ha
      obtain ⟨vs, rfl, h1⟩ := h1
      obtain ⟨c, d, rfl, h3, h4⟩ := agg2 h1
      obtain ⟨ua, ul, uc, rfl⟩ := sl_form h3
      obtain rfl := u64_form h4
      rw [if_pos h200]
      refine ⟨ua, ul, uc, _, by cases h2; rfl, fun _ => ⟨by rw [e3], ?_⟩, ?_⟩
      · show VP w' _ (.sl 3 (eb (k + 1 - 197))) _
        rw [e3, ← hw]
        refine VP.ext (Nat.le_refl _) (fun _ _ _ => rfl) (fun b _ ho => .inl ?_) h3
        rw [hx.X]
        exact ho
      · rw [← hw]
        exact below_ext hx hC (Nat.le_refl _)
    · obtain ⟨_, _, x, hr⟩ := hr.2 h200
      refine (FOk.atX (hF.fn 10 _ [] _ _ hr ok10) hok hC (Grow.of_below hW) (Y := fun b => b = p) (fun b hb => by omega) hva).mono fun e w' ⟨u, he, D, hw, hx, _, _, hu⟩ => ?_
      subst he
      obtain ⟨us, rfl, ha⟩ := hu
      obtain ⟨a, b, rfl, h1, h2⟩ := tup2 ha
      obtain ⟨vs, rfl, h1⟩ := h1
      obtain ⟨c, d, rfl, h3, h4⟩ := agg2 h1
      obtain rfl := nils_form h3
      obtain rfl := u64_form h4
      rw [if_neg h200]
      refine ⟨none, 0, 0, _, by cases h2; rfl, fun h => absurd h h200, ?_⟩
      rw [← hw]
      exact below_ext hx hC (Nat.le_refl _)
  · intro p v g W hW hlo hhi hb hg hgW
    rw [hm] at hb
    simp only [Nat.add_sub_cancel_left, hm] at hb ⊢
    have hno : ¬ (C.setW W).O g := by
      rintro (h | h)
      · have := hx g h; omega
      · exact no_own (C := C.setW W) hC g h
    refine (FOk.at (C := C.setW W) (hF.fn 10 _ [] _ _ hlast ok10) (ok_grow hok (Grow.of_below hW)) hC (Grow.refl _) (us := #[.agg #[v, .int .u64 (bs m)], .agg #[.int .i64 1, .int .i64 1, .slice (some ⟨g, 0, none⟩) 1 1]])
      ⟨⟨_, rfl, VP.ext (Nat.le_refl _) (fun _ _ _ => rfl) (fun b _ ho => ?_) hb, .int _ _, trivial⟩, ⟨_, rfl, .int _ _, .int _ _, vp_one hgW hno, trivial⟩, trivial⟩).mono fun e w' ⟨u, he, D, hw, hx, _, _, hu⟩ => ?_
    · rcases ho with h | h
      · exact .inl h
      · exact absurd h (no_own (C := C.setW W) hC b)
    · subst he
      obtain ⟨us, rfl, ha⟩ := hu
      obtain ⟨a, b, rfl, h1, h2⟩ := tup2 ha
      obtain ⟨vs, rfl, h1⟩ := h1
      obtain ⟨c, d, rfl, h3, h4⟩ := agg2 h1
      obtain rfl := nils_form h3
      obtain rfl := u64_form h4
      refine ⟨none, 0, 0, _, by cases h2; rfl, ?_⟩
      rw [← hw]
      exact below_ext hx hC (Nat.le_refl _)
  · intro W hW
    exact call_bool hF ok11 hsane hok hC (Grow.of_below hW) (us := #[]) trivial
  · rintro e w' ⟨rfl, hB⟩
    have hg := Grow.of_below hB
    exact ⟨C.setW w', rfl, ext_grow C hg, ok_grow hok hg, hC, .bool _⟩

end Go.Proofs.YtdbajagnhanpfaaDoor.Vm
