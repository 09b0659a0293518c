import Derived.RangeFuncBox
import Derived.Shelf.Abstract
import Derived.WalkKit
import Derived.OwnWalkIn
import Derived.TacticsInMore
import Derived.LoopNIn
import Derived.LoopIn
import Derived.Lib.SliceRun
import Derived.Lib.BufferWrite
import Derived.Maps.Range
import Derived.Stop.RegionWithIn
import Derived.Test.YtdbajagnhanpfaaDoorProg
import Derived.Test.YtdbajagnhanpfaaDoorEnv
import Derived.Test.YtdbajagnhanpfaaDoorVm35
import Derived.KernelRfl
import Derived.Below
/- slices.DeleteFunc over spans: what it leaves. -/
namespace Go.Proofs.YtdbajagnhanpfaaDoor
open Go Go.Proofs Go.RowKit Go.Shelf

set_option maxRecDepth 100000 in
set_option maxHeartbeats 1000000 in
theorem green_in (x y z : Int) (w : World) :
    CallsIn Fence.wide 6 Tryd.prog 58 #[.agg #[.int .i64 x, .int .i64 y, .int .i64 z]] w fun e w' => e = .returned (.bool (decide (3 ≤ z))) ∧ Below w.heap.size w w' := by
  refine callsIn_of_wp Tryd.func58 rfl trivial ?_ rfl
  simp only [Tryd.ntmps58, List.size_toArray, List.length_cons, List.length_nil, Nat.reduceAdd, Nat.reduceSub, Array.replicate_succ, Array.replicate_zero, List.push_toArray, List.append_toArray, List.nil_append, List.cons_append]
  gi_wp2
  go_ret
  exact ⟨by simp, (Below.refl _ w).alloc (Nat.le_refl _) _⟩

theorem green (x y z : Int) (w : World) : Calls Tryd.prog 58 #[.agg #[.int .i64 x, .int .i64 y, .int .i64 z]] w fun e w' => e = .returned (.bool (decide (3 ≤ z))) ∧ Below w.heap.size w w' := callsIn_wide.1 (green_in x y z w)

/-- Three numbers side by side. -/
def Trio (w : World) (b p : Nat) (x y z : Int) : Prop := w.cell? ⟨b, p * 3, none⟩ = some (.int .i64 x) ∧ w.cell? ⟨b, p * 3 + 1, none⟩ = some (.int .i64 y) ∧ w.cell? ⟨b, p * 3 + 2, none⟩ = some (.int .i64 z)
theorem Trio.below {w w' : World} {b p : Nat} {x y z : Int} (h : Trio w b p x y z) (hb : b < w.heap.size) (hw : Below w.heap.size w w') : Trio w' b p x y z :=
  ⟨(hw.cell (p := ⟨b, p * 3, none⟩) hb).trans h.1, (hw.cell (p := ⟨b, p * 3 + 1, none⟩) hb).trans h.2.1, (hw.cell (p := ⟨b, p * 3 + 2, none⟩) hb).trans h.2.2⟩

set_option maxRecDepth 100000 in
set_option maxHeartbeats 2000000 in
theorem index_in (b len cap : Nat) (A B V : Nat → Int) (w : World) (hb : b < w.heap.size) (hlen : len ≤ 1000000) (hc : ∀ j, j < len → Trio w b j (A j) (B j) (V j)) :
    CallsIn Fence.wide 8 Tryd.prog 66 #[.slice (some ⟨b, 0, none⟩) len cap, .func (.func 58) #[] #[]] w fun e w' =>
      ((e = .returned (.int .i64 (-1)) ∧ ∀ j, j < len → V j < 3) ∨ ∃ i : Nat, i < len ∧ e = .returned (.int .i64 (i : Nat)) ∧ 3 ≤ V i ∧ ∀ j, j < i → V j < 3) ∧ Below w.heap.size w w' := by
  refine callsIn_of_wp Tryd.func66 rfl trivial ?_ rfl
  simp only [Tryd.ntmps66, List.size_toArray, List.length_cons, List.length_nil, Nat.reduceAdd, Nat.reduceSub, Array.replicate_succ, Array.replicate_zero, List.push_toArray, List.append_toArray, List.nil_append, List.cons_append]
  gi_wp2
  gi_loopw [8] (fun i wr => ∃ k : Nat, k ≤ len ∧ i = .int .i64 (k : Nat) ∧ (∀ j, j < k → V j < 3) ∧ Below w.heap.size w wr)
    (fun i _ => len - (intOf i).toNat)
  case atStart => exact ⟨0, Nat.zero_le _, rfl, fun j h => absurd h (by omega), Below.refl _ _⟩
  case round =>
    obtain ⟨k, hk, rfl, hno, hB⟩ := hrel
    by_cases hlt : k < len
    · obtain ⟨c0, c1, c2⟩ := (hc k hlt).below hb hB
      by_cases hv : 3 ≤ V k
      · have hd : decide (3 ≤ V k) = true := by simpa using hv
        gi_wp2
        refine ⟨trivial, ?_⟩
        refine (callsIn_wide.2 (green (A k) (B k) (V k) wr)).mono ?_
        rintro e W3 ⟨rfl, hB3⟩
        rw [hd]
        gi_wp2
        go_ret
        exact ⟨.inr ⟨k, hlt, rfl, hv, hno⟩, hB.trans (hB3.mono hB.size)⟩
      · have hd : decide (3 ≤ V k) = false := by simpa using hv
        gi_wp2
        refine ⟨trivial, ?_⟩
        refine (callsIn_wide.2 (green (A k) (B k) (V k) wr)).mono ?_
        rintro e W3 ⟨rfl, hB3⟩
        rw [hd]
        gi_wp2
        go_roundw
        case rel => exact ⟨k + 1, by omega, by simp, fun j hj => (Nat.lt_succ_iff_lt_or_eq.1 hj).elim (hno j) (fun h => by rw [h]; omega), hB.trans (hB3.mono hB.size)⟩
        case measure => simp [intOf] <;> omega
    · obtain rfl : k = len := by omega
      gi_wp2
      go_ret
      exact ⟨.inl ⟨rfl, hno⟩, hB⟩

/-- Everything but block b stands. -/
def But (b : Nat) (w w' : World) : Prop := w.grownBy w' (some b)

/-- The places below j of those that are kept. -/
def kept (V : Nat → Int) (j : Nat) : List Nat := (List.range j).filter fun x => decide (V x < 3)
theorem kept_succ (V : Nat → Int) (j : Nat) : kept V (j + 1) = if V j < 3 then kept V j ++ [j] else kept V j := by
  unfold kept
  rw [List.range_succ, List.filter_append]
  by_cases h : V j < 3 <;> simp [h]
theorem kept_le (V : Nat → Int) (j : Nat) : (kept V j).length ≤ j := by
  have := List.length_filter_le (fun x => decide (V x < 3)) (List.range j)
  simpa [kept] using this
theorem kept_all {V : Nat → Int} {j : Nat} (h : ∀ x, x < j → V x < 3) : kept V j = List.range j := by
  unfold kept
  rw [List.filter_eq_self]
  intro x hx
  simpa using h x (List.mem_range.1 hx)

/-- A row that may be written, as far as it is read. -/
def Rw (w : World) (b n : Nat) : Prop := ∀ o, o < n → ∃ v, w.cell? ⟨b, o, none⟩ = some v ∧ w.frozen? ⟨b, o, none⟩ = false
theorem Rw.of_block {w w' : World} {b n : Nat} (h : Rw w b n) (e : w'.heap[b]? = w.heap[b]?) : Rw w' b n := fun o ho => by
  obtain ⟨v, h1, h2⟩ := h o ho
  exact ⟨v, (World.cell?_of_block (a := ⟨b, o, none⟩) e).trans h1, (World.frozen?_of_block (a := ⟨b, o, none⟩) e).trans h2⟩
theorem Trio.of_block {w w' : World} {b p : Nat} {x y z : Int} (h : Trio w b p x y z) (e : w'.heap[b]? = w.heap[b]?) : Trio w' b p x y z :=
  ⟨(World.cell?_of_block (a := ⟨b, _, none⟩) e).trans h.1, (World.cell?_of_block (a := ⟨b, _, none⟩) e).trans h.2.1, (World.cell?_of_block (a := ⟨b, _, none⟩) e).trans h.2.2⟩
theorem Trio.set_out {w : World} {b p o : Nat} {x y z : Int} {vs : List Value} (h : Trio w b p x y z) (ho : p * 3 + 2 < o ∨ o + vs.length ≤ p * 3) : Trio (w.setCells b o vs) b p x y z :=
  ⟨(World.cell?_setCells_out b vs o w ⟨b, p * 3, none⟩ (fun _ _ => by show p * 3 < o ∨ o + vs.length ≤ p * 3; omega)).trans h.1,
   (World.cell?_setCells_out b vs o w ⟨b, p * 3 + 1, none⟩ (fun _ _ => by show p * 3 + 1 < o ∨ o + vs.length ≤ p * 3 + 1; omega)).trans h.2.1,
   (World.cell?_setCells_out b vs o w ⟨b, p * 3 + 2, none⟩ (fun _ _ => by show p * 3 + 2 < o ∨ o + vs.length ≤ p * 3 + 2; omega)).trans h.2.2⟩
theorem Rw.set {w : World} {b n o : Nat} {vs : List Value} (h : Rw w b n) (ho : o + vs.length ≤ n) : Rw (w.setCells b o vs) b n := fun q hq => by
  obtain ⟨v, h1, h2⟩ := h q hq
  rcases Nat.lt_or_ge q o with hl | hl
  · exact ⟨v, (World.cell?_setCells_out b vs o w ⟨b, q, none⟩ (fun _ _ => .inl hl)).trans h1, (World.frozen?_setCells b vs o w _).trans h2⟩
  rcases Nat.lt_or_ge q (o + vs.length) with hu | hu
  · have h3 := World.cell?_setCells_in b vs o w (fun j hj => by obtain ⟨v, h1, _⟩ := h (o + j) (by omega); rw [h1]; rfl) (q - o) (by omega)
    have e : o + (q - o) = q := by omega
    rw [e] at h3
    exact ⟨_, h3, (World.frozen?_setCells b vs o w _).trans h2⟩
  · exact ⟨v, (World.cell?_setCells_out b vs o w ⟨b, q, none⟩ (fun _ _ => .inr hu)).trans h1, (World.frozen?_setCells b vs o w _).trans h2⟩
theorem Trio.set_in {w : World} {b p n : Nat} {x y z : Int} (h : Rw w b n) (hp : p * 3 + 3 ≤ n) : Trio (w.setCells b (p * 3) [.int .i64 x, .int .i64 y, .int .i64 z]) b p x y z := by
  have h3 := World.cell?_setCells_in b [.int .i64 x, .int .i64 y, .int .i64 z] (p * 3) w (fun j hj => by obtain ⟨v, h1, _⟩ := h (p * 3 + j) (by simp at hj; omega); rw [h1]; rfl)
  exact ⟨h3 0 (by simp), h3 1 (by simp), h3 2 (by simp)⟩
theorem grown_set {w : World} {b : Nat} : ∀ (vs : List Value) (o : Nat) (w' : World), w.grownBy w' (some b) → w.grownBy (w'.setCells b o vs) (some b)
  | [], _, _, h => h
  | v :: vs, o, w', h => grown_set vs (o + 1) _ (h.andThen (Lib.grownBy_setCell w' b o v) (fun j hj => .inr hj))
theorem grown_below {w w' w2 : World} {b : Nat} (h : w.grownBy w' (some b)) (hB : Below w'.heap.size w' w2) : w.grownBy w2 (some b) :=
  h.andThen (row' := none) ⟨hB.os, hB.tape, hB.output, hB.size, fun k hk _ => hB.block k hk⟩ (fun j hj => by cases hj)

theorem clear3 (w : World) (b o n c : Nat) (ty : TypeId) (hn : 0 < n) (h : Rw w b (o + n * 3)) :
    ∃ vs : List Value, vs.length = n * 3 ∧ (Builtin.clear_ #[42] ty #[.slice (some ⟨b, o, none⟩) n c]).run Tryd.prog w = .ok (.tuple #[]) (w.setCells b o vs) := by
  obtain ⟨L, hL⟩ : ∃ L, (Builtin.zeroCells #[.int .i64 0, .int .i64 0, .int .i64 0] n).toList = L := ⟨_, rfl⟩
  have hlen : L.length = n * 3 := by rw [← hL]; simp [Builtin.zeroCells] <;> omega
  have h1 : ∀ v ∈ L, v.oneCell' = true := by
    intro v hv
    rw [← hL] at hv
    simp only [Builtin.zeroCells, Array.toList_map, List.mem_map] at hv
    obtain ⟨i, _, rfl⟩ := hv
    have : i % 3 = 0 ∨ i % 3 = 1 ∨ i % 3 = 2 := by omega
    rcases this with h | h | h <;> simp [h] <;> rfl
  have hst := run_storeCells_cells (P := Tryd.prog) b o L 0 w (fun j hj => by obtain ⟨v, h1, _⟩ := h (o + j) (by omega); rw [show o + 0 + j = o + j by omega, h1]; rfl) (fun j hj => by obtain ⟨v, _, h2⟩ := h (o + j) (by omega); rw [show o + 0 + j = o + j by omega]; exact h2) h1
  simp only [Nat.add_zero] at hst
  refine ⟨L, hlen, ?_⟩
  obtain ⟨m, rfl⟩ : ∃ m, n = m + 1 := ⟨n - 1, by omega⟩
  simp [Builtin.clear_, run_underlying Tryd.underlying42, Tryd.zeroValue46, Value.cells, hL, hst]

set_option maxRecDepth 100000 in
set_option maxHeartbeats 4000000 in
theorem del_in (b len cap : Nat) (A B V : Nat → Int) (w : World) (hb : b < w.heap.size) (hlen : len ≤ 1000000) (hcap : len ≤ cap) (hc : ∀ j, j < len → Trio w b j (A j) (B j) (V j)) (hf : Rw w b (len * 3)) :
    CallsIn Fence.wide 9 Tryd.prog 57 #[.slice (some ⟨b, 0, none⟩) len cap, .func (.func 58) #[] #[]] w fun e w' =>
      e = .returned (.slice (some ⟨b, 0, none⟩) (kept V len).length cap) ∧ (∀ (p x : Nat), (kept V len)[p]? = some x → Trio w' b p (A x) (B x) (V x)) ∧ w.grownBy w' (some b) := by
  refine callsIn_of_wp Tryd.func57 rfl trivial ?_ rfl
  simp only [Tryd.ntmps57, List.size_toArray, List.length_cons, List.length_nil, Nat.reduceAdd, Nat.reduceSub, Array.replicate_succ, Array.replicate_zero, List.push_toArray, List.append_toArray, List.nil_append, List.cons_append]
  gi_wp2
  refine ⟨trivial, ?_⟩
  refine (callsIn_wide.2 (callsIn_wide.1 (index_in b len cap A B V w hb hlen hc))).mono ?_
  rintro e W1 ⟨⟨rfl, hno⟩ | ⟨i0, hi0, rfl, hv0, hno⟩, hB1⟩
  · gi_wp2
    go_ret
    have hk := kept_all hno
    refine ⟨by rw [hk, List.length_range]; rfl, fun p x hp => ?_, ?_⟩
    · rw [hk] at hp
      obtain ⟨h1, h2⟩ := List.getElem?_eq_some_iff.1 hp
      simp at h1 h2
      subst h2
      exact (hc p h1).below hb hB1
    · exact ⟨hB1.os, hB1.tape, hB1.output, hB1.size, fun k hk _ => hB1.block k hk⟩
  · have hrow : W1.heap[b]? = w.heap[b]? := hB1.block b hb
    gi_wp2
    gi_loopw [5, 6] (fun i j wr => ∃ m : Nat, m ≤ len ∧ i0 < m ∧ i = .int .i64 ((kept V m).length : Nat) ∧ j = .int .i64 (m : Nat) ∧ (kept V m).length < m ∧ (∀ (p x : Nat), (kept V m)[p]? = some x → Trio wr b p (A x) (B x) (V x)) ∧
        (∀ q, m ≤ q → q < len → Trio wr b q (A q) (B q) (V q)) ∧ Rw wr b (len * 3) ∧ w.grownBy wr (some b))
      (fun _ j _ => len - (intOf j).toNat)
    case atStart =>
      have hka : kept V (i0 + 1) = List.range i0 := by rw [kept_succ, if_neg (by omega), kept_all hno]
      refine ⟨i0 + 1, by omega, by omega, by rw [hka]; simp, by simp, by rw [hka]; simp, fun p x hp => ?_, fun q _ hq => (hc q hq).of_block hrow, hf.of_block hrow, ⟨hB1.os, hB1.tape, hB1.output, hB1.size, fun k hk _ => hB1.block k hk⟩⟩
      rw [hka] at hp
      obtain ⟨h1, h2⟩ := List.getElem?_eq_some_iff.1 hp
      simp at h1 h2
      subst h2
      exact (hc p (by omega)).of_block hrow
    case round =>
      obtain ⟨m, hm, him, rfl, rfl, hlt0, hk1, hk2, hrw, hg⟩ := hrel
      have hbr : b < wr.heap.size := Nat.lt_of_lt_of_le hb hg.size
      by_cases hlt : m < len
      · obtain ⟨c0, c1, c2⟩ := hk2 m (Nat.le_refl _) hlt
        have hBa : Below wr.heap.size wr (wr.alloc (.cells #[.int .i64 (A m), .int .i64 (B m), .int .i64 (V m)] 46)) := (Below.refl _ wr).alloc (Nat.le_refl _) _
        by_cases hv : V m < 3
        · have hd : decide (3 ≤ V m) = false := by simpa using hv
          gi_wp2
          refine ⟨trivial, ?_⟩
          refine (callsIn_wide.2 (green (A m) (B m) (V m) _)).mono ?_
          rintro e W3 ⟨rfl, hB3⟩
          rw [hd]
          have hB4 : Below wr.heap.size wr W3 := hBa.trans (hB3.mono hBa.size)
          have hbx : W3.heap[wr.heap.size]? = some (.cells #[.int .i64 (A m), .int .i64 (B m), .int .i64 (V m)] 46 (0, 0)) := (hB3.block _ (by simp)).trans (World.alloc_heap_new wr _)
          have x0 : W3.cell? ⟨wr.heap.size, 0, none⟩ = some (.int .i64 (A m)) := by simp [World.cell?, hbx]
          have x1 : W3.cell? ⟨wr.heap.size, 1, none⟩ = some (.int .i64 (B m)) := by simp [World.cell?, hbx]
          have x2 : W3.cell? ⟨wr.heap.size, 2, none⟩ = some (.int .i64 (V m)) := by simp [World.cell?, hbx]
          have hrw3 := hrw.of_block (hB4.block b hbr)
          obtain ⟨u0, a0, f0⟩ := hrw3 ((kept V m).length * 3) (by omega)
          obtain ⟨u1, a1, f1⟩ := hrw3 ((kept V m).length * 3 + 1) (by omega)
          obtain ⟨u2, a2, f2⟩ := hrw3 ((kept V m).length * 3 + 2) (by omega)
          have hks : kept V (m + 1) = kept V m ++ [m] := by rw [kept_succ, if_pos hv]
          have hset : ((W3.setCell ⟨b, (kept V m).length * 3, none⟩ (.int .i64 (A m))).setCell ⟨b, (kept V m).length * 3 + 1, none⟩ (.int .i64 (B m))).setCell ⟨b, (kept V m).length * 3 + 2, none⟩ (.int .i64 (V m)) = W3.setCells b ((kept V m).length * 3) [.int .i64 (A m), .int .i64 (B m), .int .i64 (V m)] := rfl
          gi_wp2
          try rw [hset]
          refine ⟨⟨_, _, _, _, _, _, _, _, _, _, _, _, _, _, _, _, _, _, _, _, _, _, _, ?_, rfl⟩, ?_⟩
          · refine ⟨m + 1, by omega, by omega, by rw [hks]; simp, by simp, by rw [hks]; simp; omega, fun p x hp => ?_, fun q h1 h2 => ((hk2 q (by omega) h2).of_block (hB4.block b hbr)).set_out (.inr (by simp; omega)), hrw3.set (by simp; omega), grown_set _ _ _ (grown_below hg hB4)⟩
            rw [hks] at hp
            rcases Nat.lt_or_ge p (kept V m).length with h | h
            · rw [List.getElem?_append_left h] at hp
              exact ((hk1 p x hp).of_block (hB4.block b hbr)).set_out (.inl (by omega))
            · rw [List.getElem?_append_right h] at hp
              obtain ⟨h1, h2⟩ := List.getElem?_eq_some_iff.1 hp
              simp at h1 h2
              obtain rfl : p = (kept V m).length := by omega
              subst h2
              exact Trio.set_in hrw3 (by omega)
          · simp [intOf] <;> omega
        · have hd : decide (3 ≤ V m) = true := by simpa using hv
          gi_wp2
          refine ⟨trivial, ?_⟩
          refine (callsIn_wide.2 (green (A m) (B m) (V m) _)).mono ?_
          rintro e W3 ⟨rfl, hB3⟩
          rw [hd]
          have hB4 : Below wr.heap.size wr W3 := hBa.trans (hB3.mono hBa.size)
          have hks : kept V (m + 1) = kept V m := by rw [kept_succ, if_neg (by omega)]
          gi_wp2
          refine ⟨⟨_, _, _, _, _, _, _, _, _, _, _, _, _, _, _, _, _, _, _, _, _, _, _, ?_, rfl⟩, ?_⟩
          · exact ⟨m + 1, by omega, by omega, by rw [hks], by simp, by rw [hks]; omega, fun p x hp => (hk1 p x (by rw [← hks]; exact hp)).of_block (hB4.block b hbr), fun q h1 h2 => (hk2 q (by omega) h2).of_block (hB4.block b hbr), hrw.of_block (hB4.block b hbr), grown_below hg hB4⟩
          · simp [intOf] <;> omega
      · obtain rfl : m = len := by omega
        have hne : ¬ cap = (kept V m).length := by omega
        obtain ⟨vs, hvs, hclr⟩ := clear3 wr b ((kept V m).length * 3) (m - (kept V m).length) (cap - (kept V m).length) 0 (by omega) (fun o ho => hrw o (by omega))
        gi_wp2
        go_ret
        refine ⟨rfl, fun p x hp => (hk1 p x hp).set_out (.inl ?_), grown_set vs _ wr hg⟩
        have := (List.getElem?_eq_some_iff.1 hp).1
        omega

end Go.Proofs.YtdbajagnhanpfaaDoor

/- logbook.Degraded answers what its row says. -/
namespace Go.Proofs.YtdbajagnhanpfaaDoor.Vm
open Go Go.Proofs Go.RowKit Go.Shelf
set_option linter.unusedVariables false
set_option linter.unusedSimpArgs false

set_option maxRecDepth 100000 in
set_option maxHeartbeats 1000000 in
theorem index_nil (a : Option Addr) (cap : Nat) (w : World) :
    CallsIn Fence.wide 8 Tryd.prog 66 #[.slice a 0 cap, .func (.func 58) #[] #[]] w fun e w' => e = .returned (.int .i64 (-1)) ∧ w' = w := by
  refine callsIn_of_wp Tryd.func66 rfl trivial ?_ rfl
  simp only [Tryd.ntmps66, List.size_toArray, List.length_cons, List.length_nil, Nat.reduceAdd, Nat.reduceSub, Array.replicate_succ, Array.replicate_zero, List.push_toArray, List.append_toArray, List.nil_append, List.cons_append]
  gi_wp2
  gi_loopw [8] (fun i wr => i = .int .i64 0 ∧ wr = w) (fun i _ => 0)
  case atStart => exact ⟨rfl, rfl⟩
  case round =>
    obtain ⟨rfl, rfl⟩ := hrel
    gi_wp2
    go_ret
    exact ⟨rfl, rfl⟩
set_option maxRecDepth 100000 in
set_option maxHeartbeats 1000000 in
theorem del_nil (a : Option Addr) (cap : Nat) (w : World) :
    CallsIn Fence.wide 8 Tryd.prog 57 #[.slice a 0 cap, .func (.func 58) #[] #[]] w fun e w' => e = .returned (.slice a 0 cap) ∧ w' = w := by
  refine callsIn_of_wp Tryd.func57 rfl trivial ?_ rfl
  simp only [Tryd.ntmps57, List.size_toArray, List.length_cons, List.length_nil, Nat.reduceAdd, Nat.reduceSub, Array.replicate_succ, Array.replicate_zero, List.push_toArray, List.append_toArray, List.nil_append, List.cons_append]
  gi_wp2
  refine ⟨trivial, ?_⟩
  refine (callsIn_wide.2 (callsIn_wide.1 (index_nil a cap w))).mono ?_
  rintro e W1 ⟨rfl, rfl⟩
  gi_wp2
  go_ret
  exact ⟨rfl, rfl⟩

set_option maxRecDepth 100000 in
set_option maxHeartbeats 2000000 in
/-- The walk: what the calls inside come to is given. -/
theorem degr_walk (sv sum : Value) (hs1 : sv.oneCell' = true) (hs2 : sum.oneCell' = true) (a b err : Int) (w : World) (R R2 : Value → World → Prop)
    (hspans : Calls Tryd.prog 15 #[.agg #[sv, sum], .int .i64 1, .int .i64 a, .int .i64 b] (w.alloc (.cells #[sv, sum] 25)) fun e w' => ∃ u, e = .returned (.tuple #[u, .int .i64 err]) ∧ R u w')
    (hdel : err = 0 → ∀ u W, R u W → Calls Tryd.prog 57 #[u, .func (.func 58) #[] #[]] W fun e w' => ∃ r, e = .returned r ∧ R2 r w') :
    CallsIn Fence.wide 6 Tryd.prog 31 #[.agg #[sv, sum], .int .i64 a, .int .i64 b] w fun e w' =>
      (err = 0 ∧ ∃ v, e = .returned (.tuple #[v, .int .i64 0]) ∧ R2 v w') ∨ (err ≠ 0 ∧ e = .returned (.tuple #[.slice none 0 0, .int .i64 err]) ∧ ∃ u, R u w') := by
  refine callsIn_of_wp Tryd.func31 rfl trivial ?_ rfl
  simp only [Tryd.ntmps31, List.size_toArray, List.length_cons, List.length_nil, Nat.reduceAdd, Nat.reduceSub, Array.replicate_succ, Array.replicate_zero, List.push_toArray, List.append_toArray, List.nil_append, List.cons_append]
  gi_wp2_with (refine ⟨trivial, ?_⟩; gi_at_call 15; refine (callsIn_wide.2 hspans).mono ?_)
  rintro e W1 ⟨u, rfl, hR1⟩
  by_cases h0 : err = 0
  · subst h0
    have hd := hdel rfl u W1 hR1
    gi_wp2_with (refine ⟨trivial, ?_⟩; gi_at_call 57; refine (callsIn_wide.2 hd).mono ?_)
    rintro e W2 ⟨r, rfl, hR2⟩
    gi_wp2
    go_ret2
    first
      | exact .inl ⟨rfl, _, rfl, hR2⟩
      | exact ⟨_, rfl, hR2⟩
  · gi_wp2
    go_ret2
    first
      | exact .inr ⟨h0, rfl, u, hR1⟩
      | exact ⟨rfl, u, hR1⟩

theorem okf_15 : hasN 15 E.okf = true := by kernel_rfl
theorem ownR_some {r : Option Res} {l : List (List PV)} {e : Int} (h : ownR r = some (l, e)) : r = some ([.own 3 l, .p (.int .i64 e)], []) := by
  unfold ownR at h
  split at h
  · cases h; rfl
  · cases h
theorem spansE_eq : ∀ {l : List (List PV)} {r : List (Int × Int × Int)}, spansE l = some r → l = spanK r
  | [], r, h => by cases h; rfl
  | e :: l, r, h => by
    simp only [spansE] at h
    split at h
    · rename_i x y hx hy
      cases h
      rw [spansE_eq hy]
      unfold spanE at hx
      split at hx
      · cases hx; rfl
      · cases hx
    · cases h
theorem kept_map (r : List (Int × Int × Int)) (A B V : Nat → Int) (h : ∀ i x, r[i]? = some x → A i = x.1 ∧ B i = x.2.1 ∧ V i = x.2.2) :
    r.filter (fun x => decide (x.2.2 < 3)) = (kept V r.length).map fun i => (A i, B i, V i) := by
  have e : r = (List.range r.length).map fun i => (A i, B i, V i) := by
    apply List.ext_getElem
    · simp
    · intro i h1 h2
      obtain ⟨a, b, c⟩ := h i _ (List.getElem?_eq_getElem h1)
      simp only [List.getElem_map, List.getElem_range, a, b, c]
  have e2 : r.filter (fun x => decide (x.2.2 < 3)) = ((List.range r.length).map fun i => (A i, B i, V i)).filter (fun x => decide (x.2.2 < 3)) := by rw [← e]
  rw [e2, List.filter_map]
  rfl

theorem frozen_no {w : World} {b o : Nat} {carr : Array Value} {e : TypeId} {fr : Nat × Nat} (h : w.heap[b]? = some (.cells carr e fr)) (hn : noFr carr fr) (ho : o < carr.size) : w.frozen? ⟨b, o, none⟩ = false := by
  have h2 := hn.off o ho
  obtain ⟨lo, hi⟩ := fr
  simp only [World.frozen?, h]
  simp only [Bool.and_eq_false_iff, decide_eq_false_iff_not]
  simp only at h2
  omega

theorem spanK_get {r : List (Int × Int × Int)} {i : Nat} {x : Int × Int × Int} (h : r[i]? = some x) : (spanK r)[i]? = some [.int .i64 x.1, .int .i64 x.2.1, .int .i64 x.2.2] := by
  unfold spanK
  rw [List.getElem?_map, h]
  rfl

set_option maxHeartbeats 1000000 in
theorem s_hDegr : ∀ F, FSound E F → ∀ args rs, (hDegr 15).run F args = some rs → FOk E 31 args [] rs [] := by
  intro F hF args rs h
  replace h : degrRun 15 F args = some rs := h
  unfold degrRun at h
  split at h
  · rename_i es n a b
    split at h
    · rename_i l err hown
      intro C hok hC us hv
      obtain ⟨u, va, vb, rfl, hu, hva, hvb⟩ := three_args hv
      obtain rfl : va = .int .i64 a := by cases hva; rfl
      obtain rfl : vb = .int .i64 b := by cases hvb; rfl
      have hu0 := hu
      obtain ⟨cs, rfl, hcs⟩ := hu
      obtain ⟨c0, c1, rfl, p0, p1⟩ : ∃ c0 c1, cs = #[c0, c1] ∧ C.P (.sl 3 es) c0 ∧ C.P (.int .u64 n) c1 := by
        cases hc : cs.toList with
        | nil => rw [hc] at hcs; exact hcs.elim
        | cons c0 r => cases r with
          | nil => rw [hc] at hcs; exact hcs.2.elim
          | cons c1 r => cases r with
            | nil => rw [hc] at hcs; exact ⟨c0, c1, by rw [← Array.toArray_toList (xs := cs), hc], hcs.1, hcs.2.1⟩
            | cons => rw [hc] at hcs; exact hcs.2.2.elim
      obtain ⟨W, hWd⟩ : ∃ W, C.w.alloc (.cells #[c0, c1] 25) = W := ⟨_, rfl⟩
      have hgW : Grow C.w W := by rw [← hWd]; exact Grow.alloc _ _
      have hsp := FOk.at (hF.fn 15 _ [] _ _ (ownR_some hown) okf_15) hok hC hgW (us := #[.agg #[c0, c1], .int .i64 1, .int .i64 a, .int .i64 b]) ⟨hu0, .int _ _, .int _ _, .int _ _, trivial⟩
      have hspans : Calls Tryd.prog 15 #[.agg #[c0, c1], .int .i64 1, .int .i64 a, .int .i64 b] (C.w.alloc (.cells #[c0, c1] 25)) fun e w' => ∃ u, e = .returned (.tuple #[u, .int .i64 err]) ∧ ∃ D : Ctx, D.w = w' ∧ Ext (C.setW W) D ∧ Ok D ∧ D.h = [.blk (.arr 3 l)] ∧ VT D (.hsl 0) u := by
        rw [hWd]
        refine hsp.mono fun e w' ⟨u, he, D, h1, h2, h3, h4, h5⟩ => ?_
        obtain ⟨ts, rfl, ht⟩ := h5
        obtain ⟨t0, t1, rfl, q0, q1⟩ : ∃ t0 t1, ts = #[t0, t1] ∧ VT D (.hsl 0) t0 ∧ VT D (.p (.int .i64 err)) t1 := by
          cases hc : ts.toList with
          | nil => rw [hc] at ht; exact ht.elim
          | cons c0 r => cases r with
            | nil => rw [hc] at ht; exact ht.2.elim
            | cons c1 r => cases r with
              | nil => rw [hc] at ht; exact ⟨c0, c1, by rw [← Array.toArray_toList (xs := ts), hc], ht.1, ht.2.1⟩
              | cons => rw [hc] at ht; exact ht.2.2.elim
        obtain rfl : t1 = .int .i64 err := by cases q1; rfl
        exact ⟨t0, he, D, h1, h2, h3, h4, q0⟩
      have hGD : ∀ D : Ctx, Ext (C.setW W) D → Grow C.w D.w := fun D hx => hgW.trans (Grow.of_below (below_ext hx hC (Nat.le_refl _)))
      split at h
      · rename_i h0
        split at h
        · rename_i r hr
          split at h
          · rename_i hlen
            cases h
            have hl := spansE_eq hr
            have hll : l.length = r.length := by rw [hl]; simp [spanK]
            refine (callsIn_wide.1 (degr_walk c0 c1 p0.oneCell p1.oneCell a b err C.w (fun u w' => ∃ D : Ctx, D.w = w' ∧ Ext (C.setW W) D ∧ Ok D ∧ D.h = [.blk (.arr 3 l)] ∧ VT D (.hsl 0) u) (fun v w' => Grow C.w w' ∧ (C.setW w').P (.sl 3 (spanK (r.filter fun x => decide (x.2.2 < 3)))) v) hspans ?_)).mono ?_
            · rintro _ u W' ⟨D, rfl, hx, hokD, hDh, hk, -, hHS⟩
              have hlive : live D.h 0 (.arr 3 l) := by unfold live; rw [hDh]; rfl
              have hHS := hHS 3 l hlive
              have hblk := hokD.blk 0 _ hlive
              have hG := hGD D hx
              unfold HS at hHS
              cases hι : D.ι 0 with
              | none =>
                rw [hι] at hHS
                obtain ⟨rfl, rfl⟩ := hHS
                obtain rfl : r = [] := by cases r with | nil => rfl | cons => simp at hll
                refine (callsIn_wide.1 (del_nil none 0 D.w)).mono ?_
                rintro e w' ⟨rfl, rfl⟩
                exact ⟨_, rfl, hG, .sl0 _ _ _⟩
              | some bb =>
                rw [hι] at hHS
                obtain ⟨cap, carr, ty, fr, rfl, hcap, hrow, hcarr⟩ := hHS
                rcases hblk with ⟨hn, _⟩ | ⟨b', carr', ty', fr', hι', hrow', hsz, hnf, hel, hone, hcell⟩
                · rw [hι] at hn; cases hn
                rw [hι] at hι'
                cases hι'
                rw [hrow] at hrow'
                cases hrow'
                have hbb : bb < D.w.heap.size := (Array.getElem?_eq_some_iff.1 hrow).1
                obtain ⟨A, hA⟩ : ∃ A : Nat → Int, A = fun i => match r[i]? with | some x => x.1 | none => 0 := ⟨_, rfl⟩
                obtain ⟨B, hB⟩ : ∃ B : Nat → Int, B = fun i => match r[i]? with | some x => x.2.1 | none => 0 := ⟨_, rfl⟩
                obtain ⟨V, hV⟩ : ∃ V : Nat → Int, V = fun i => match r[i]? with | some x => x.2.2 | none => 0 := ⟨_, rfl⟩
                have hABV : ∀ i x, r[i]? = some x → A i = x.1 ∧ B i = x.2.1 ∧ V i = x.2.2 := fun i x hx => by
                  rw [hA, hB, hV]
                  simp only [hx]
                  exact ⟨trivial, trivial, trivial⟩
                have htrio : ∀ j, j < l.length → Trio D.w bb j (A j) (B j) (V j) := by
                  intro j hj
                  have hj' : r[j]? = some r[j] := List.getElem?_eq_getElem (by omega)
                  obtain ⟨ea, eb, ev⟩ := hABV j _ hj'
                  have hlj := spanK_get hj'
                  rw [← hl] at hlj
                  obtain ⟨u0, a0, b0⟩ := hcell j 0 _ _ hlj rfl
                  obtain ⟨u1, a1, b1⟩ := hcell j 1 _ _ hlj rfl
                  obtain ⟨u2, a2, b2⟩ := hcell j 2 _ _ hlj rfl
                  cases b0; cases b1; cases b2
                  exact ⟨by rw [cells_get _ _ _ hrow, ea]; exact a0, by rw [cells_get _ _ _ hrow, eb]; exact a1, by rw [cells_get _ _ _ hrow, ev]; exact a2⟩
                have hrw : Rw D.w bb (l.length * 3) := fun o ho => by
                  have ho' : o < carr.size := by omega
                  exact ⟨carr[o], by rw [cells_get _ _ _ hrow]; exact Array.getElem?_eq_getElem ho', frozen_no hrow hnf ho'⟩
                refine (callsIn_wide.1 (del_in bb l.length cap A B V D.w hbb hlen hcap htrio hrw)).mono ?_
                rintro e w' ⟨rfl, hres, hgr⟩
                have hnew : C.w.heap.size ≤ bb := by
                  rcases Nat.lt_or_ge bb C.w.heap.size with h | h
                  · exfalso
                    have h1 : bb < (C.setW W).w.heap.size := Nat.lt_of_lt_of_le h hgW.size
                    obtain ⟨id, blk, hlv, _⟩ := hx.own bb h1 ⟨0, _, hlive, hι⟩
                    unfold live at hlv
                    rw [show (C.setW W).h = [] from hC] at hlv
                    cases hlv
                  · exact h
                have hG2 : Grow C.w w' := ⟨hgr.tape.trans hG.tape, hgr.os.trans hG.os, hgr.output.trans hG.out, Nat.le_trans hG.size hgr.size, fun k hk => (hgr.block k (Nat.lt_of_lt_of_le hk hG.size) (by simp; omega)).trans (hG.keep k hk)⟩
                have hnX : ¬ C.X bb := fun hX => (hokD.x bb (by rw [hx.X]; exact hX)).2 ⟨0, _, hlive, hι⟩
                have hfil : spanK (r.filter fun x => decide (x.2.2 < 3)) = (kept V l.length).map fun i => [PV.int .i64 (A i), .int .i64 (B i), .int .i64 (V i)] := by
                  rw [kept_map r A B V hABV, ← hll]
                  simp [spanK]
                have hlenk : (spanK (r.filter fun x => decide (x.2.2 < 3))).length = (kept V l.length).length := by rw [hfil, List.length_map]
                refine ⟨_, rfl, hG2, ?_⟩
                rw [← hlenk]
                refine .sl 3 _ bb 0 cap (fun i j => match (kept V l.length)[i]?, j with | some x, 0 => .int .i64 (A x) | some x, 1 => .int .i64 (B x) | some x, _ => .int .i64 (V x) | none, _ => Go.undef) (Nat.lt_of_lt_of_le hbb hgr.size) ?_ ?_ ?_ ?_ ?_
                · rintro (hX | ⟨id, blk, hlv, _⟩)
                  · exact hnX hX
                  · unfold live at hlv
                    rw [show (C.setW w').h = [] from hC] at hlv
                    cases hlv
                · rw [hlenk]
                  have := kept_le V l.length
                  omega
                · rw [hfil]
                  intro e he
                  obtain ⟨x, _, rfl⟩ := List.mem_map.1 he
                  rfl
                · intro i j e c he hj
                  rw [hfil, List.getElem?_map] at he
                  obtain ⟨x, hx2, rfl⟩ := Option.map_eq_some_iff.1 he
                  obtain ⟨t0, t1, t2⟩ := hres i x hx2
                  simp only [hx2, Nat.zero_add]
                  match j, hj with
                  | 0, _ => exact t0
                  | 1, _ => exact t1
                  | 2, _ => exact t2
                  | j + 3, hj => simp at hj
                · intro i j e c he hj
                  rw [hfil, List.getElem?_map] at he
                  obtain ⟨x, hx2, rfl⟩ := Option.map_eq_some_iff.1 he
                  simp only [hx2]
                  match j, hj with
                  | 0, hj => simp at hj; subst hj; exact .int _ _
                  | 1, hj => simp at hj; subst hj; exact .int _ _
                  | 2, hj => simp at hj; subst hj; exact .int _ _
                  | j + 3, hj => simp at hj
            · rintro e w' (⟨_, v, rfl, hg, hp⟩ | ⟨hne, _⟩)
              · exact ⟨C.setW w', rfl, ext_grow C hg, ok_grow hok hg, hC, _, rfl, hp, .int _ _, trivial⟩
              · exact absurd h0 hne
          · cases h
        · cases h
      · rename_i h0
        cases h
        refine (callsIn_wide.1 (degr_walk c0 c1 p0.oneCell p1.oneCell a b err C.w (fun u w' => ∃ D : Ctx, D.w = w' ∧ Ext (C.setW W) D ∧ Ok D ∧ D.h = [.blk (.arr 3 l)] ∧ VT D (.hsl 0) u) (fun _ _ => True) hspans (fun h => absurd h h0))).mono ?_
        rintro e w' (⟨h, _⟩ | ⟨_, rfl, u, D, rfl, hx, _⟩)
        · exact absurd h h0
        · have hg := hGD D hx
          exact ⟨C.setW D.w, rfl, ext_grow C hg, ok_grow hok hg, hC, _, rfl, .sl0 _ _ _, .int _ _, trivial⟩
    · cases h
  · cases h

end Go.Proofs.YtdbajagnhanpfaaDoor.Vm
