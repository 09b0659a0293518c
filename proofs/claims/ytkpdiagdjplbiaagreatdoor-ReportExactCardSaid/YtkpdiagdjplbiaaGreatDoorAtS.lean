import Derived.RangeFuncNested
import Derived.RangeFuncBound
import Derived.RangeFuncCalls
import Derived.RangeFuncLeaves
import Derived.Shelf.Abstract
import Derived.WalkKit
import Derived.OwnWalkIn
import Derived.TacticsInMore
import Derived.LoopNIn
import Derived.LoopIn
import Derived.Test.YtkpdiagdjplbiaaGreatDoorProg
import Derived.Test.YtkpdiagdjplbiaaGreatDoorEnv
import Derived.Test.YtkpdiagdjplbiaaGreatDoorVm35
import Derived.Test.YtkpdiagdjplbiaaGreatDoorVm34
import Derived.KernelRfl
import Derived.Below
/- slices.Backward over the entries: what its closure hands to a round, and in which order. -/
namespace Go.Proofs.YtkpdiagdjplbiaaGreatDoor
open Go Go.Proofs Go.RowKit Go.Shelf
attribute [local go_sem] Oper.semAt_some

def down (n k : Nat) : List Nat := (List.range k).map fun j => n - 1 - j
theorem down_succ (n k : Nat) : down n (k + 1) = down n k ++ [n - 1 - k] := by simp [down, List.range_succ]
theorem down_length (n k : Nat) : (down n k).length = k := by simp [down]

set_option maxRecDepth 100000 in
set_option maxHeartbeats 2000000 in
theorem back1_in (F : Fence) (n : Nat) (h85 : F.fn 85) (hro : F.round = none) (hn : 1 ≤ n) (l Bs n₀ b off len cap : Nat) (g : Nat → Nat → Value) (hreach : len ≤ 140737488351232) (hb : b < n₀) (J Jx : List Nat → World → Prop)
    (hY : ∀ pre x W, J pre W → pre.length < len → YieldAt F (n - 1) Tryz.prog l #[.int .i64 (x : Nat), .agg #[g x 0, g x 1, g x 2]] W fun e W' =>
      (e = .returned (.bool true) ∧ J (pre ++ [x]) W' ∧ Below n₀ W W') ∨ (e = .returned (.bool false) ∧ Jx (pre ++ [x]) W'))
    (W : World) (hBs : W.cell? ⟨Bs, 0, none⟩ = some (.slice (some ⟨b, off, none⟩) len cap)) (hBs' : Bs < n₀) (hc : ∀ j k, j < len → k < 3 → W.cell? ⟨b, off + j * 3 + k, none⟩ = some (g j k)) (h0 : J [] W) :
    CallsIn F n Tryz.prog 85 #[.func (.yield l) #[] #[], .pointer (some ⟨Bs, 0, none⟩)] W fun e W' => (∃ v, e = .returned v) ∧
      ((∃ ys, ys = down len len ∧ J ys W') ∨ (∃ pre, (∃ k, k ≤ len ∧ pre = down len k) ∧ Jx pre W')) := by
  refine callsIn_of_wp Tryz.func85 rfl h85 ?_ hro
  simp only [Tryz.ntmps85, List.size_toArray, List.length_cons, List.length_nil, Nat.reduceAdd, Nat.reduceSub, Array.replicate_succ, Array.replicate_zero, List.push_toArray, List.append_toArray, List.nil_append, List.cons_append]
  gi_wp2
  gi_loopw [3] (fun i wr => ∃ k : Nat, k ≤ len ∧ i = .int .i64 ((len : Int) - 1 - k) ∧ J (down len k) wr ∧ Below n₀ W wr)
    (fun i _ => ((intOf i) + 1).toNat)
  case atStart => exact ⟨0, Nat.zero_le _, by simp, h0, Below.refl _ _⟩
  case round =>
    obtain ⟨k, hk, rfl, hJs, hnx⟩ := hrel
    have hsl : wr.cell? ⟨Bs, 0, none⟩ = some (.slice (some ⟨b, off, none⟩) len cap) := (hnx.cell (p := ⟨Bs, 0, none⟩) hBs').trans hBs
    by_cases hlt : k < len
    · have e0 : ((len : Int) - 1 - k) = ((len - 1 - k : Nat) : Int) := by omega
      have c0 : wr.cell? ⟨b, off + (len - 1 - k) * 3, none⟩ = some (g (len - 1 - k) 0) := (hnx.cell (p := ⟨b, off + (len - 1 - k) * 3 + 0, none⟩) hb).trans (hc (len - 1 - k) 0 (by omega) (by omega))
      have c1 := (hnx.cell (p := ⟨b, off + (len - 1 - k) * 3 + 1, none⟩) hb).trans (hc (len - 1 - k) 1 (by omega) (by omega))
      have c2 := (hnx.cell (p := ⟨b, off + (len - 1 - k) * 3 + 2, none⟩) hb).trans (hc (len - 1 - k) 2 (by omega) (by omega))
      obtain ⟨fn, tmps, assign, body, hy, hR⟩ := hY _ (len - 1 - k) wr hJs (by rw [down_length]; exact hlt)
      rw [e0]
      gi_wp2
      refine hR.mono ?_
      rintro e W3 (⟨rfl, hJ3, hk3⟩ | ⟨rfl, hJx3⟩)
      · gi_wp2
        go_roundw
        case rel => exact ⟨k + 1, by omega, by simp <;> omega, by rw [down_succ]; exact hJ3, hnx.trans hk3⟩
        case measure => simp [intOf] <;> omega
      · gi_wp2
        refine bodyPost_ret (results_none rfl _ _ _) rfl ?_
        exact ⟨⟨_, rfl⟩, .inr ⟨_, ⟨k + 1, by omega, (down_succ _ _).symm⟩, hJx3⟩⟩
    · obtain rfl : k = len := by omega
      gi_wp2
      go_end0
      exact ⟨⟨_, rfl⟩, .inl ⟨_, rfl, hJs⟩⟩

set_option maxRecDepth 100000 in
set_option maxHeartbeats 2000000 in
theorem back1_nil_in (F : Fence) (n : Nat) (h85 : F.fn 85) (hro : F.round = none) (l Bs : Nat) (a : Option Addr) (cap : Nat) (J : List Nat → World → Prop) (W : World) (hBs : W.cell? ⟨Bs, 0, none⟩ = some (.slice a 0 cap)) (h0 : J [] W) :
    CallsIn F n Tryz.prog 85 #[.func (.yield l) #[] #[], .pointer (some ⟨Bs, 0, none⟩)] W fun e W' => (∃ v, e = .returned v) ∧ J [] W' := by
  refine callsIn_of_wp Tryz.func85 rfl h85 ?_ hro
  simp only [Tryz.ntmps85, List.size_toArray, List.length_cons, List.length_nil, Nat.reduceAdd, Nat.reduceSub, Array.replicate_succ, Array.replicate_zero, List.push_toArray, List.append_toArray, List.nil_append, List.cons_append]
  gi_wp2
  gi_loopw [3] (fun i wr => i = .int .i64 (-1) ∧ J [] wr) (fun _ _ => 0)
  case atStart => exact ⟨rfl, h0⟩
  case round =>
    obtain ⟨rfl, hJs⟩ := hrel
    gi_wp2
    go_end0
    exact ⟨⟨_, rfl⟩, hJs⟩

set_option maxHeartbeats 1000000 in
theorem back_in (F : Fence) (n : Nat) (h67 : F.fn 67) (hro : F.round = none) (v : Value) (hv : v.oneCell' = true) (w : World) :
    CallsIn F n Tryz.prog 67 #[v] w fun e w' => e = .returned (.func (.func 85) #[] #[.pointer (some ⟨w.heap.size, 0, none⟩)]) ∧ w' = w.alloc (.cells #[v] 23) := by
  refine callsIn_of_wp Tryz.func67 rfl h67 ?_ hro
  simp only [Tryz.ntmps67, List.size_toArray, List.length_cons, List.length_nil, Nat.reduceAdd, Nat.reduceSub, Array.replicate_succ, Array.replicate_zero, List.push_toArray, List.append_toArray, List.nil_append, List.cons_append]
  gi_wp2
  go_ret
  exact ⟨rfl, rfl⟩

def Ents (n₀ : Nat) (W : World) (sv : Value) (len : Nat) (g : Nat → Nat → Value) : Prop :=
  (∃ a cap, sv = .slice a 0 cap ∧ len = 0) ∨ ∃ b off cap, sv = .slice (some ⟨b, off, none⟩) len cap ∧ b < n₀ ∧ ∀ j k, j < len → k < 3 → W.cell? ⟨b, off + j * 3 + k, none⟩ = some (g j k)
theorem Ents.below {n₀ : Nat} {A B : World} (h : Below n₀ A B) {sv : Value} {len : Nat} {g : Nat → Nat → Value} : Ents n₀ A sv len g → Ents n₀ B sv len g
  | .inl e => .inl e
  | .inr ⟨b, off, cap, e, hb, hc⟩ => .inr ⟨b, off, cap, e, hb, fun j k hj hk => (h.cell (p := ⟨b, off + j * 3 + k, none⟩) hb).trans (hc j k hj hk)⟩

theorem back_stops (F : Fence) (n : Nat) (h85 : F.fn 85) (hro : F.round = none) (hn : 1 ≤ n) (Bs n₀ : Nat) (sv : Value) (len : Nat) (g : Nat → Nat → Value) (hreach : len ≤ 140737488351232) (w : World) (hBs : Bs < n₀) (hn₀ : n₀ ≤ w.heap.size)
    (hc : w.cell? ⟨Bs, 0, none⟩ = some sv) (hI : Ents n₀ w sv len g) :
    SeqStopsK F n Tryz.prog 85 #[.pointer (some ⟨Bs, 0, none⟩)] (fun x : Nat => #[Value.int .i64 (x : Nat), .agg #[g x 0, g x 1, g x 2]]) (Below n₀) (fun ys => ys = down len len) (fun pre => ∃ k, k ≤ len ∧ pre = down len k) len w := fun l J Jx W hW _ _ hY h0 => by
  have hc' := (hW.cell (p := ⟨Bs, 0, none⟩) (show Bs < w.heap.size by omega)).trans hc
  rcases hI.below (hW.mono hn₀) with ⟨a, cap, rfl, rfl⟩ | ⟨b, off, cap, rfl, hb, hcs⟩
  · exact (back1_nil_in F n h85 hro l Bs a cap J W hc' h0).mono fun e W' ⟨he, hj⟩ => ⟨he, .inl ⟨_, rfl, hj⟩⟩
  · exact back1_in F n h85 hro hn l Bs n₀ b off len cap g hreach hb J Jx hY W hc' hBs hcs h0

def Box3 (W : World) (B : Nat) (x y z : Value) : Prop := W.heap[B]? = some (.cells #[x, y, z] 32 (0, 0))
theorem box3_own (B : Nat) (x y z : Value) : Own (fun (_ : Unit) W => Box3 W B x y z) := fun _ A B' row h hg hr => by
  refine (hg.block B (Array.getElem?_eq_some_iff.1 h).1 ?_).trans h
  intro e
  obtain ⟨o, h1, h2⟩ := hr B e.symm
  rw [show A.heap[B]? = _ from h] at h1
  cases h1
  cases h2
theorem Box3.c0 {W : World} {B : Nat} {x y z : Value} (h : Box3 W B x y z) : W.cell? ⟨B, 0, none⟩ = some x := by simp [World.cell?, show W.heap[B]? = _ from h]
theorem Box3.c1 {W : World} {B : Nat} {x y z : Value} (h : Box3 W B x y z) : W.cell? ⟨B, 1, none⟩ = some y := by simp [World.cell?, show W.heap[B]? = _ from h]
theorem Box3.c2 {W : World} {B : Nat} {x y z : Value} (h : Box3 W B x y z) : W.cell? ⟨B, 2, none⟩ = some z := by simp [World.cell?, show W.heap[B]? = _ from h]

def Hit (K T : Nat → Int) (kind time : Int) (x : Nat) : Prop := K x = kind ∧ T x ≤ time

set_option maxRecDepth 100000 in
set_option maxHeartbeats 4000000 in
theorem at_in (F : Fence) (n : Nat) (h47 : F.fn 47) (h67 : F.fn 67) (h85 : F.fn 85) (hro : F.round = none) (hn : 6 ≤ n) (sv sum : Value) (hs1 : sv.oneCell' = true) (hs2 : sum.oneCell' = true) (len : Nat) (kind time : Int) (K T V : Nat → Int) (SA : Nat → Option Addr) (SL SC : Nat → Nat) (hreach : len ≤ 140737488351232) (w : World)
    (hI : Ents w.heap.size w sv len (fun x j => match j with | 0 => .int .i64 (T x) | 1 => .int .i64 (K x) | _ => .slice (SA x) (SL x) (SC x)))
    (hW : ∀ x, K x = kind → T x ≤ time → ∃ bw ow, SA x = some ⟨bw, ow, none⟩ ∧ 0 < SL x ∧ bw < w.heap.size ∧ w.cell? ⟨bw, ow, none⟩ = some (.int .i64 (V x))) :
    CallsIn F n Tryz.prog 47 #[.agg #[sv, sum], .int .i64 kind, .int .i64 time] w fun e W' =>
      ((e = .returned (.tuple #[.int .i64 0, .bool false]) ∧ ∀ x, x < len → ¬ Hit K T kind time x) ∨
       (∃ x, x < len ∧ e = .returned (.tuple #[.int .i64 (V x), .bool true]) ∧ Hit K T kind time x ∧ ∀ y, x < y → y < len → ¬ Hit K T kind time y)) ∧ Below w.heap.size w W' := by
  have h1 : 1 ≤ n := by omega
  refine callsIn_of_wp_marks Tryz.func47 rfl h47 ?_ hro
  simp only [Tryz.ntmps47, List.size_toArray, List.length_cons, List.length_nil, Nat.reduceAdd, Nat.reduceSub, Array.replicate_succ, Array.replicate_zero, List.push_toArray, List.append_toArray, List.nil_append, List.cons_append]
  gi_wp2_with (gi_at_call 67; refine (back_in F (n - 1) h67 hro _ hs1 _).mono ?_; rintro e w' ⟨rfl, rfl⟩)
  obtain ⟨W0, hW0⟩ : ∃ W0, ((((((w.alloc (.cells #[sv, sum] 26)).alloc (.cells #[.int .i64 kind] 3)).alloc (.cells #[.int .i64 time] 3)).alloc (.cells #[.int .i64 0] 3)).alloc (.cells #[.bool false] 4)).alloc (.cells #[sv] 23)) = W0 := ⟨_, rfl⟩
  have hsz : W0.heap.size = w.heap.size + 6 := by rw [← hW0]; simp
  have hB0 : Below w.heap.size w W0 := by
    rw [← hW0]
    exact (((((((Below.refl _ w).alloc (Nat.le_refl _) _).alloc (by simp) _).alloc (by simp; omega) _).alloc (by simp; omega) _).alloc (by simp; omega) _).alloc (by simp; omega) _)
  have bK : Boxed W0 (w.heap.size + 1) 3 (.int .i64 kind) := by
    rw [← hW0]
    have := (((((Boxed.new (w.alloc (.cells #[sv, sum] 26)) 3 (.int .i64 kind)).alloc (.cells #[.int .i64 time] 3)).alloc (.cells #[.int .i64 0] 3)).alloc (.cells #[.bool false] 4)).alloc (.cells #[sv] 23))
    simpa using this
  have bT : Boxed W0 (w.heap.size + 2) 3 (.int .i64 time) := by
    rw [← hW0]
    have := ((((Boxed.new ((w.alloc (.cells #[sv, sum] 26)).alloc (.cells #[.int .i64 kind] 3)) 3 (.int .i64 time)).alloc (.cells #[.int .i64 0] 3)).alloc (.cells #[.bool false] 4)).alloc (.cells #[sv] 23))
    simpa using this
  have bR : Boxed W0 (w.heap.size + 3) 3 (.int .i64 0) := by
    rw [← hW0]
    have := (((Boxed.new (((w.alloc (.cells #[sv, sum] 26)).alloc (.cells #[.int .i64 kind] 3)).alloc (.cells #[.int .i64 time] 3)) 3 (.int .i64 0)).alloc (.cells #[.bool false] 4)).alloc (.cells #[sv] 23))
    simpa using this
  have bO : Boxed W0 (w.heap.size + 4) 4 (.bool false) := by
    rw [← hW0]
    have := ((Boxed.new ((((w.alloc (.cells #[sv, sum] 26)).alloc (.cells #[.int .i64 kind] 3)).alloc (.cells #[.int .i64 time] 3)).alloc (.cells #[.int .i64 0] 3)) 4 (.bool false)).alloc (.cells #[sv] 23))
    simpa using this
  have bN : Boxed W0 (w.heap.size + 5) 23 sv := by
    rw [← hW0]
    have := (Boxed.new (((((w.alloc (.cells #[sv, sum] 26)).alloc (.cells #[.int .i64 kind] 3)).alloc (.cells #[.int .i64 time] 3)).alloc (.cells #[.int .i64 0] 3)).alloc (.cells #[.bool false] 4)) 23 sv)
    simpa using this
  rw [hW0]
  clear hW0
  simp only [Nat.add_assoc, Nat.reduceAdd]
  refine wpIn_rangeFunc_ownH hro h1 (gf := 85) (lb := #[.pointer (some ⟨w.heap.size + 5, 0, none⟩)]) rfl h85 (enters_of Tryz.func85 (by kernel_rfl) rfl)
    (back_stops F (n - 1) h85 hro (by omega) (w.heap.size + 5) (w.heap.size + 6) sv len _ hreach W0 (by omega) (by omega) bN.cell (by
      rcases hI.below hB0 with h | ⟨b, off, cap, e, hb, hc⟩
      · exact .inl h
      · exact .inr ⟨b, off, cap, e, by omega, hc⟩)) belowK_t (belowK_b (by omega)) (Below.refl _ _) (fun _ => rfl)
    (fun pre W => ((((∀ x ∈ pre, ¬ Hit K T kind time x) ∧ Boxed W (w.heap.size + 1) 3 (.int .i64 kind)) ∧ Boxed W (w.heap.size + 2) 3 (.int .i64 time)) ∧ ((Boxed W (w.heap.size + 3) 3 (.int .i64 0) ∧ Boxed W (w.heap.size + 4) 4 (.bool false)) ∧ Boxed W (w.heap.size + 5) 23 sv)) ∧ Below w.heap.size w W)
    (fun c pre W => ((c = .ret ∧ ∃ ini x, pre = ini ++ [x] ∧ (∀ y ∈ ini, ¬ Hit K T kind time y) ∧ Hit K T kind time x ∧ Boxed W (w.heap.size + 3) 3 (.int .i64 (V x))) ∧ Boxed W (w.heap.size + 4) 4 (.bool true)) ∧ Below w.heap.size w W)
    (OwnFrom.and (OwnFrom.and (OwnFrom.and (OwnFrom.and (ownFrom_pure _ _) (Own.from (boxed_own _ _ _) _)) (Own.from (boxed_own _ _ _) _)) (OwnFrom.and (OwnFrom.and (Own.from (boxed_own _ _ _) _) (Own.from (boxed_own _ _ _) _)) (Own.from (boxed_own _ _ _) _))) (ownFrom_below (Nat.le_refl _) (by omega)))
    (fun c => OwnFrom.and (OwnFrom.and (fun s A B row hs hg hr => by
      obtain ⟨e0, ini, x, e1, e2, e3, e4⟩ := hs
      exact ⟨e0, ini, x, e1, e2, e3, boxed_own (w.heap.size + 3) 3 (fun (_ : Unit) => Value.int .i64 (V x)) () A B row e4 hg (fun r e => (hr r e).2)⟩) (Own.from (boxed_own _ _ _) _)) (ownFrom_below (Nat.le_refl _) (by omega)))
    ⟨⟨⟨⟨by simp, bK⟩, bT⟩, ⟨bR, bO⟩, bN⟩, hB0⟩
    (fun x a' W => ∃ Bx, w.heap.size + 5 < Bx ∧ Box3 W Bx (.int .i64 (T x)) (.int .i64 (K x)) (.slice (SA x) (SL x) (SC x)) ∧ a' = { tmps := #[Value.agg #[sv, sum], Value.int IntKind.i64 kind, Value.int IntKind.i64 time,
          Value.pointer (some ⟨w.heap.size, 0, none⟩), Value.pointer (some ⟨w.heap.size + 1, 0, none⟩), Value.pointer (some ⟨w.heap.size + 2, 0, none⟩), Value.pointer (some ⟨w.heap.size + 3, 0, none⟩), Value.pointer (some ⟨w.heap.size + 4, 0, none⟩), undef, Value.pointer (some ⟨Bx, 0, none⟩),
          Value.pointer (some ⟨w.heap.size, 0, none⟩), sv, Value.func (Fn.func 85) #[] #[Value.pointer (some ⟨w.heap.size + 5, 0, none⟩)],
          .int .i64 (x : Nat), .agg #[.int .i64 (T x), .int .i64 (K x), .slice (SA x) (SL x) (SC x)], undef, undef, undef, undef, undef, undef, undef, undef, undef, undef, undef, undef, undef, undef], defers := [] })
    (fun x a' _ X Y row hs hg hr => by obtain ⟨Bx, e1, e2, e3⟩ := hs; exact ⟨Bx, e1, box3_own Bx _ _ _ () X Y row e2 hg (fun r e => (hr r e).2), e3⟩)
    ?assign ?body ?done ?stop
  case assign =>
    rintro l pre x W Kq ⟨⟨⟨⟨hp, bK1⟩, bT1⟩, ⟨bR1, bO1⟩, bN1⟩, hB1⟩ hK
    gi_wp2
    exact hK _ _ ((KeepsOthers.alloc _ _).from _) ((Below.refl _ W).alloc (by have := bN1.lt; omega) _) ⟨⟨⟨⟨hp, bK1.alloc _⟩, bT1.alloc _⟩, ⟨bR1.alloc _, bO1.alloc _⟩, bN1.alloc _⟩, hB1.alloc hB1.size _⟩ ⟨W.heap.size, by have := bN1.lt; omega, World.alloc_heap_new W _, rfl⟩
  case body =>
    rintro l pre x a' W hl ⟨r, hr⟩ ⟨⟨⟨⟨hp, bK1⟩, bT1⟩, ⟨bR1, bO1⟩, bN1⟩, hB1⟩ ⟨Bx, hBx, bX, rfl⟩ hlt
    have cK := bK1.cell
    have cT := bT1.cell
    have cR := bR1.cell
    have fR := bR1.frozen
    have cO := bO1.cell
    have fO := bO1.frozen
    have x0 := bX.c0
    have x1 := bX.c1
    have x2 := bX.c2
    by_cases hk : K x = kind
    · by_cases ht : T x ≤ time
      · obtain ⟨bw, ow, e1, e2, e3, e4⟩ := hW x hk ht
        have cW := (hB1.cell (p := ⟨bw, ow, none⟩) e3).trans e4
        rw [e1] at x2
        gi_wp2
        exact ⟨((KeepsOthers.setCell _ _ _).trans (KeepsOthers.setCell _ _ _)).from _, ⟨⟨rfl, pre, x, rfl, hp, ⟨hk, ht⟩, (bR1.set _).other (by omega) _⟩, (bO1.other (by omega) _).set _⟩,
          (hB1.setCell (p := ⟨w.heap.size + 3, 0, none⟩) (by simp) _).setCell (p := ⟨w.heap.size + 4, 0, none⟩) (by simp) _⟩
      · have hno : ¬ Hit K T kind time x := fun h => ht h.2
        gi_wp2
        exact ⟨KeepsFrom.refl _ _, Below.refl _ _, ⟨⟨⟨fun y hy => (List.mem_append.1 hy).elim (hp y) (fun e => by simp at e; subst e; exact hno), bK1⟩, bT1⟩, ⟨bR1, bO1⟩, bN1⟩, hB1⟩
    · have hno : ¬ Hit K T kind time x := fun h => hk h.1
      gi_wp2
      exact ⟨KeepsFrom.refl _ _, Below.refl _ _, ⟨⟨⟨fun y hy => (List.mem_append.1 hy).elim (hp y) (fun e => by simp at e; subst e; exact hno), bK1⟩, bT1⟩, ⟨bR1, bO1⟩, bN1⟩, hB1⟩
  case done =>
    rintro D ys W hD rfl ⟨⟨⟨⟨hp, bK1⟩, bT1⟩, ⟨bR1, bO1⟩, bN1⟩, hB1⟩ hK
    have cR := bR1.cell
    have fR := bR1.frozen
    have cO := bO1.cell
    have fO := bO1.frozen
    gi_wp2
    have hK' := ((KeepsOthers.setCell W ⟨w.heap.size + 3, 0, none⟩ (.int .i64 0)).trans (KeepsOthers.setCell _ ⟨w.heap.size + 4, 0, none⟩ (.bool false))).same D _ hK rfl
    refine ⟨by simp, .inl ⟨_, _, rfl, run_takeDeferred hK', ?_⟩⟩
    have d1 := ((bR1.set (.int .i64 0)).other (B' := w.heap.size + 4) (by omega) (.bool false)).kept (grownBy_putObj' _ D (.deferred none)) (by simp; omega)
    have d2 := ((bO1.other (B' := w.heap.size + 3) (by omega) (.int .i64 0)).set (.bool false)).kept (grownBy_putObj' _ D (.deferred none)) (by simp; omega)
    refine ⟨.tuple #[.int .i64 0, .bool false], ?_, .inl ⟨rfl, fun x hx => hp x (by simp only [down, List.mem_map, List.mem_range]; exact ⟨len - 1 - x, by omega, by omega⟩)⟩, ((hB1.setCell (p := ⟨w.heap.size + 3, 0, none⟩) (by simp) _).setCell (p := ⟨w.heap.size + 4, 0, none⟩) (by simp) _).trans (belowK_b (w := w) (Nat.le_refl _) _ D _ _ (by omega) hK' rfl rfl)⟩
    simp [results, Tryz.f47, go_sem, d1.cell, d2.cell]
  case stop =>
    rintro D c pre W hD ⟨k, hk, rfl⟩ ⟨⟨⟨rfl, ini, x, e1, e2, e3, bR1⟩, bO1⟩, hB1⟩ hK
    obtain ⟨k', rfl⟩ : ∃ k', k = k' + 1 := by
      cases k with
      | zero => simp [down] at e1
      | succ k' => exact ⟨k', rfl⟩
    rw [down_succ] at e1
    obtain ⟨rfl, e5⟩ := List.append_inj' e1 rfl
    simp only [List.cons.injEq, and_true] at e5
    subst e5
    gi_wp2
    refine ⟨by simp, .inl ⟨_, _, rfl, run_takeDeferred hK, ?_⟩⟩
    have d1 := bR1.kept (grownBy_putObj' _ D (.deferred none)) (by simp; omega)
    have d2 := bO1.kept (grownBy_putObj' _ D (.deferred none)) (by simp; omega)
    refine ⟨.tuple #[.int .i64 (V (len - 1 - k')), .bool true], ?_, .inr ⟨len - 1 - k', by omega, rfl, e3, fun y h1 h2 => e2 y (by simp only [down, List.mem_map, List.mem_range]; exact ⟨len - 1 - y, by omega, by omega⟩)⟩, hB1.trans (belowK_b (w := w) (Nat.le_refl _) _ D _ _ (by omega) hK rfl rfl)⟩
    simp [results, Tryz.f47, go_sem, d1.cell, d2.cell]

end Go.Proofs.YtkpdiagdjplbiaaGreatDoor

/- logbook.at answers what its row says. -/
namespace Go.Proofs.YtkpdiagdjplbiaaGreatDoor.Vm
open Go.RowKit
set_option linter.unusedVariables false
set_option linter.unusedSimpArgs false

theorem atL_none {kind time : Int} : ∀ {l : List (Int × Int × Int)}, (∀ p ∈ l, ¬ (p.2.1 = kind ∧ p.1 ≤ time)) → atL kind time l = (0, false)
  | [], _ => rfl
  | x :: l, h => by
    have h1 := atL_none (l := l) fun p hp => h p (.tail _ hp)
    have h2 := h x (.head _)
    simp only [atL, h1, cond_false]
    have : (decide (x.2.1 = kind) && decide (x.1 ≤ time)) = false := by simpa using h2
    rw [this]; rfl
theorem atL_last {kind time : Int} {p : Int × Int × Int} {b : List (Int × Int × Int)} (hp : p.2.1 = kind ∧ p.1 ≤ time) (hb : ∀ q ∈ b, ¬ (q.2.1 = kind ∧ q.1 ≤ time)) : ∀ {a : List (Int × Int × Int)}, atL kind time (a ++ p :: b) = (p.2.2, true)
  | [] => by
    have : (decide (p.2.1 = kind) && decide (p.1 ≤ time)) = true := by simpa using hp
    simp only [List.nil_append, atL, atL_none hb, cond_false, this, cond_true]
  | x :: a => by simp only [List.cons_append, atL, atL_last hp hb (a := a), cond_true]

theorem entE_some {e : List PV} {x : Int × Int × Int} (h : entE e = some x) : ∃ r ws, e = [.int .i64 x.1, .int .i64 x.2.1, .sl 1 ((.int .i64 x.2.2 :: r) :: ws)] := by
  unfold entE at h
  split at h
  · cases h; exact ⟨_, _, rfl⟩
  · cases h
theorem entsE_get : ∀ {es : List (List PV)} {l : List (Int × Int × Int)}, entsE es = some l → l.length = es.length ∧ ∀ (i : Nat) (x : Int × Int × Int), l[i]? = some x → ∃ r ws, es[i]? = some [.int .i64 x.1, .int .i64 x.2.1, .sl 1 ((.int .i64 x.2.2 :: r) :: ws)]
  | [], l, h => by cases h; exact ⟨rfl, fun i x h => by simp at h⟩
  | e :: es, l, h => by
    simp only [entsE] at h
    split at h
    · rename_i x r hx hr
      cases h
      obtain ⟨h1, h2⟩ := entsE_get hr
      refine ⟨by simp [h1], fun i y hy => ?_⟩
      cases i with
      | zero => simp at hy; subst hy; obtain ⟨r, ws, rfl⟩ := entE_some hx; exact ⟨r, ws, rfl⟩
      | succ i => simpa using h2 i y (by simpa using hy)
    · cases h

def slA : Value → Option Addr | .slice a _ _ => a | _ => none
def slL : Value → Nat | .slice _ l _ => l | _ => 0
def slC : Value → Nat | .slice _ _ c => c | _ => 0

theorem at_any (sv sum : Value) (hs1 : sv.oneCell' = true) (hs2 : sum.oneCell' = true) (len : Nat) (kind time : Int) (K T V : Nat → Int) (SA : Nat → Option Addr) (SL SC : Nat → Nat) (hreach : len ≤ 140737488351232) (w : World)
    (hI : Ents w.heap.size w sv len (fun x j => match j with | 0 => .int .i64 (T x) | 1 => .int .i64 (K x) | _ => .slice (SA x) (SL x) (SC x)))
    (hW : ∀ x, K x = kind → T x ≤ time → ∃ bw ow, SA x = some ⟨bw, ow, none⟩ ∧ 0 < SL x ∧ bw < w.heap.size ∧ w.cell? ⟨bw, ow, none⟩ = some (.int .i64 (V x))) :
    Calls Tryz.prog 47 #[.agg #[sv, sum], .int .i64 kind, .int .i64 time] w fun e W' =>
      ((e = .returned (.tuple #[.int .i64 0, .bool false]) ∧ ∀ x, x < len → ¬ Hit K T kind time x) ∨
       (∃ x, x < len ∧ e = .returned (.tuple #[.int .i64 (V x), .bool true]) ∧ Hit K T kind time x ∧ ∀ y, x < y → y < len → ¬ Hit K T kind time y)) ∧ Below w.heap.size w W' :=
  callsIn_wide.1 (at_in Go.Fence.wide 6 trivial trivial trivial rfl (Nat.le_refl 6) sv sum hs1 hs2 len kind time K T V SA SL SC hreach w hI hW)

set_option maxRecDepth 100000 in
set_option maxHeartbeats 400000 in
theorem pAt_ok (args : List AV) (rs : List RV) (h : pAt args = some rs) (C : Ctx) (hok : Ok C) (us : Array Value) (hv : All2 (VA C) args us.toList) :
    Calls E.P 47 us C.w fun e w' => ∃ u, e = .returned u ∧ Grow C.w w' ∧ VA (C.setW w') (valOf (rawT 0 rs)) u := by
  unfold pAt at h
  split at h
  · rename_i es sum kind time
    split at h
    · rename_i l hl
      split at h
      · rename_i hlen
        cases h
        obtain ⟨u, v, x, rfl, hu, hv1, hx⟩ := three_args hv
        obtain ⟨cs, rfl, hcs⟩ := hu
        obtain rfl : v = .int .i64 kind := by cases hv1; rfl
        obtain rfl : x = .int .i64 time := by cases hx; rfl
        obtain ⟨hl1, hl2⟩ := entsE_get hl
        obtain ⟨c0, c1, rfl, p0, p1⟩ : ∃ c0 c1, cs = #[c0, c1] ∧ C.P (.sl 3 es) c0 ∧ C.P (.int .u64 sum) c1 := by
          cases hc : cs.toList with
          | nil => rw [hc] at hcs; exact hcs.elim
          | cons c0 r => cases r with
            | nil => rw [hc] at hcs; exact hcs.2.elim
            | cons c1 r => cases r with
              | nil => rw [hc] at hcs; exact ⟨c0, c1, by rw [← Array.toArray_toList (xs := cs), hc], hcs.1, hcs.2.1⟩
              | cons => rw [hc] at hcs; exact hcs.2.2.elim
        have key : ∃ f : Nat → Nat → Value, Ents C.w.heap.size C.w c0 es.length f ∧ ∀ i j e c, es[i]? = some e → e[j]? = some c → C.P c (f i j) := by
          cases p0 with
          | sl0 _ a cap => exact ⟨fun _ _ => Go.undef, .inl ⟨_, _, rfl, rfl⟩, fun i j e c h => by simp at h⟩
          | sl _ _ b off cap f hb hO hc hz hcell hv2 =>
            refine ⟨f, .inr ⟨b, off, cap, rfl, hb, fun j k hj hk => ?_⟩, hv2⟩
            have hz' := hz _ (List.getElem_mem hj)
            exact hcell j k es[j] _ (List.getElem?_eq_getElem hj) (List.getElem?_eq_getElem (by omega))
        obtain ⟨f, hE, hf⟩ := key
        have hel : ∀ (i : Nat) (x : Int × Int × Int), l[i]? = some x → f i 0 = .int .i64 x.1 ∧ f i 1 = .int .i64 x.2.1 ∧ ∃ b off cap n, f i 2 = .slice (some ⟨b, off, none⟩) n cap ∧ 0 < n ∧ b < C.w.heap.size ∧ C.w.cell? ⟨b, off, none⟩ = some (.int .i64 x.2.2) := by
          intro i x hx
          obtain ⟨r, ws, he⟩ := hl2 i x hx
          have h0 := hf i 0 _ _ he rfl
          have h1 := hf i 1 _ _ he rfl
          have h2 := hf i 2 _ _ he rfl
          refine ⟨by generalize f i 0 = u at h0; cases h0; rfl, by generalize f i 1 = u at h1; cases h1; rfl, ?_⟩
          generalize f i 2 = u at h2
          cases h2 with
          | sl _ _ b off cap g hb hO hc hz hcell hv2 =>
            have a1 := hcell 0 0 _ _ rfl rfl
            have a2 := hv2 0 0 _ _ rfl rfl
            refine ⟨b, off, cap, _, rfl, by simp, hb, ?_⟩
            have : off + 0 * 1 + 0 = off := by omega
            rw [this] at a1
            rw [a1]
            congr 1
            generalize g 0 0 = y at a2
            cases a2; rfl
        obtain ⟨T, hT⟩ : ∃ T : Nat → Int, T = fun x => match l[x]? with | some p => p.1 | none => 0 := ⟨_, rfl⟩
        obtain ⟨K, hK⟩ : ∃ K : Nat → Int, K = fun x => match l[x]? with | some p => p.2.1 | none => kind + 1 := ⟨_, rfl⟩
        obtain ⟨V, hV⟩ : ∃ V : Nat → Int, V = fun x => match l[x]? with | some p => p.2.2 | none => 0 := ⟨_, rfl⟩
        have hin : ∀ {x}, K x = kind → ∃ p, l[x]? = some p := by
          intro x h
          cases hp : l[x]? with
          | some p => exact ⟨p, rfl⟩
          | none => simp only [hK] at h; rw [hp] at h; simp at h; omega
        have hr : es.length ≤ 140737488351232 := by omega
        show Calls Tryz.prog 47 _ _ _
        refine (at_any c0 c1 p0.oneCell p1.oneCell es.length kind time K T V (fun x => slA (f x 2)) (fun x => slL (f x 2)) (fun x => slC (f x 2)) hr C.w ?_ ?_).mono ?_
        rotate_left 2
        · intro e w' ⟨h, hB⟩
          rcases h with ⟨rfl, hno⟩ | ⟨x, hx, rfl, hhit, hno⟩
          · refine ⟨_, rfl, Grow.of_below hB, ?_⟩
            rw [atL_none (kind := kind) (time := time) fun p hp => by
              obtain ⟨i, hi, rfl⟩ := List.mem_iff_getElem.1 hp
              have := hno i (by omega)
              simpa only [Hit, hK, hT, List.getElem?_eq_getElem hi] using this]
            exact ⟨_, rfl, .int _ _, .bool _, trivial⟩
          · refine ⟨_, rfl, Grow.of_below hB, ?_⟩
            obtain ⟨p, hp⟩ := hin hhit.1
            have hlt : x < l.length := by omega
            have hp' : l[x] = p := by rw [List.getElem?_eq_getElem hlt] at hp; exact Option.some.inj hp
            have e1 : l = l.take x ++ p :: l.drop (x + 1) := by rw [← hp', ← List.drop_eq_getElem_cons hlt, List.take_append_drop]
            have e2 : atL kind time l = (p.2.2, true) := by
              rw [e1]
              refine atL_last ?_ fun q hq => ?_
              · have := hhit; simpa only [Hit, hK, hT, hp] using this
              · obtain ⟨i, hi, rfl⟩ := List.mem_iff_getElem.1 hq
                have hi' : x + 1 + i < l.length := by simp at hi; omega
                have := hno (x + 1 + i) (by omega) (by omega)
                simpa only [Hit, hK, hT, List.getElem?_eq_getElem hi', List.getElem_drop] using this
            rw [e2]
            have e3 : V x = p.2.2 := by simp only [hV, hp]
            rw [e3]
            exact ⟨_, rfl, .int _ _, .bool _, trivial⟩
        · rcases hE with h | ⟨b, off, cap, e, hb, hcc⟩
          · exact .inl h
          · refine .inr ⟨b, off, cap, e, hb, fun j k hj hk => ?_⟩
            rw [hcc j k hj hk]
            have hj' : j < l.length := by omega
            obtain ⟨a0, a1, b', o', c', n', a2, _⟩ := hel j _ (List.getElem?_eq_getElem hj')
            congr 1
            match k, hk with
            | 0, _ => rw [a0]; simp only [hT, List.getElem?_eq_getElem hj']
            | 1, _ => rw [a1]; simp only [hK, List.getElem?_eq_getElem hj']
            | 2, _ => dsimp only; rw [a2]; rfl
        · intro x hk ht
          obtain ⟨p, hp⟩ := hin hk
          obtain ⟨_, _, b', o', c', n', a2, a3, a4, a5⟩ := hel x p hp
          refine ⟨b', o', by rw [a2]; rfl, by rw [a2]; exact a3, a4, ?_⟩
          rw [a5]
          simp only [hV, hp]
      · cases h
    · cases h
  · cases h

theorem s_pAt : ∀ args rs, pAt args = some rs → FOk E 47 args [] rs [] := fun args rs h => by
  refine prim_ok ?_ fun C hok us hv => pAt_ok args rs h C hok us hv
  unfold pAt at h
  split at h
  · split at h
    · split at h
      · cases h; rfl
      · cases h
    · cases h
  · cases h

end Go.Proofs.YtkpdiagdjplbiaaGreatDoor.Vm
