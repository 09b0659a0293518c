import Derived.RangeFuncNested
import Derived.RangeFuncBound
import Derived.RangeFuncCalls
import Derived.RangeFuncLeaves
import Derived.Shelf.Abstract
import Derived.WalkKit
import Derived.OwnWalkIn
import Derived.TacticsInMore
import Derived.LoopNIn
import Derived.LoopIn
import Derived.Test.YtiijghkfinkphaaGreatDoorProg
import Derived.Test.YtiijghkfinkphaaGreatDoorEnv
import Derived.Test.YtiijghkfinkphaaGreatDoorVm35
import Derived.Test.YtiijghkfinkphaaGreatDoorVm34
import Derived.KernelRfl
import Derived.Below
import Derived.RangeFuncBox
import Derived.Lib.SliceRun
import Derived.Lib.BufferWrite
import Derived.Maps.Range
import Derived.Stop.RegionWithIn
import Derived.Lib.Walk
import Derived.Lib.ItoaMem
import Derived.BigCall
import Derived.BigGuard
import Derived.Test.YtiijghkfinkphaaGreatDoorShelf
import Derived.Test.YtiijghkfinkphaaGreatDoorVm33
import Derived.Test.YtiijghkfinkphaaGreatDoorAppS
import Derived.Test.YtiijghkfinkphaaGreatDoorReadS
import Derived.Test.YtiijghkfinkphaaGreatDoorParseS
/- slices.Backward over the entries: what its closure hands to a round, and in which order. -/
namespace Go.Proofs.YtiijghkfinkphaaGreatDoor
open Go Go.Proofs Go.RowKit Go.Shelf
attribute [local go_sem] Oper.semAt_some

def down (n k : Nat) : List Nat := (List.range k).map fun j => n - 1 - j
theorem down_succ (n k : Nat) : down n (k + 1) = down n k ++ [n - 1 - k] := by simp [down, List.range_succ]
theorem down_length (n k : Nat) : (down n k).length = k := by simp [down]

set_option maxRecDepth 100000 in
set_option maxHeartbeats 2000000 in
theorem back1_in (F : Fence) (n : Nat) (h90 : F.fn 90) (hro : F.round = none) (hn : 1 ≤ n) (l Bs n₀ b off len cap : Nat) (g : Nat → Nat → Value) (hreach : len ≤ 140737488351232) (hb : b < n₀) (J Jx : List Nat → World → Prop)
    (hY : ∀ pre x W, J pre W → pre.length < len → YieldAt F (n - 1) Tryz.prog l #[.int .i64 (x : Nat), .agg #[g x 0, g x 1, g x 2]] W fun e W' =>
      (e = .returned (.bool true) ∧ J (pre ++ [x]) W' ∧ Below n₀ W W') ∨ (e = .returned (.bool false) ∧ Jx (pre ++ [x]) W'))
    (W : World) (hBs : W.cell? ⟨Bs, 0, none⟩ = some (.slice (some ⟨b, off, none⟩) len cap)) (hBs' : Bs < n₀) (hc : ∀ j k, j < len → k < 3 → W.cell? ⟨b, off + j * 3 + k, none⟩ = some (g j k)) (h0 : J [] W) :
    CallsIn F n Tryz.prog 90 #[.func (.yield l) #[] #[], .pointer (some ⟨Bs, 0, none⟩)] W fun e W' => (∃ v, e = .returned v) ∧
      ((∃ ys, ys = down len len ∧ J ys W') ∨ (∃ pre, (∃ k, k ≤ len ∧ pre = down len k) ∧ Jx pre W')) := by
  refine callsIn_of_wp Tryz.func90 rfl h90 ?_ hro
  simp only [Tryz.ntmps90, List.size_toArray, List.length_cons, List.length_nil, Nat.reduceAdd, Nat.reduceSub, Array.replicate_succ, Array.replicate_zero, List.push_toArray, List.append_toArray, List.nil_append, List.cons_append]
  gi_wp2
  gi_loopw [3] (fun i wr => ∃ k : Nat, k ≤ len ∧ i = .int .i64 ((len : Int) - 1 - k) ∧ J (down len k) wr ∧ Below n₀ W wr)
    (fun i _ => ((intOf i) + 1).toNat)
  case atStart => exact ⟨0, Nat.zero_le _, by simp, h0, Below.refl _ _⟩
  case round =>
    obtain ⟨k, hk, rfl, hJs, hnx⟩ := hrel
    have hsl : wr.cell? ⟨Bs, 0, none⟩ = some (.slice (some ⟨b, off, none⟩) len cap) := (hnx.cell (p := ⟨Bs, 0, none⟩) hBs').trans hBs
    by_cases hlt : k < len
    · have e0 : ((len : Int) - 1 - k) = ((len - 1 - k : Nat) : Int) := by omega
      have c0 : wr.cell? ⟨b, off + (len - 1 - k) * 3, none⟩ = some (g (len - 1 - k) 0) := (hnx.cell (p := ⟨b, off + (len - 1 - k) * 3 + 0, none⟩) hb).trans (hc (len - 1 - k) 0 (by omega) (by omega))
      have c1 := (hnx.cell (p := ⟨b, off + (len - 1 - k) * 3 + 1, none⟩) hb).trans (hc (len - 1 - k) 1 (by omega) (by omega))
      have c2 := (hnx.cell (p := ⟨b, off + (len - 1 - k) * 3 + 2, none⟩) hb).trans (hc (len - 1 - k) 2 (by omega) (by omega))
      obtain ⟨fn, tmps, assign, body, hy, hR⟩ := hY _ (len - 1 - k) wr hJs (by rw [down_length]; exact hlt)
      rw [e0]
      gi_wp2
      refine hR.mono ?_
      rintro e W3 (⟨rfl, hJ3, hk3⟩ | ⟨rfl, hJx3⟩)
      · gi_wp2
        go_roundw
        case rel => exact ⟨k + 1, by omega, by simp <;> omega, by rw [down_succ]; exact hJ3, hnx.trans hk3⟩
        case measure => simp [intOf] <;> omega
      · gi_wp2
        refine bodyPost_ret (results_none rfl _ _ _) rfl ?_
        exact ⟨⟨_, rfl⟩, .inr ⟨_, ⟨k + 1, by omega, (down_succ _ _).symm⟩, hJx3⟩⟩
    · obtain rfl : k = len := by omega
      gi_wp2
      go_end0
      exact ⟨⟨_, rfl⟩, .inl ⟨_, rfl, hJs⟩⟩

set_option maxRecDepth 100000 in
set_option maxHeartbeats 2000000 in
theorem back1_nil_in (F : Fence) (n : Nat) (h90 : F.fn 90) (hro : F.round = none) (l Bs : Nat) (a : Option Addr) (cap : Nat) (J : List Nat → World → Prop) (W : World) (hBs : W.cell? ⟨Bs, 0, none⟩ = some (.slice a 0 cap)) (h0 : J [] W) :
    CallsIn F n Tryz.prog 90 #[.func (.yield l) #[] #[], .pointer (some ⟨Bs, 0, none⟩)] W fun e W' => (∃ v, e = .returned v) ∧ J [] W' := by
  refine callsIn_of_wp Tryz.func90 rfl h90 ?_ hro
  simp only [Tryz.ntmps90, List.size_toArray, List.length_cons, List.length_nil, Nat.reduceAdd, Nat.reduceSub, Array.replicate_succ, Array.replicate_zero, List.push_toArray, List.append_toArray, List.nil_append, List.cons_append]
  gi_wp2
  gi_loopw [3] (fun i wr => i = .int .i64 (-1) ∧ J [] wr) (fun _ _ => 0)
  case atStart => exact ⟨rfl, h0⟩
  case round =>
    obtain ⟨rfl, hJs⟩ := hrel
    gi_wp2
    go_end0
    exact ⟨⟨_, rfl⟩, hJs⟩

set_option maxHeartbeats 1000000 in
theorem back_in (F : Fence) (n : Nat) (h73 : F.fn 73) (hro : F.round = none) (v : Value) (hv : v.oneCell' = true) (w : World) :
    CallsIn F n Tryz.prog 73 #[v] w fun e w' => e = .returned (.func (.func 90) #[] #[.pointer (some ⟨w.heap.size, 0, none⟩)]) ∧ w' = w.alloc (.cells #[v] 29) := by
  refine callsIn_of_wp Tryz.func73 rfl h73 ?_ hro
  simp only [Tryz.ntmps73, List.size_toArray, List.length_cons, List.length_nil, Nat.reduceAdd, Nat.reduceSub, Array.replicate_succ, Array.replicate_zero, List.push_toArray, List.append_toArray, List.nil_append, List.cons_append]
  gi_wp2
  go_ret
  exact ⟨rfl, rfl⟩

def Ents (n₀ : Nat) (W : World) (sv : Value) (len : Nat) (g : Nat → Nat → Value) : Prop :=
  (∃ a cap, sv = .slice a 0 cap ∧ len = 0) ∨ ∃ b off cap, sv = .slice (some ⟨b, off, none⟩) len cap ∧ b < n₀ ∧ ∀ j k, j < len → k < 3 → W.cell? ⟨b, off + j * 3 + k, none⟩ = some (g j k)
theorem Ents.below {n₀ : Nat} {A B : World} (h : Below n₀ A B) {sv : Value} {len : Nat} {g : Nat → Nat → Value} : Ents n₀ A sv len g → Ents n₀ B sv len g
  | .inl e => .inl e
  | .inr ⟨b, off, cap, e, hb, hc⟩ => .inr ⟨b, off, cap, e, hb, fun j k hj hk => (h.cell (p := ⟨b, off + j * 3 + k, none⟩) hb).trans (hc j k hj hk)⟩

theorem back_stops (F : Fence) (n : Nat) (h90 : F.fn 90) (hro : F.round = none) (hn : 1 ≤ n) (Bs n₀ : Nat) (sv : Value) (len : Nat) (g : Nat → Nat → Value) (hreach : len ≤ 140737488351232) (w : World) (hBs : Bs < n₀) (hn₀ : n₀ ≤ w.heap.size)
    (hc : w.cell? ⟨Bs, 0, none⟩ = some sv) (hI : Ents n₀ w sv len g) :
    SeqStopsK F n Tryz.prog 90 #[.pointer (some ⟨Bs, 0, none⟩)] (fun x : Nat => #[Value.int .i64 (x : Nat), .agg #[g x 0, g x 1, g x 2]]) (Below n₀) (fun ys => ys = down len len) (fun pre => ∃ k, k ≤ len ∧ pre = down len k) len w := fun l J Jx W hW _ _ hY h0 => by
  have hc' := (hW.cell (p := ⟨Bs, 0, none⟩) (show Bs < w.heap.size by omega)).trans hc
  rcases hI.below (hW.mono hn₀) with ⟨a, cap, rfl, rfl⟩ | ⟨b, off, cap, rfl, hb, hcs⟩
  · exact (back1_nil_in F n h90 hro l Bs a cap J W hc' h0).mono fun e W' ⟨he, hj⟩ => ⟨he, .inl ⟨_, rfl, hj⟩⟩
  · exact back1_in F n h90 hro hn l Bs n₀ b off len cap g hreach hb J Jx hY W hc' hBs hcs h0

def Box3 (W : World) (B : Nat) (x y z : Value) : Prop := W.heap[B]? = some (.cells #[x, y, z] 51 (0, 0))
theorem box3_own (B : Nat) (x y z : Value) : Own (fun (_ : Unit) W => Box3 W B x y z) := fun _ A B' row h hg hr => by
  refine (hg.block B (Array.getElem?_eq_some_iff.1 h).1 ?_).trans h
  intro e
  obtain ⟨o, h1, h2⟩ := hr B e.symm
  rw [show A.heap[B]? = _ from h] at h1
  cases h1
  cases h2
theorem Box3.c0 {W : World} {B : Nat} {x y z : Value} (h : Box3 W B x y z) : W.cell? ⟨B, 0, none⟩ = some x := by simp [World.cell?, show W.heap[B]? = _ from h]
theorem Box3.c1 {W : World} {B : Nat} {x y z : Value} (h : Box3 W B x y z) : W.cell? ⟨B, 1, none⟩ = some y := by simp [World.cell?, show W.heap[B]? = _ from h]
theorem Box3.c2 {W : World} {B : Nat} {x y z : Value} (h : Box3 W B x y z) : W.cell? ⟨B, 2, none⟩ = some z := by simp [World.cell?, show W.heap[B]? = _ from h]

def Hit (K T : Nat → Int) (kind time : Int) (x : Nat) : Prop := K x = kind ∧ T x ≤ time

set_option maxRecDepth 100000 in
set_option maxHeartbeats 4000000 in
theorem at_in (F : Fence) (n : Nat) (h61 : F.fn 61) (h73 : F.fn 73) (h90 : F.fn 90) (hro : F.round = none) (hn : 6 ≤ n) (sv sum : Value) (hs1 : sv.oneCell' = true) (hs2 : sum.oneCell' = true) (len : Nat) (kind time : Int) (K T V : Nat → Int) (SA : Nat → Option Addr) (SL SC : Nat → Nat) (hreach : len ≤ 140737488351232) (w : World)
    (hI : Ents w.heap.size w sv len (fun x j => match j with | 0 => .int .i64 (T x) | 1 => .int .i64 (K x) | _ => .slice (SA x) (SL x) (SC x)))
    (hW : ∀ x, K x = kind → T x ≤ time → ∃ bw ow, SA x = some ⟨bw, ow, none⟩ ∧ 0 < SL x ∧ bw < w.heap.size ∧ w.cell? ⟨bw, ow, none⟩ = some (.int .i64 (V x))) :
    CallsIn F n Tryz.prog 61 #[.agg #[sv, sum], .int .i64 kind, .int .i64 time] w fun e W' =>
      ((e = .returned (.tuple #[.int .i64 0, .bool false]) ∧ ∀ x, x < len → ¬ Hit K T kind time x) ∨
       (∃ x, x < len ∧ e = .returned (.tuple #[.int .i64 (V x), .bool true]) ∧ Hit K T kind time x ∧ ∀ y, x < y → y < len → ¬ Hit K T kind time y)) ∧ Below w.heap.size w W' := by
  have h1 : 1 ≤ n := by omega
  refine callsIn_of_wp_marks Tryz.func61 rfl h61 ?_ hro
  simp only [Tryz.ntmps61, List.size_toArray, List.length_cons, List.length_nil, Nat.reduceAdd, Nat.reduceSub, Array.replicate_succ, Array.replicate_zero, List.push_toArray, List.append_toArray, List.nil_append, List.cons_append]
  gi_wp2_with (gi_at_call 73; refine (back_in F (n - 1) h73 hro _ hs1 _).mono ?_; rintro e w' ⟨rfl, rfl⟩)
  obtain ⟨W0, hW0⟩ : ∃ W0, ((((((w.alloc (.cells #[sv, sum] 32)).alloc (.cells #[.int .i64 kind] 3)).alloc (.cells #[.int .i64 time] 3)).alloc (.cells #[.int .i64 0] 3)).alloc (.cells #[.bool false] 4)).alloc (.cells #[sv] 29)) = W0 := ⟨_, rfl⟩
  have hsz : W0.heap.size = w.heap.size + 6 := by rw [← hW0]; simp
  have hB0 : Below w.heap.size w W0 := by
    rw [← hW0]
    exact (((((((Below.refl _ w).alloc (Nat.le_refl _) _).alloc (by simp) _).alloc (by simp; omega) _).alloc (by simp; omega) _).alloc (by simp; omega) _).alloc (by simp; omega) _)
  have bK : Boxed W0 (w.heap.size + 1) 3 (.int .i64 kind) := by
    rw [← hW0]
    have := (((((Boxed.new (w.alloc (.cells #[sv, sum] 32)) 3 (.int .i64 kind)).alloc (.cells #[.int .i64 time] 3)).alloc (.cells #[.int .i64 0] 3)).alloc (.cells #[.bool false] 4)).alloc (.cells #[sv] 29))
    simpa using this
  have bT : Boxed W0 (w.heap.size + 2) 3 (.int .i64 time) := by
    rw [← hW0]
    have := ((((Boxed.new ((w.alloc (.cells #[sv, sum] 32)).alloc (.cells #[.int .i64 kind] 3)) 3 (.int .i64 time)).alloc (.cells #[.int .i64 0] 3)).alloc (.cells #[.bool false] 4)).alloc (.cells #[sv] 29))
    simpa using this
  have bR : Boxed W0 (w.heap.size + 3) 3 (.int .i64 0) := by
    rw [← hW0]
    have := (((Boxed.new (((w.alloc (.cells #[sv, sum] 32)).alloc (.cells #[.int .i64 kind] 3)).alloc (.cells #[.int .i64 time] 3)) 3 (.int .i64 0)).alloc (.cells #[.bool false] 4)).alloc (.cells #[sv] 29))
    simpa using this
  have bO : Boxed W0 (w.heap.size + 4) 4 (.bool false) := by
    rw [← hW0]
    have := ((Boxed.new ((((w.alloc (.cells #[sv, sum] 32)).alloc (.cells #[.int .i64 kind] 3)).alloc (.cells #[.int .i64 time] 3)).alloc (.cells #[.int .i64 0] 3)) 4 (.bool false)).alloc (.cells #[sv] 29))
    simpa using this
  have bN : Boxed W0 (w.heap.size + 5) 29 sv := by
    rw [← hW0]
    have := (Boxed.new (((((w.alloc (.cells #[sv, sum] 32)).alloc (.cells #[.int .i64 kind] 3)).alloc (.cells #[.int .i64 time] 3)).alloc (.cells #[.int .i64 0] 3)).alloc (.cells #[.bool false] 4)) 29 sv)
    simpa using this
  rw [hW0]
  clear hW0
  simp only [Nat.add_assoc, Nat.reduceAdd]
  refine wpIn_rangeFunc_ownH hro h1 (gf := 90) (lb := #[.pointer (some ⟨w.heap.size + 5, 0, none⟩)]) rfl h90 (enters_of Tryz.func90 (by kernel_rfl) rfl)
    (back_stops F (n - 1) h90 hro (by omega) (w.heap.size + 5) (w.heap.size + 6) sv len _ hreach W0 (by omega) (by omega) bN.cell (by
      rcases hI.below hB0 with h | ⟨b, off, cap, e, hb, hc⟩
      · exact .inl h
      · exact .inr ⟨b, off, cap, e, by omega, hc⟩)) belowK_t (belowK_b (by omega)) (Below.refl _ _) (fun _ => rfl)
    (fun pre W => ((((∀ x ∈ pre, ¬ Hit K T kind time x) ∧ Boxed W (w.heap.size + 1) 3 (.int .i64 kind)) ∧ Boxed W (w.heap.size + 2) 3 (.int .i64 time)) ∧ ((Boxed W (w.heap.size + 3) 3 (.int .i64 0) ∧ Boxed W (w.heap.size + 4) 4 (.bool false)) ∧ Boxed W (w.heap.size + 5) 29 sv)) ∧ Below w.heap.size w W)
    (fun c pre W => ((c = .ret ∧ ∃ ini x, pre = ini ++ [x] ∧ (∀ y ∈ ini, ¬ Hit K T kind time y) ∧ Hit K T kind time x ∧ Boxed W (w.heap.size + 3) 3 (.int .i64 (V x))) ∧ Boxed W (w.heap.size + 4) 4 (.bool true)) ∧ Below w.heap.size w W)
    (OwnFrom.and (OwnFrom.and (OwnFrom.and (OwnFrom.and (ownFrom_pure _ _) (Own.from (boxed_own _ _ _) _)) (Own.from (boxed_own _ _ _) _)) (OwnFrom.and (OwnFrom.and (Own.from (boxed_own _ _ _) _) (Own.from (boxed_own _ _ _) _)) (Own.from (boxed_own _ _ _) _))) (ownFrom_below (Nat.le_refl _) (by omega)))
    (fun c => OwnFrom.and (OwnFrom.and (fun s A B row hs hg hr => by
      obtain ⟨e0, ini, x, e1, e2, e3, e4⟩ := hs
      exact ⟨e0, ini, x, e1, e2, e3, boxed_own (w.heap.size + 3) 3 (fun (_ : Unit) => Value.int .i64 (V x)) () A B row e4 hg (fun r e => (hr r e).2)⟩) (Own.from (boxed_own _ _ _) _)) (ownFrom_below (Nat.le_refl _) (by omega)))
    ⟨⟨⟨⟨by simp, bK⟩, bT⟩, ⟨bR, bO⟩, bN⟩, hB0⟩
    (fun x a' W => ∃ Bx, w.heap.size + 5 < Bx ∧ Box3 W Bx (.int .i64 (T x)) (.int .i64 (K x)) (.slice (SA x) (SL x) (SC x)) ∧ a' = { tmps := #[Value.agg #[sv, sum], Value.int IntKind.i64 kind, Value.int IntKind.i64 time,
          Value.pointer (some ⟨w.heap.size, 0, none⟩), Value.pointer (some ⟨w.heap.size + 1, 0, none⟩), Value.pointer (some ⟨w.heap.size + 2, 0, none⟩), Value.pointer (some ⟨w.heap.size + 3, 0, none⟩), Value.pointer (some ⟨w.heap.size + 4, 0, none⟩), undef, Value.pointer (some ⟨Bx, 0, none⟩),
          Value.pointer (some ⟨w.heap.size, 0, none⟩), sv, Value.func (Fn.func 90) #[] #[Value.pointer (some ⟨w.heap.size + 5, 0, none⟩)],
          .int .i64 (x : Nat), .agg #[.int .i64 (T x), .int .i64 (K x), .slice (SA x) (SL x) (SC x)], undef, undef, undef, undef, undef, undef, undef, undef, undef, undef, undef, undef, undef, undef], defers := [] })
    (fun x a' _ X Y row hs hg hr => by obtain ⟨Bx, e1, e2, e3⟩ := hs; exact ⟨Bx, e1, box3_own Bx _ _ _ () X Y row e2 hg (fun r e => (hr r e).2), e3⟩)
    ?assign ?body ?done ?stop
  case assign =>
    rintro l pre x W Kq ⟨⟨⟨⟨hp, bK1⟩, bT1⟩, ⟨bR1, bO1⟩, bN1⟩, hB1⟩ hK
    gi_wp2
    exact hK _ _ ((KeepsOthers.alloc _ _).from _) ((Below.refl _ W).alloc (by have := bN1.lt; omega) _) ⟨⟨⟨⟨hp, bK1.alloc _⟩, bT1.alloc _⟩, ⟨bR1.alloc _, bO1.alloc _⟩, bN1.alloc _⟩, hB1.alloc hB1.size _⟩ ⟨W.heap.size, by have := bN1.lt; omega, World.alloc_heap_new W _, rfl⟩
  case body =>
    rintro l pre x a' W hl ⟨r, hr⟩ ⟨⟨⟨⟨hp, bK1⟩, bT1⟩, ⟨bR1, bO1⟩, bN1⟩, hB1⟩ ⟨Bx, hBx, bX, rfl⟩ hlt
    have cK := bK1.cell
    have cT := bT1.cell
    have cR := bR1.cell
    have fR := bR1.frozen
    have cO := bO1.cell
    have fO := bO1.frozen
    have x0 := bX.c0
    have x1 := bX.c1
    have x2 := bX.c2
    by_cases hk : K x = kind
    · by_cases ht : T x ≤ time
      · obtain ⟨bw, ow, e1, e2, e3, e4⟩ := hW x hk ht
        have cW := (hB1.cell (p := ⟨bw, ow, none⟩) e3).trans e4
        rw [e1] at x2
        gi_wp2
        exact ⟨((KeepsOthers.setCell _ _ _).trans (KeepsOthers.setCell _ _ _)).from _, ⟨⟨rfl, pre, x, rfl, hp, ⟨hk, ht⟩, (bR1.set _).other (by omega) _⟩, (bO1.other (by omega) _).set _⟩,
          (hB1.setCell (p := ⟨w.heap.size + 3, 0, none⟩) (by simp) _).setCell (p := ⟨w.heap.size + 4, 0, none⟩) (by simp) _⟩
      · have hno : ¬ Hit K T kind time x := fun h => ht h.2
        gi_wp2
        exact ⟨KeepsFrom.refl _ _, Below.refl _ _, ⟨⟨⟨fun y hy => (List.mem_append.1 hy).elim (hp y) (fun e => by simp at e; subst e; exact hno), bK1⟩, bT1⟩, ⟨bR1, bO1⟩, bN1⟩, hB1⟩
    · have hno : ¬ Hit K T kind time x := fun h => hk h.1
      gi_wp2
      exact ⟨KeepsFrom.refl _ _, Below.refl _ _, ⟨⟨⟨fun y hy => (List.mem_append.1 hy).elim (hp y) (fun e => by simp at e; subst e; exact hno), bK1⟩, bT1⟩, ⟨bR1, bO1⟩, bN1⟩, hB1⟩
  case done =>
    rintro D ys W hD rfl ⟨⟨⟨⟨hp, bK1⟩, bT1⟩, ⟨bR1, bO1⟩, bN1⟩, hB1⟩ hK
    have cR := bR1.cell
    have fR := bR1.frozen
    have cO := bO1.cell
    have fO := bO1.frozen
    gi_wp2
    have hK' := ((KeepsOthers.setCell W ⟨w.heap.size + 3, 0, none⟩ (.int .i64 0)).trans (KeepsOthers.setCell _ ⟨w.heap.size + 4, 0, none⟩ (.bool false))).same D _ hK rfl
    refine ⟨by simp, .inl ⟨_, _, rfl, run_takeDeferred hK', ?_⟩⟩
    have d1 := ((bR1.set (.int .i64 0)).other (B' := w.heap.size + 4) (by omega) (.bool false)).kept (grownBy_putObj' _ D (.deferred none)) (by simp; omega)
    have d2 := ((bO1.other (B' := w.heap.size + 3) (by omega) (.int .i64 0)).set (.bool false)).kept (grownBy_putObj' _ D (.deferred none)) (by simp; omega)
    refine ⟨.tuple #[.int .i64 0, .bool false], ?_, .inl ⟨rfl, fun x hx => hp x (by simp only [down, List.mem_map, List.mem_range]; exact ⟨len - 1 - x, by omega, by omega⟩)⟩, ((hB1.setCell (p := ⟨w.heap.size + 3, 0, none⟩) (by simp) _).setCell (p := ⟨w.heap.size + 4, 0, none⟩) (by simp) _).trans (belowK_b (w := w) (Nat.le_refl _) _ D _ _ (by omega) hK' rfl rfl)⟩
    simp [results, Tryz.f61, go_sem, d1.cell, d2.cell]
  case stop =>
    rintro D c pre W hD ⟨k, hk, rfl⟩ ⟨⟨⟨rfl, ini, x, e1, e2, e3, bR1⟩, bO1⟩, hB1⟩ hK
    obtain ⟨k', rfl⟩ : ∃ k', k = k' + 1 := by
      cases k with
      | zero => simp [down] at e1
      | succ k' => exact ⟨k', rfl⟩
    rw [down_succ] at e1
    obtain ⟨rfl, e5⟩ := List.append_inj' e1 rfl
    simp only [List.cons.injEq, and_true] at e5
    subst e5
    gi_wp2
    refine ⟨by simp, .inl ⟨_, _, rfl, run_takeDeferred hK, ?_⟩⟩
    have d1 := bR1.kept (grownBy_putObj' _ D (.deferred none)) (by simp; omega)
    have d2 := bO1.kept (grownBy_putObj' _ D (.deferred none)) (by simp; omega)
    refine ⟨.tuple #[.int .i64 (V (len - 1 - k')), .bool true], ?_, .inr ⟨len - 1 - k', by omega, rfl, e3, fun y h1 h2 => e2 y (by simp only [down, List.mem_map, List.mem_range]; exact ⟨len - 1 - y, by omega, by omega⟩)⟩, hB1.trans (belowK_b (w := w) (Nat.le_refl _) _ D _ _ (by omega) hK rfl rfl)⟩
    simp [results, Tryz.f61, go_sem, d1.cell, d2.cell]

end Go.Proofs.YtiijghkfinkphaaGreatDoor

/- logbook.at answers what its row says. -/
namespace Go.Proofs.YtiijghkfinkphaaGreatDoor.Vm
open Go.RowKit
set_option linter.unusedVariables false
set_option linter.unusedSimpArgs false

theorem atL_none {kind time : Int} : ∀ {l : List (Int × Int × Int)}, (∀ p ∈ l, ¬ (p.2.1 = kind ∧ p.1 ≤ time)) → atL kind time l = (0, false)
  | [], _ => rfl
  | x :: l, h => by
    have h1 := atL_none (l := l) fun p hp => h p (.tail _ hp)
    have h2 := h x (.head _)
    simp only [atL, h1, cond_false]
    have : (decide (x.2.1 = kind) && decide (x.1 ≤ time)) = false := by simpa using h2
    rw [this]; rfl
theorem atL_last {kind time : Int} {p : Int × Int × Int} {b : List (Int × Int × Int)} (hp : p.2.1 = kind ∧ p.1 ≤ time) (hb : ∀ q ∈ b, ¬ (q.2.1 = kind ∧ q.1 ≤ time)) : ∀ {a : List (Int × Int × Int)}, atL kind time (a ++ p :: b) = (p.2.2, true)
  | [] => by
    have : (decide (p.2.1 = kind) && decide (p.1 ≤ time)) = true := by simpa using hp
    simp only [List.nil_append, atL, atL_none hb, cond_false, this, cond_true]
  | x :: a => by simp only [List.cons_append, atL, atL_last hp hb (a := a), cond_true]

theorem entE_some {e : List PV} {x : Int × Int × Int} (h : entE e = some x) : ∃ r ws, e = [.int .i64 x.1, .int .i64 x.2.1, .sl 1 ((.int .i64 x.2.2 :: r) :: ws)] := by
  unfold entE at h
  split at h
  · cases h; exact ⟨_, _, rfl⟩
  · cases h
theorem entsE_get : ∀ {es : List (List PV)} {l : List (Int × Int × Int)}, entsE es = some l → l.length = es.length ∧ ∀ (i : Nat) (x : Int × Int × Int), l[i]? = some x → ∃ r ws, es[i]? = some [.int .i64 x.1, .int .i64 x.2.1, .sl 1 ((.int .i64 x.2.2 :: r) :: ws)]
  | [], l, h => by cases h; exact ⟨rfl, fun i x h => by simp at h⟩
  | e :: es, l, h => by
    simp only [entsE] at h
    split at h
    · rename_i x r hx hr
      cases h
      obtain ⟨h1, h2⟩ := entsE_get hr
      refine ⟨by simp [h1], fun i y hy => ?_⟩
      cases i with
      | zero => simp at hy; subst hy; obtain ⟨r, ws, rfl⟩ := entE_some hx; exact ⟨r, ws, rfl⟩
      | succ i => simpa using h2 i y (by simpa using hy)
    · cases h

def slA : Value → Option Addr | .slice a _ _ => a | _ => none
def slL : Value → Nat | .slice _ l _ => l | _ => 0
def slC : Value → Nat | .slice _ _ c => c | _ => 0

theorem at_any (sv sum : Value) (hs1 : sv.oneCell' = true) (hs2 : sum.oneCell' = true) (len : Nat) (kind time : Int) (K T V : Nat → Int) (SA : Nat → Option Addr) (SL SC : Nat → Nat) (hreach : len ≤ 140737488351232) (w : World)
    (hI : Ents w.heap.size w sv len (fun x j => match j with | 0 => .int .i64 (T x) | 1 => .int .i64 (K x) | _ => .slice (SA x) (SL x) (SC x)))
    (hW : ∀ x, K x = kind → T x ≤ time → ∃ bw ow, SA x = some ⟨bw, ow, none⟩ ∧ 0 < SL x ∧ bw < w.heap.size ∧ w.cell? ⟨bw, ow, none⟩ = some (.int .i64 (V x))) :
    Calls Tryz.prog 61 #[.agg #[sv, sum], .int .i64 kind, .int .i64 time] w fun e W' =>
      ((e = .returned (.tuple #[.int .i64 0, .bool false]) ∧ ∀ x, x < len → ¬ Hit K T kind time x) ∨
       (∃ x, x < len ∧ e = .returned (.tuple #[.int .i64 (V x), .bool true]) ∧ Hit K T kind time x ∧ ∀ y, x < y → y < len → ¬ Hit K T kind time y)) ∧ Below w.heap.size w W' :=
  callsIn_wide.1 (at_in Go.Fence.wide 6 trivial trivial trivial rfl (Nat.le_refl 6) sv sum hs1 hs2 len kind time K T V SA SL SC hreach w hI hW)

set_option maxRecDepth 100000 in
set_option maxHeartbeats 400000 in
theorem pAt_ok (args : List AV) (rs : List RV) (h : pAt args = some rs) (C : Ctx) (hok : Ok C) (us : Array Value) (hv : All2 (VA C) args us.toList) :
    Calls E.P 61 us C.w fun e w' => ∃ u, e = .returned u ∧ Grow C.w w' ∧ VA (C.setW w') (valOf (rawT 0 rs)) u := by
  unfold pAt at h
  split at h
  · rename_i es sum kind time
    split at h
    · rename_i l hl
      split at h
      · rename_i hlen
        cases h
        obtain ⟨u, v, x, rfl, hu, hv1, hx⟩ := three_args hv
        obtain ⟨cs, rfl, hcs⟩ := hu
        obtain rfl : v = .int .i64 kind := by cases hv1; rfl
        obtain rfl : x = .int .i64 time := by cases hx; rfl
        obtain ⟨hl1, hl2⟩ := entsE_get hl
        obtain ⟨c0, c1, rfl, p0, p1⟩ : ∃ c0 c1, cs = #[c0, c1] ∧ C.P (.sl 3 es) c0 ∧ C.P (.int .u64 sum) c1 := by
          cases hc : cs.toList with
          | nil => rw [hc] at hcs; exact hcs.elim
          | cons c0 r => cases r with
            | nil => rw [hc] at hcs; exact hcs.2.elim
            | cons c1 r => cases r with
              | nil => rw [hc] at hcs; exact ⟨c0, c1, by rw [← Array.toArray_toList (xs := cs), hc], hcs.1, hcs.2.1⟩
              | cons => rw [hc] at hcs; exact hcs.2.2.elim
        have key : ∃ f : Nat → Nat → Value, Ents C.w.heap.size C.w c0 es.length f ∧ ∀ i j e c, es[i]? = some e → e[j]? = some c → C.P c (f i j) := by
          cases p0 with
          | sl0 _ a cap => exact ⟨fun _ _ => Go.undef, .inl ⟨_, _, rfl, rfl⟩, fun i j e c h => by simp at h⟩
          | sl _ _ b off cap f hb hO hc hz hcell hv2 =>
            refine ⟨f, .inr ⟨b, off, cap, rfl, hb, fun j k hj hk => ?_⟩, hv2⟩
            have hz' := hz _ (List.getElem_mem hj)
            exact hcell j k es[j] _ (List.getElem?_eq_getElem hj) (List.getElem?_eq_getElem (by omega))
        obtain ⟨f, hE, hf⟩ := key
        have hel : ∀ (i : Nat) (x : Int × Int × Int), l[i]? = some x → f i 0 = .int .i64 x.1 ∧ f i 1 = .int .i64 x.2.1 ∧ ∃ b off cap n, f i 2 = .slice (some ⟨b, off, none⟩) n cap ∧ 0 < n ∧ b < C.w.heap.size ∧ C.w.cell? ⟨b, off, none⟩ = some (.int .i64 x.2.2) := by
          intro i x hx
          obtain ⟨r, ws, he⟩ := hl2 i x hx
          have h0 := hf i 0 _ _ he rfl
          have h1 := hf i 1 _ _ he rfl
          have h2 := hf i 2 _ _ he rfl
          refine ⟨by generalize f i 0 = u at h0; cases h0; rfl, by generalize f i 1 = u at h1; cases h1; rfl, ?_⟩
          generalize f i 2 = u at h2
          cases h2 with
          | sl _ _ b off cap g hb hO hc hz hcell hv2 =>
            have a1 := hcell 0 0 _ _ rfl rfl
            have a2 := hv2 0 0 _ _ rfl rfl
            refine ⟨b, off, cap, _, rfl, by simp, hb, ?_⟩
            have : off + 0 * 1 + 0 = off := by omega
            rw [this] at a1
            rw [a1]
            congr 1
            generalize g 0 0 = y at a2
            cases a2; rfl
        obtain ⟨T, hT⟩ : ∃ T : Nat → Int, T = fun x => match l[x]? with | some p => p.1 | none => 0 := ⟨_, rfl⟩
        obtain ⟨K, hK⟩ : ∃ K : Nat → Int, K = fun x => match l[x]? with | some p => p.2.1 | none => kind + 1 := ⟨_, rfl⟩
        obtain ⟨V, hV⟩ : ∃ V : Nat → Int, V = fun x => match l[x]? with | some p => p.2.2 | none => 0 := ⟨_, rfl⟩
        have hin : ∀ {x}, K x = kind → ∃ p, l[x]? = some p := by
          intro x h
          cases hp : l[x]? with
          | some p => exact ⟨p, rfl⟩
          | none => simp only [hK] at h; rw [hp] at h; simp at h; omega
        have hr : es.length ≤ 140737488351232 := by omega
        show Calls Tryz.prog 61 _ _ _
        refine (at_any c0 c1 p0.oneCell p1.oneCell es.length kind time K T V (fun x => slA (f x 2)) (fun x => slL (f x 2)) (fun x => slC (f x 2)) hr C.w ?_ ?_).mono ?_
        rotate_left 2
        · intro e w' ⟨h, hB⟩
          rcases h with ⟨rfl, hno⟩ | ⟨x, hx, rfl, hhit, hno⟩
          · refine ⟨_, rfl, Grow.of_below hB, ?_⟩
            rw [atL_none (kind := kind) (time := time) fun p hp => by
              obtain ⟨i, hi, rfl⟩ := List.mem_iff_getElem.1 hp
              have := hno i (by omega)
              simpa only [Hit, hK, hT, List.getElem?_eq_getElem hi] using this]
            exact ⟨_, rfl, .int _ _, .bool _, trivial⟩
          · refine ⟨_, rfl, Grow.of_below hB, ?_⟩
            obtain ⟨p, hp⟩ := hin hhit.1
            have hlt : x < l.length := by omega
            have hp' : l[x] = p := by rw [List.getElem?_eq_getElem hlt] at hp; exact Option.some.inj hp
            have e1 : l = l.take x ++ p :: l.drop (x + 1) := by rw [← hp', ← List.drop_eq_getElem_cons hlt, List.take_append_drop]
            have e2 : atL kind time l = (p.2.2, true) := by
              rw [e1]
              refine atL_last ?_ fun q hq => ?_
              · have := hhit; simpa only [Hit, hK, hT, hp] using this
              · obtain ⟨i, hi, rfl⟩ := List.mem_iff_getElem.1 hq
                have hi' : x + 1 + i < l.length := by simp at hi; omega
                have := hno (x + 1 + i) (by omega) (by omega)
                simpa only [Hit, hK, hT, List.getElem?_eq_getElem hi', List.getElem_drop] using this
            rw [e2]
            have e3 : V x = p.2.2 := by simp only [hV, hp]
            rw [e3]
            exact ⟨_, rfl, .int _ _, .bool _, trivial⟩
        · rcases hE with h | ⟨b, off, cap, e, hb, hcc⟩
          · exact .inl h
          · refine .inr ⟨b, off, cap, e, hb, fun j k hj hk => ?_⟩
            rw [hcc j k hj hk]
            have hj' : j < l.length := by omega
            obtain ⟨a0, a1, b', o', c', n', a2, _⟩ := hel j _ (List.getElem?_eq_getElem hj')
            congr 1
            match k, hk with
            | 0, _ => rw [a0]; simp only [hT, List.getElem?_eq_getElem hj']
            | 1, _ => rw [a1]; simp only [hK, List.getElem?_eq_getElem hj']
            | 2, _ => dsimp only; rw [a2]; rfl
        · intro x hk ht
          obtain ⟨p, hp⟩ := hin hk
          obtain ⟨_, _, b', o', c', n', a2, a3, a4, a5⟩ := hel x p hp
          refine ⟨b', o', by rw [a2]; rfl, by rw [a2]; exact a3, a4, ?_⟩
          rw [a5]
          simp only [hV, hp]
      · cases h
    · cases h
  · cases h

theorem s_pAt : ∀ args rs, pAt args = some rs → FOk E 61 args [] rs [] := fun args rs h => by
  refine prim_ok ?_ fun C hok us hv => pAt_ok args rs h C hok us hv
  unfold pAt at h
  split at h
  · split at h
    · split at h
      · cases h; rfl
      · cases h
    · cases h
  · cases h

end Go.Proofs.YtiijghkfinkphaaGreatDoor.Vm

/- slices.DeleteFunc over spans: what it leaves. -/
namespace Go.Proofs.YtiijghkfinkphaaGreatDoor
open Go Go.Proofs Go.RowKit Go.Shelf

set_option maxRecDepth 100000 in
set_option maxHeartbeats 1000000 in
theorem green_in (x y z : Int) (w : World) :
    CallsIn Fence.wide 6 Tryz.prog 41 #[.agg #[.int .i64 x, .int .i64 y, .int .i64 z]] w fun e w' => e = .returned (.bool (decide (3 ≤ z))) ∧ Below w.heap.size w w' := by
  refine callsIn_of_wp Tryz.func41 rfl trivial ?_ rfl
  simp only [Tryz.ntmps41, List.size_toArray, List.length_cons, List.length_nil, Nat.reduceAdd, Nat.reduceSub, Array.replicate_succ, Array.replicate_zero, List.push_toArray, List.append_toArray, List.nil_append, List.cons_append]
  gi_wp2
  go_ret
  exact ⟨by simp, (Below.refl _ w).alloc (Nat.le_refl _) _⟩

theorem green (x y z : Int) (w : World) : Calls Tryz.prog 41 #[.agg #[.int .i64 x, .int .i64 y, .int .i64 z]] w fun e w' => e = .returned (.bool (decide (3 ≤ z))) ∧ Below w.heap.size w w' := callsIn_wide.1 (green_in x y z w)

def Trio (w : World) (b p : Nat) (x y z : Int) : Prop := w.cell? ⟨b, p * 3, none⟩ = some (.int .i64 x) ∧ w.cell? ⟨b, p * 3 + 1, none⟩ = some (.int .i64 y) ∧ w.cell? ⟨b, p * 3 + 2, none⟩ = some (.int .i64 z)
theorem Trio.below {w w' : World} {b p : Nat} {x y z : Int} (h : Trio w b p x y z) (hb : b < w.heap.size) (hw : Below w.heap.size w w') : Trio w' b p x y z :=
  ⟨(hw.cell (p := ⟨b, p * 3, none⟩) hb).trans h.1, (hw.cell (p := ⟨b, p * 3 + 1, none⟩) hb).trans h.2.1, (hw.cell (p := ⟨b, p * 3 + 2, none⟩) hb).trans h.2.2⟩

set_option maxRecDepth 100000 in
set_option maxHeartbeats 2000000 in
theorem index_in (b len cap : Nat) (A B V : Nat → Int) (w : World) (hb : b < w.heap.size) (hlen : len ≤ 1000000) (hc : ∀ j, j < len → Trio w b j (A j) (B j) (V j)) :
    CallsIn Fence.wide 8 Tryz.prog 62 #[.slice (some ⟨b, 0, none⟩) len cap, .func (.func 41) #[] #[]] w fun e w' =>
      ((e = .returned (.int .i64 (-1)) ∧ ∀ j, j < len → V j < 3) ∨ ∃ i : Nat, i < len ∧ e = .returned (.int .i64 (i : Nat)) ∧ 3 ≤ V i ∧ ∀ j, j < i → V j < 3) ∧ Below w.heap.size w w' := by
  refine callsIn_of_wp Tryz.func62 rfl trivial ?_ rfl
  simp only [Tryz.ntmps62, List.size_toArray, List.length_cons, List.length_nil, Nat.reduceAdd, Nat.reduceSub, Array.replicate_succ, Array.replicate_zero, List.push_toArray, List.append_toArray, List.nil_append, List.cons_append]
  gi_wp2
  gi_loopw [8] (fun i wr => ∃ k : Nat, k ≤ len ∧ i = .int .i64 (k : Nat) ∧ (∀ j, j < k → V j < 3) ∧ Below w.heap.size w wr)
    (fun i _ => len - (intOf i).toNat)
  case atStart => exact ⟨0, Nat.zero_le _, rfl, fun j h => absurd h (by omega), Below.refl _ _⟩
  case round =>
    obtain ⟨k, hk, rfl, hno, hB⟩ := hrel
    by_cases hlt : k < len
    · obtain ⟨c0, c1, c2⟩ := (hc k hlt).below hb hB
      by_cases hv : 3 ≤ V k
      · have hd : decide (3 ≤ V k) = true := by simpa using hv
        gi_wp2
        refine ⟨trivial, ?_⟩
        refine (callsIn_wide.2 (green (A k) (B k) (V k) wr)).mono ?_
        rintro e W3 ⟨rfl, hB3⟩
        rw [hd]
        gi_wp2
        go_ret
        exact ⟨.inr ⟨k, hlt, rfl, hv, hno⟩, hB.trans (hB3.mono hB.size)⟩
      · have hd : decide (3 ≤ V k) = false := by simpa using hv
        gi_wp2
        refine ⟨trivial, ?_⟩
        refine (callsIn_wide.2 (green (A k) (B k) (V k) wr)).mono ?_
        rintro e W3 ⟨rfl, hB3⟩
        rw [hd]
        gi_wp2
        go_roundw
        case rel => exact ⟨k + 1, by omega, by simp, fun j hj => (Nat.lt_succ_iff_lt_or_eq.1 hj).elim (hno j) (fun h => by rw [h]; omega), hB.trans (hB3.mono hB.size)⟩
        case measure => simp [intOf] <;> omega
    · obtain rfl : k = len := by omega
      gi_wp2
      go_ret
      exact ⟨.inl ⟨rfl, hno⟩, hB⟩

def kept (V : Nat → Int) (j : Nat) : List Nat := (List.range j).filter fun x => decide (V x < 3)
theorem kept_succ (V : Nat → Int) (j : Nat) : kept V (j + 1) = if V j < 3 then kept V j ++ [j] else kept V j := by
  unfold kept
  rw [List.range_succ, List.filter_append]
  by_cases h : V j < 3 <;> simp [h]
theorem kept_le (V : Nat → Int) (j : Nat) : (kept V j).length ≤ j := by
  have := List.length_filter_le (fun x => decide (V x < 3)) (List.range j)
  simpa [kept] using this
theorem kept_all {V : Nat → Int} {j : Nat} (h : ∀ x, x < j → V x < 3) : kept V j = List.range j := by
  unfold kept
  rw [List.filter_eq_self]
  intro x hx
  simpa using h x (List.mem_range.1 hx)

def Rw (w : World) (b n : Nat) : Prop := ∀ o, o < n → ∃ v, w.cell? ⟨b, o, none⟩ = some v ∧ w.frozen? ⟨b, o, none⟩ = false
theorem Rw.of_block {w w' : World} {b n : Nat} (h : Rw w b n) (e : w'.heap[b]? = w.heap[b]?) : Rw w' b n := fun o ho => by
  obtain ⟨v, h1, h2⟩ := h o ho
  exact ⟨v, (World.cell?_of_block (a := ⟨b, o, none⟩) e).trans h1, (World.frozen?_of_block (a := ⟨b, o, none⟩) e).trans h2⟩
theorem Trio.of_block {w w' : World} {b p : Nat} {x y z : Int} (h : Trio w b p x y z) (e : w'.heap[b]? = w.heap[b]?) : Trio w' b p x y z :=
  ⟨(World.cell?_of_block (a := ⟨b, _, none⟩) e).trans h.1, (World.cell?_of_block (a := ⟨b, _, none⟩) e).trans h.2.1, (World.cell?_of_block (a := ⟨b, _, none⟩) e).trans h.2.2⟩
theorem Trio.set_out {w : World} {b p o : Nat} {x y z : Int} {vs : List Value} (h : Trio w b p x y z) (ho : p * 3 + 2 < o ∨ o + vs.length ≤ p * 3) : Trio (w.setCells b o vs) b p x y z :=
  ⟨(World.cell?_setCells_out b vs o w ⟨b, p * 3, none⟩ (fun _ _ => by show p * 3 < o ∨ o + vs.length ≤ p * 3; omega)).trans h.1,
   (World.cell?_setCells_out b vs o w ⟨b, p * 3 + 1, none⟩ (fun _ _ => by show p * 3 + 1 < o ∨ o + vs.length ≤ p * 3 + 1; omega)).trans h.2.1,
   (World.cell?_setCells_out b vs o w ⟨b, p * 3 + 2, none⟩ (fun _ _ => by show p * 3 + 2 < o ∨ o + vs.length ≤ p * 3 + 2; omega)).trans h.2.2⟩
theorem Rw.set {w : World} {b n o : Nat} {vs : List Value} (h : Rw w b n) (ho : o + vs.length ≤ n) : Rw (w.setCells b o vs) b n := fun q hq => by
  obtain ⟨v, h1, h2⟩ := h q hq
  rcases Nat.lt_or_ge q o with hl | hl
  · exact ⟨v, (World.cell?_setCells_out b vs o w ⟨b, q, none⟩ (fun _ _ => .inl hl)).trans h1, (World.frozen?_setCells b vs o w _).trans h2⟩
  rcases Nat.lt_or_ge q (o + vs.length) with hu | hu
  · have h3 := World.cell?_setCells_in b vs o w (fun j hj => by obtain ⟨v, h1, _⟩ := h (o + j) (by omega); rw [h1]; rfl) (q - o) (by omega)
    have e : o + (q - o) = q := by omega
    rw [e] at h3
    exact ⟨_, h3, (World.frozen?_setCells b vs o w _).trans h2⟩
  · exact ⟨v, (World.cell?_setCells_out b vs o w ⟨b, q, none⟩ (fun _ _ => .inr hu)).trans h1, (World.frozen?_setCells b vs o w _).trans h2⟩
theorem Trio.set_in {w : World} {b p n : Nat} {x y z : Int} (h : Rw w b n) (hp : p * 3 + 3 ≤ n) : Trio (w.setCells b (p * 3) [.int .i64 x, .int .i64 y, .int .i64 z]) b p x y z := by
  have h3 := World.cell?_setCells_in b [.int .i64 x, .int .i64 y, .int .i64 z] (p * 3) w (fun j hj => by obtain ⟨v, h1, _⟩ := h (p * 3 + j) (by simp at hj; omega); rw [h1]; rfl)
  exact ⟨h3 0 (by simp), h3 1 (by simp), h3 2 (by simp)⟩
theorem grown_set {w : World} {b : Nat} : ∀ (vs : List Value) (o : Nat) (w' : World), w.grownBy w' (some b) → w.grownBy (w'.setCells b o vs) (some b)
  | [], _, _, h => h
  | v :: vs, o, w', h => grown_set vs (o + 1) _ (h.andThen (Lib.grownBy_setCell w' b o v) (fun j hj => .inr hj))
theorem grown_below {w w' w2 : World} {b : Nat} (h : w.grownBy w' (some b)) (hB : Below w'.heap.size w' w2) : w.grownBy w2 (some b) :=
  h.andThen (row' := none) ⟨hB.os, hB.tape, hB.output, hB.size, fun k hk _ => hB.block k hk⟩ (fun j hj => by cases hj)

theorem clear3 (w : World) (b o n c : Nat) (ty : TypeId) (hn : 0 < n) (h : Rw w b (o + n * 3)) :
    ∃ vs : List Value, vs.length = n * 3 ∧ (Builtin.clear_ #[52] ty #[.slice (some ⟨b, o, none⟩) n c]).run Tryz.prog w = .ok (.tuple #[]) (w.setCells b o vs) := by
  obtain ⟨L, hL⟩ : ∃ L, (Builtin.zeroCells #[.int .i64 0, .int .i64 0, .int .i64 0] n).toList = L := ⟨_, rfl⟩
  have hlen : L.length = n * 3 := by rw [← hL]; simp [Builtin.zeroCells] <;> omega
  have h1 : ∀ v ∈ L, v.oneCell' = true := by
    intro v hv
    rw [← hL] at hv
    simp only [Builtin.zeroCells, Array.toList_map, List.mem_map] at hv
    obtain ⟨i, _, rfl⟩ := hv
    have : i % 3 = 0 ∨ i % 3 = 1 ∨ i % 3 = 2 := by omega
    rcases this with h | h | h <;> simp [h] <;> rfl
  have hst := run_storeCells_cells (P := Tryz.prog) b o L 0 w (fun j hj => by obtain ⟨v, h1, _⟩ := h (o + j) (by omega); rw [show o + 0 + j = o + j by omega, h1]; rfl) (fun j hj => by obtain ⟨v, _, h2⟩ := h (o + j) (by omega); rw [show o + 0 + j = o + j by omega]; exact h2) h1
  simp only [Nat.add_zero] at hst
  refine ⟨L, hlen, ?_⟩
  obtain ⟨m, rfl⟩ : ∃ m, n = m + 1 := ⟨n - 1, by omega⟩
  simp [Builtin.clear_, run_underlying Tryz.underlying52, Tryz.zeroValue57, Value.cells, hL, hst]

set_option maxRecDepth 100000 in
set_option maxHeartbeats 4000000 in
theorem del_in (b len cap : Nat) (A B V : Nat → Int) (w : World) (hb : b < w.heap.size) (hlen : len ≤ 1000000) (hcap : len ≤ cap) (hc : ∀ j, j < len → Trio w b j (A j) (B j) (V j)) (hf : Rw w b (len * 3)) :
    CallsIn Fence.wide 9 Tryz.prog 40 #[.slice (some ⟨b, 0, none⟩) len cap, .func (.func 41) #[] #[]] w fun e w' =>
      e = .returned (.slice (some ⟨b, 0, none⟩) (kept V len).length cap) ∧ (∀ (p x : Nat), (kept V len)[p]? = some x → Trio w' b p (A x) (B x) (V x)) ∧ w.grownBy w' (some b) := by
  refine callsIn_of_wp Tryz.func40 rfl trivial ?_ rfl
  simp only [Tryz.ntmps40, List.size_toArray, List.length_cons, List.length_nil, Nat.reduceAdd, Nat.reduceSub, Array.replicate_succ, Array.replicate_zero, List.push_toArray, List.append_toArray, List.nil_append, List.cons_append]
  gi_wp2
  refine ⟨trivial, ?_⟩
  refine (callsIn_wide.2 (callsIn_wide.1 (index_in b len cap A B V w hb hlen hc))).mono ?_
  rintro e W1 ⟨⟨rfl, hno⟩ | ⟨i0, hi0, rfl, hv0, hno⟩, hB1⟩
  · gi_wp2
    go_ret
    have hk := kept_all hno
    refine ⟨by rw [hk, List.length_range]; rfl, fun p x hp => ?_, ?_⟩
    · rw [hk] at hp
      obtain ⟨h1, h2⟩ := List.getElem?_eq_some_iff.1 hp
      simp at h1 h2
      subst h2
      exact (hc p h1).below hb hB1
    · exact ⟨hB1.os, hB1.tape, hB1.output, hB1.size, fun k hk _ => hB1.block k hk⟩
  · have hrow : W1.heap[b]? = w.heap[b]? := hB1.block b hb
    gi_wp2
    gi_loopw [5, 6] (fun i j wr => ∃ m : Nat, m ≤ len ∧ i0 < m ∧ i = .int .i64 ((kept V m).length : Nat) ∧ j = .int .i64 (m : Nat) ∧ (kept V m).length < m ∧ (∀ (p x : Nat), (kept V m)[p]? = some x → Trio wr b p (A x) (B x) (V x)) ∧
        (∀ q, m ≤ q → q < len → Trio wr b q (A q) (B q) (V q)) ∧ Rw wr b (len * 3) ∧ w.grownBy wr (some b))
      (fun _ j _ => len - (intOf j).toNat)
    case atStart =>
      have hka : kept V (i0 + 1) = List.range i0 := by rw [kept_succ, if_neg (by omega), kept_all hno]
      refine ⟨i0 + 1, by omega, by omega, by rw [hka]; simp, by simp, by rw [hka]; simp, fun p x hp => ?_, fun q _ hq => (hc q hq).of_block hrow, hf.of_block hrow, ⟨hB1.os, hB1.tape, hB1.output, hB1.size, fun k hk _ => hB1.block k hk⟩⟩
      rw [hka] at hp
      obtain ⟨h1, h2⟩ := List.getElem?_eq_some_iff.1 hp
      simp at h1 h2
      subst h2
      exact (hc p (by omega)).of_block hrow
    case round =>
      obtain ⟨m, hm, him, rfl, rfl, hlt0, hk1, hk2, hrw, hg⟩ := hrel
      have hbr : b < wr.heap.size := Nat.lt_of_lt_of_le hb hg.size
      by_cases hlt : m < len
      · obtain ⟨c0, c1, c2⟩ := hk2 m (Nat.le_refl _) hlt
        have hBa : Below wr.heap.size wr (wr.alloc (.cells #[.int .i64 (A m), .int .i64 (B m), .int .i64 (V m)] 57)) := (Below.refl _ wr).alloc (Nat.le_refl _) _
        by_cases hv : V m < 3
        · have hd : decide (3 ≤ V m) = false := by simpa using hv
          gi_wp2
          refine ⟨trivial, ?_⟩
          refine (callsIn_wide.2 (green (A m) (B m) (V m) _)).mono ?_
          rintro e W3 ⟨rfl, hB3⟩
          rw [hd]
          have hB4 : Below wr.heap.size wr W3 := hBa.trans (hB3.mono hBa.size)
          have hbx : W3.heap[wr.heap.size]? = some (.cells #[.int .i64 (A m), .int .i64 (B m), .int .i64 (V m)] 57 (0, 0)) := (hB3.block _ (by simp)).trans (World.alloc_heap_new wr _)
          have x0 : W3.cell? ⟨wr.heap.size, 0, none⟩ = some (.int .i64 (A m)) := by simp [World.cell?, hbx]
          have x1 : W3.cell? ⟨wr.heap.size, 1, none⟩ = some (.int .i64 (B m)) := by simp [World.cell?, hbx]
          have x2 : W3.cell? ⟨wr.heap.size, 2, none⟩ = some (.int .i64 (V m)) := by simp [World.cell?, hbx]
          have hrw3 := hrw.of_block (hB4.block b hbr)
          obtain ⟨u0, a0, f0⟩ := hrw3 ((kept V m).length * 3) (by omega)
          obtain ⟨u1, a1, f1⟩ := hrw3 ((kept V m).length * 3 + 1) (by omega)
          obtain ⟨u2, a2, f2⟩ := hrw3 ((kept V m).length * 3 + 2) (by omega)
          have hks : kept V (m + 1) = kept V m ++ [m] := by rw [kept_succ, if_pos hv]
          have hset : ((W3.setCell ⟨b, (kept V m).length * 3, none⟩ (.int .i64 (A m))).setCell ⟨b, (kept V m).length * 3 + 1, none⟩ (.int .i64 (B m))).setCell ⟨b, (kept V m).length * 3 + 2, none⟩ (.int .i64 (V m)) = W3.setCells b ((kept V m).length * 3) [.int .i64 (A m), .int .i64 (B m), .int .i64 (V m)] := rfl
          gi_wp2
          try rw [hset]
          refine ⟨⟨_, _, _, _, _, _, _, _, _, _, _, _, _, _, _, _, _, _, _, _, _, _, _, ?_, rfl⟩, ?_⟩
          · refine ⟨m + 1, by omega, by omega, by rw [hks]; simp, by simp, by rw [hks]; simp; omega, fun p x hp => ?_, fun q h1 h2 => ((hk2 q (by omega) h2).of_block (hB4.block b hbr)).set_out (.inr (by simp; omega)), hrw3.set (by simp; omega), grown_set _ _ _ (grown_below hg hB4)⟩
            rw [hks] at hp
            rcases Nat.lt_or_ge p (kept V m).length with h | h
            · rw [List.getElem?_append_left h] at hp
              exact ((hk1 p x hp).of_block (hB4.block b hbr)).set_out (.inl (by omega))
            · rw [List.getElem?_append_right h] at hp
              obtain ⟨h1, h2⟩ := List.getElem?_eq_some_iff.1 hp
              simp at h1 h2
              obtain rfl : p = (kept V m).length := by omega
              subst h2
              exact Trio.set_in hrw3 (by omega)
          · simp [intOf] <;> omega
        · have hd : decide (3 ≤ V m) = true := by simpa using hv
          gi_wp2
          refine ⟨trivial, ?_⟩
          refine (callsIn_wide.2 (green (A m) (B m) (V m) _)).mono ?_
          rintro e W3 ⟨rfl, hB3⟩
          rw [hd]
          have hB4 : Below wr.heap.size wr W3 := hBa.trans (hB3.mono hBa.size)
          have hks : kept V (m + 1) = kept V m := by rw [kept_succ, if_neg (by omega)]
          gi_wp2
          refine ⟨⟨_, _, _, _, _, _, _, _, _, _, _, _, _, _, _, _, _, _, _, _, _, _, _, ?_, rfl⟩, ?_⟩
          · exact ⟨m + 1, by omega, by omega, by rw [hks], by simp, by rw [hks]; omega, fun p x hp => (hk1 p x (by rw [← hks]; exact hp)).of_block (hB4.block b hbr), fun q h1 h2 => (hk2 q (by omega) h2).of_block (hB4.block b hbr), hrw.of_block (hB4.block b hbr), grown_below hg hB4⟩
          · simp [intOf] <;> omega
      · obtain rfl : m = len := by omega
        have hne : ¬ cap = (kept V m).length := by omega
        obtain ⟨vs, hvs, hclr⟩ := clear3 wr b ((kept V m).length * 3) (m - (kept V m).length) (cap - (kept V m).length) 0 (by omega) (fun o ho => hrw o (by omega))
        gi_wp2
        go_ret
        refine ⟨rfl, fun p x hp => (hk1 p x hp).set_out (.inl ?_), grown_set vs _ wr hg⟩
        have := (List.getElem?_eq_some_iff.1 hp).1
        omega

end Go.Proofs.YtiijghkfinkphaaGreatDoor

/- logbook.Degraded answers what its row says. -/
namespace Go.Proofs.YtiijghkfinkphaaGreatDoor.Vm
open Go Go.Proofs Go.RowKit Go.Shelf
set_option linter.unusedVariables false
set_option linter.unusedSimpArgs false

set_option maxRecDepth 100000 in
set_option maxHeartbeats 1000000 in
theorem index_nil (a : Option Addr) (cap : Nat) (w : World) :
    CallsIn Fence.wide 8 Tryz.prog 62 #[.slice a 0 cap, .func (.func 41) #[] #[]] w fun e w' => e = .returned (.int .i64 (-1)) ∧ w' = w := by
  refine callsIn_of_wp Tryz.func62 rfl trivial ?_ rfl
  simp only [Tryz.ntmps62, List.size_toArray, List.length_cons, List.length_nil, Nat.reduceAdd, Nat.reduceSub, Array.replicate_succ, Array.replicate_zero, List.push_toArray, List.append_toArray, List.nil_append, List.cons_append]
  gi_wp2
  gi_loopw [8] (fun i wr => i = .int .i64 0 ∧ wr = w) (fun i _ => 0)
  case atStart => exact ⟨rfl, rfl⟩
  case round =>
    obtain ⟨rfl, rfl⟩ := hrel
    gi_wp2
    go_ret
    exact ⟨rfl, rfl⟩
set_option maxRecDepth 100000 in
set_option maxHeartbeats 1000000 in
theorem del_nil (a : Option Addr) (cap : Nat) (w : World) :
    CallsIn Fence.wide 8 Tryz.prog 40 #[.slice a 0 cap, .func (.func 41) #[] #[]] w fun e w' => e = .returned (.slice a 0 cap) ∧ w' = w := by
  refine callsIn_of_wp Tryz.func40 rfl trivial ?_ rfl
  simp only [Tryz.ntmps40, List.size_toArray, List.length_cons, List.length_nil, Nat.reduceAdd, Nat.reduceSub, Array.replicate_succ, Array.replicate_zero, List.push_toArray, List.append_toArray, List.nil_append, List.cons_append]
  gi_wp2
  refine ⟨trivial, ?_⟩
  refine (callsIn_wide.2 (callsIn_wide.1 (index_nil a cap w))).mono ?_
  rintro e W1 ⟨rfl, rfl⟩
  gi_wp2
  go_ret
  exact ⟨rfl, rfl⟩

set_option maxRecDepth 100000 in
set_option maxHeartbeats 2000000 in
theorem degr_walk (sv sum : Value) (hs1 : sv.oneCell' = true) (hs2 : sum.oneCell' = true) (a b err : Int) (w : World) (R R2 : Value → World → Prop)
    (hspans : Calls Tryz.prog 39 #[.agg #[sv, sum], .int .i64 1, .int .i64 a, .int .i64 b] (w.alloc (.cells #[sv, sum] 32)) fun e w' => ∃ u, e = .returned (.tuple #[u, .int .i64 err]) ∧ R u w')
    (hdel : err = 0 → ∀ u W, R u W → Calls Tryz.prog 40 #[u, .func (.func 41) #[] #[]] W fun e w' => ∃ r, e = .returned r ∧ R2 r w') :
    CallsIn Fence.wide 6 Tryz.prog 18 #[.agg #[sv, sum], .int .i64 a, .int .i64 b] w fun e w' =>
      (err = 0 ∧ ∃ v, e = .returned (.tuple #[v, .int .i64 0]) ∧ R2 v w') ∨ (err ≠ 0 ∧ e = .returned (.tuple #[.slice none 0 0, .int .i64 err]) ∧ ∃ u, R u w') := by
  refine callsIn_of_wp Tryz.func18 rfl trivial ?_ rfl
  simp only [Tryz.ntmps18, List.size_toArray, List.length_cons, List.length_nil, Nat.reduceAdd, Nat.reduceSub, Array.replicate_succ, Array.replicate_zero, List.push_toArray, List.append_toArray, List.nil_append, List.cons_append]
  gi_wp2_with (refine ⟨trivial, ?_⟩; gi_at_call 39; refine (callsIn_wide.2 hspans).mono ?_)
  rintro e W1 ⟨u, rfl, hR1⟩
  by_cases h0 : err = 0
  · subst h0
    have hd := hdel rfl u W1 hR1
    gi_wp2_with (refine ⟨trivial, ?_⟩; gi_at_call 40; refine (callsIn_wide.2 hd).mono ?_)
    rintro e W2 ⟨r, rfl, hR2⟩
    gi_wp2
    go_ret2
    first
      | exact .inl ⟨rfl, _, rfl, hR2⟩
      | exact ⟨_, rfl, hR2⟩
  · gi_wp2
    go_ret2
    first
      | exact .inr ⟨h0, rfl, u, hR1⟩
      | exact ⟨rfl, u, hR1⟩

theorem okf_39 : hasN 39 E.okf = true := by kernel_rfl
theorem ownR_some {r : Option Res} {l : List (List PV)} {e : Int} (h : ownR r = some (l, e)) : r = some ([.own 3 l, .p (.int .i64 e)], []) := by
  unfold ownR at h
  split at h
  · cases h; rfl
  · cases h
theorem spansE_eq : ∀ {l : List (List PV)} {r : List (Int × Int × Int)}, spansE l = some r → l = spanK r
  | [], r, h => by cases h; rfl
  | e :: l, r, h => by
    simp only [spansE] at h
    split at h
    · rename_i x y hx hy
      cases h
      rw [spansE_eq hy]
      unfold spanE at hx
      split at hx
      · cases hx; rfl
      · cases hx
    · cases h
theorem kept_map (r : List (Int × Int × Int)) (A B V : Nat → Int) (h : ∀ i x, r[i]? = some x → A i = x.1 ∧ B i = x.2.1 ∧ V i = x.2.2) :
    r.filter (fun x => decide (x.2.2 < 3)) = (kept V r.length).map fun i => (A i, B i, V i) := by
  have e : r = (List.range r.length).map fun i => (A i, B i, V i) := by
    apply List.ext_getElem
    · simp
    · intro i h1 h2
      obtain ⟨a, b, c⟩ := h i _ (List.getElem?_eq_getElem h1)
      simp only [List.getElem_map, List.getElem_range, a, b, c]
  have e2 : r.filter (fun x => decide (x.2.2 < 3)) = ((List.range r.length).map fun i => (A i, B i, V i)).filter (fun x => decide (x.2.2 < 3)) := by rw [← e]
  rw [e2, List.filter_map]
  rfl

theorem frozen_no {w : World} {b o : Nat} {carr : Array Value} {e : TypeId} {fr : Nat × Nat} (h : w.heap[b]? = some (.cells carr e fr)) (hn : noFr carr fr) (ho : o < carr.size) : w.frozen? ⟨b, o, none⟩ = false := by
  have h2 := hn.off o ho
  obtain ⟨lo, hi⟩ := fr
  simp only [World.frozen?, h]
  simp only [Bool.and_eq_false_iff, decide_eq_false_iff_not]
  simp only at h2
  omega

theorem spanK_get {r : List (Int × Int × Int)} {i : Nat} {x : Int × Int × Int} (h : r[i]? = some x) : (spanK r)[i]? = some [.int .i64 x.1, .int .i64 x.2.1, .int .i64 x.2.2] := by
  unfold spanK
  rw [List.getElem?_map, h]
  rfl

set_option maxHeartbeats 1000000 in
theorem s_hDegr : ∀ F, FSound E F → ∀ args rs, (hDegr 39).run F args = some rs → FOk E 18 args [] rs [] := by
  intro F hF args rs h
  replace h : degrRun 39 F args = some rs := h
  unfold degrRun at h
  split at h
  · rename_i es n a b
    split at h
    · rename_i l err hown
      intro C hok hC us hv
      obtain ⟨u, va, vb, rfl, hu, hva, hvb⟩ := three_args hv
      obtain rfl : va = .int .i64 a := by cases hva; rfl
      obtain rfl : vb = .int .i64 b := by cases hvb; rfl
      have hu0 := hu
      obtain ⟨cs, rfl, hcs⟩ := hu
      obtain ⟨c0, c1, rfl, p0, p1⟩ : ∃ c0 c1, cs = #[c0, c1] ∧ C.P (.sl 3 es) c0 ∧ C.P (.int .u64 n) c1 := by
        cases hc : cs.toList with
        | nil => rw [hc] at hcs; exact hcs.elim
        | cons c0 r => cases r with
          | nil => rw [hc] at hcs; exact hcs.2.elim
          | cons c1 r => cases r with
            | nil => rw [hc] at hcs; exact ⟨c0, c1, by rw [← Array.toArray_toList (xs := cs), hc], hcs.1, hcs.2.1⟩
            | cons => rw [hc] at hcs; exact hcs.2.2.elim
      obtain ⟨W, hWd⟩ : ∃ W, C.w.alloc (.cells #[c0, c1] 32) = W := ⟨_, rfl⟩
      have hgW : Grow C.w W := by rw [← hWd]; exact Grow.alloc _ _
      have hsp := FOk.at (hF.fn 39 _ [] _ _ (ownR_some hown) okf_39) hok hC hgW (us := #[.agg #[c0, c1], .int .i64 1, .int .i64 a, .int .i64 b]) ⟨hu0, .int _ _, .int _ _, .int _ _, trivial⟩
      have hspans : Calls Tryz.prog 39 #[.agg #[c0, c1], .int .i64 1, .int .i64 a, .int .i64 b] (C.w.alloc (.cells #[c0, c1] 32)) fun e w' => ∃ u, e = .returned (.tuple #[u, .int .i64 err]) ∧ ∃ D : Ctx, D.w = w' ∧ Ext (C.setW W) D ∧ Ok D ∧ D.h = [.blk (.arr 3 l)] ∧ VT D (.hsl 0) u := by
        rw [hWd]
        refine hsp.mono fun e w' ⟨u, he, D, h1, h2, h3, h4, h5⟩ => ?_
        obtain ⟨ts, rfl, ht⟩ := h5
        obtain ⟨t0, t1, rfl, q0, q1⟩ : ∃ t0 t1, ts = #[t0, t1] ∧ VT D (.hsl 0) t0 ∧ VT D (.p (.int .i64 err)) t1 := by
          cases hc : ts.toList with
          | nil => rw [hc] at ht; exact ht.elim
          | cons c0 r => cases r with
            | nil => rw [hc] at ht; exact ht.2.elim
            | cons c1 r => cases r with
              | nil => rw [hc] at ht; exact ⟨c0, c1, by rw [← Array.toArray_toList (xs := ts), hc], ht.1, ht.2.1⟩
              | cons => rw [hc] at ht; exact ht.2.2.elim
        obtain rfl : t1 = .int .i64 err := by cases q1; rfl
        exact ⟨t0, he, D, h1, h2, h3, h4, q0⟩
      have hGD : ∀ D : Ctx, Ext (C.setW W) D → Grow C.w D.w := fun D hx => hgW.trans (Grow.of_below (below_ext hx hC (Nat.le_refl _)))
      split at h
      · rename_i h0
        split at h
        · rename_i r hr
          split at h
          · rename_i hlen
            cases h
            have hl := spansE_eq hr
            have hll : l.length = r.length := by rw [hl]; simp [spanK]
            refine (callsIn_wide.1 (degr_walk c0 c1 p0.oneCell p1.oneCell a b err C.w (fun u w' => ∃ D : Ctx, D.w = w' ∧ Ext (C.setW W) D ∧ Ok D ∧ D.h = [.blk (.arr 3 l)] ∧ VT D (.hsl 0) u) (fun v w' => Grow C.w w' ∧ (C.setW w').P (.sl 3 (spanK (r.filter fun x => decide (x.2.2 < 3)))) v) hspans ?_)).mono ?_
            · rintro _ u W' ⟨D, rfl, hx, hokD, hDh, hk, -, hHS⟩
              have hlive : live D.h 0 (.arr 3 l) := by unfold live; rw [hDh]; rfl
              have hHS := hHS 3 l hlive
              have hblk := hokD.blk 0 _ hlive
              have hG := hGD D hx
              unfold HS at hHS
              cases hι : D.ι 0 with
              | none =>
                rw [hι] at hHS
                obtain ⟨rfl, rfl⟩ := hHS
                obtain rfl : r = [] := by cases r with | nil => rfl | cons => simp at hll
                refine (callsIn_wide.1 (del_nil none 0 D.w)).mono ?_
                rintro e w' ⟨rfl, rfl⟩
                exact ⟨_, rfl, hG, .sl0 _ _ _⟩
              | some bb =>
                rw [hι] at hHS
                obtain ⟨cap, carr, ty, fr, rfl, hcap, hrow, hcarr⟩ := hHS
                rcases hblk with ⟨hn, _⟩ | ⟨b', carr', ty', fr', hι', hrow', hsz, hnf, hel, hone, hcell⟩
                · rw [hι] at hn; cases hn
                rw [hι] at hι'
                cases hι'
                rw [hrow] at hrow'
                cases hrow'
                have hbb : bb < D.w.heap.size := (Array.getElem?_eq_some_iff.1 hrow).1
                obtain ⟨A, hA⟩ : ∃ A : Nat → Int, A = fun i => match r[i]? with | some x => x.1 | none => 0 := ⟨_, rfl⟩
                obtain ⟨B, hB⟩ : ∃ B : Nat → Int, B = fun i => match r[i]? with | some x => x.2.1 | none => 0 := ⟨_, rfl⟩
                obtain ⟨V, hV⟩ : ∃ V : Nat → Int, V = fun i => match r[i]? with | some x => x.2.2 | none => 0 := ⟨_, rfl⟩
                have hABV : ∀ i x, r[i]? = some x → A i = x.1 ∧ B i = x.2.1 ∧ V i = x.2.2 := fun i x hx => by
                  rw [hA, hB, hV]
                  simp only [hx]
                  exact ⟨trivial, trivial, trivial⟩
                have htrio : ∀ j, j < l.length → Trio D.w bb j (A j) (B j) (V j) := by
                  intro j hj
                  have hj' : r[j]? = some r[j] := List.getElem?_eq_getElem (by omega)
                  obtain ⟨ea, eb, ev⟩ := hABV j _ hj'
                  have hlj := spanK_get hj'
                  rw [← hl] at hlj
                  obtain ⟨u0, a0, b0⟩ := hcell j 0 _ _ hlj rfl
                  obtain ⟨u1, a1, b1⟩ := hcell j 1 _ _ hlj rfl
                  obtain ⟨u2, a2, b2⟩ := hcell j 2 _ _ hlj rfl
                  cases b0; cases b1; cases b2
                  exact ⟨by rw [cells_get _ _ _ hrow, ea]; exact a0, by rw [cells_get _ _ _ hrow, eb]; exact a1, by rw [cells_get _ _ _ hrow, ev]; exact a2⟩
                have hrw : Rw D.w bb (l.length * 3) := fun o ho => by
                  have ho' : o < carr.size := by omega
                  exact ⟨carr[o], by rw [cells_get _ _ _ hrow]; exact Array.getElem?_eq_getElem ho', frozen_no hrow hnf ho'⟩
                refine (callsIn_wide.1 (del_in bb l.length cap A B V D.w hbb hlen hcap htrio hrw)).mono ?_
                rintro e w' ⟨rfl, hres, hgr⟩
                have hnew : C.w.heap.size ≤ bb := by
                  rcases Nat.lt_or_ge bb C.w.heap.size with h | h
                  · exfalso
                    have h1 : bb < (C.setW W).w.heap.size := Nat.lt_of_lt_of_le h hgW.size
                    obtain ⟨id, blk, hlv, _⟩ := hx.own bb h1 ⟨0, _, hlive, hι⟩
                    unfold live at hlv
                    rw [show (C.setW W).h = [] from hC] at hlv
                    cases hlv
                  · exact h
                have hG2 : Grow C.w w' := ⟨hgr.tape.trans hG.tape, hgr.os.trans hG.os, hgr.output.trans hG.out, Nat.le_trans hG.size hgr.size, fun k hk => (hgr.block k (Nat.lt_of_lt_of_le hk hG.size) (by simp; omega)).trans (hG.keep k hk)⟩
                have hnX : ¬ C.X bb := fun hX => (hokD.x bb (by rw [hx.X]; exact hX)).2 ⟨0, _, hlive, hι⟩
                have hfil : spanK (r.filter fun x => decide (x.2.2 < 3)) = (kept V l.length).map fun i => [PV.int .i64 (A i), .int .i64 (B i), .int .i64 (V i)] := by
                  rw [kept_map r A B V hABV, ← hll]
                  simp [spanK]
                have hlenk : (spanK (r.filter fun x => decide (x.2.2 < 3))).length = (kept V l.length).length := by rw [hfil, List.length_map]
                refine ⟨_, rfl, hG2, ?_⟩
                rw [← hlenk]
                refine .sl 3 _ bb 0 cap (fun i j => match (kept V l.length)[i]?, j with | some x, 0 => .int .i64 (A x) | some x, 1 => .int .i64 (B x) | some x, _ => .int .i64 (V x) | none, _ => Go.undef) (Nat.lt_of_lt_of_le hbb hgr.size) ?_ ?_ ?_ ?_ ?_
                · rintro (hX | ⟨id, blk, hlv, _⟩)
                  · exact hnX hX
                  · unfold live at hlv
                    rw [show (C.setW w').h = [] from hC] at hlv
                    cases hlv
                · rw [hlenk]
                  have := kept_le V l.length
                  omega
                · rw [hfil]
                  intro e he
                  obtain ⟨x, _, rfl⟩ := List.mem_map.1 he
                  rfl
                · intro i j e c he hj
                  rw [hfil, List.getElem?_map] at he
                  obtain ⟨x, hx2, rfl⟩ := Option.map_eq_some_iff.1 he
                  obtain ⟨t0, t1, t2⟩ := hres i x hx2
                  simp only [hx2, Nat.zero_add]
                  match j, hj with
                  | 0, _ => exact t0
                  | 1, _ => exact t1
                  | 2, _ => exact t2
                  | j + 3, hj => simp at hj
                · intro i j e c he hj
                  rw [hfil, List.getElem?_map] at he
                  obtain ⟨x, hx2, rfl⟩ := Option.map_eq_some_iff.1 he
                  simp only [hx2]
                  match j, hj with
                  | 0, hj => simp at hj; subst hj; exact .int _ _
                  | 1, hj => simp at hj; subst hj; exact .int _ _
                  | 2, hj => simp at hj; subst hj; exact .int _ _
                  | j + 3, hj => simp at hj
            · rintro e w' (⟨_, v, rfl, hg, hp⟩ | ⟨hne, _⟩)
              · exact ⟨C.setW w', rfl, ext_grow C hg, ok_grow hok hg, hC, _, rfl, hp, .int _ _, trivial⟩
              · exact absurd h0 hne
          · cases h
        · cases h
      · rename_i h0
        cases h
        refine (callsIn_wide.1 (degr_walk c0 c1 p0.oneCell p1.oneCell a b err C.w (fun u w' => ∃ D : Ctx, D.w = w' ∧ Ext (C.setW W) D ∧ Ok D ∧ D.h = [.blk (.arr 3 l)] ∧ VT D (.hsl 0) u) (fun _ _ => True) hspans (fun h => absurd h h0))).mono ?_
        rintro e w' (⟨h, _⟩ | ⟨_, rfl, u, D, rfl, hx, _⟩)
        · exact absurd h h0
        · have hg := hGD D hx
          exact ⟨C.setW D.w, rfl, ext_grow C hg, ok_grow hok hg, hC, _, rfl, .sl0 _ _ _, .int _ _, trivial⟩
    · cases h
  · cases h

end Go.Proofs.YtiijghkfinkphaaGreatDoor.Vm

/- strconv.FormatUint at base 10, for every uint64. -/
namespace Go.Proofs.YtiijghkfinkphaaGreatDoor
open Go Go.Proofs Go.Shelf Go.RowKit Go.Sort Go.Lib

theorem holds_zero0 (w : World) (T : TypeId) (nd : Nat) (hs : nd ≤ 24) : Holds (fun (b : UInt8) => Value.int .u8 (b.toNat : Int)) (w.alloc (.cells zeros24 T)) w.heap.size 0 (Array.replicate nd (0 : UInt8)) := fun j hj => by
  have hj' : j < nd := by simpa using hj
  refine ⟨?_, World.frozen?_alloc_new _ _ _ _⟩
  rw [World.cell?_alloc_new, zeros24_at _ (by omega), getElem!_pos _ j hj]
  simp
theorem fin0 (w : World) (o : Obj) (dk : Array UInt8) (k : Nat) : ∃ os, (putRow (fun (b : UInt8) => Value.int .u8 (b.toNat : Int)) (w.alloc o) w.heap.size 0 dk).drewN k = grow (w.drewN k) os := by
  rw [alloc_eq_grow]
  obtain ⟨os', _, e⟩ := putRow_grow_new (fun (b : UInt8) => Value.int .u8 (b.toNat : Int)) w #[o] w.heap.size 0 dk (Nat.le_refl _)
  exact ⟨os', by rw [e]; rfl⟩

set_option maxHeartbeats 6400000 in
set_option maxRecDepth 100000 in
theorem fmtU (u : Nat) (hu : u < 18446744073709551616) (w : World) (htab : Lib.TabIs Tryz.prog w "internal/strconv.uint64pow10" .u64 Lib.pow10Tab) :
    Calls Tryz.prog 66 #[.int .u64 u, .int .i64 10] w fun e w' => e = .returned (.string ⟨(Lib.decDigits u).toArray⟩) ∧ ∃ k os, w' = grow (w.drewN k) os := by
  by_cases hs : u < 100
  · go_enter Tryz.func66, Tryz.ntmps66
    have hw : IntKind.i64.wrap (u : Int) = u := by rw [IntKind.wrap_i64]; omega
    go_wp2_with (go_at_call 76; refine (Any.internal_strconv_small (P := Tryz.prog) (ρ := Tryz.lays171_ren) { Tryz.lays171 with } u hs _).mono ?_; rintro e w' ⟨rfl, rfl⟩)
    go_ret
    exact ⟨rfl, 0, #[], by simp [World.drewN_zero]⟩
  · have hu1 : 1 ≤ u := by omega
    have hnd20 : Lib.nDigits u ≤ 20 := by have := Lib.numDigits_eq u hu1 hu; split at this <;> omega
    have hal : Tryz.prog.arrayLen 113 = 24 := by kernel_rfl
    have hsl : ∀ W, (Instr.sliceAt 113 (.pointer (some ⟨w.heap.size, 0, none⟩)) none (some (.int .i64 (Lib.nDigits u : Int))) none).run Tryz.prog W = .ok (.slice (some ⟨w.heap.size, 0, none⟩) (Lib.nDigits u) 24) W := fun W => by
      rw [run_sliceAt_array_h W 113 ⟨w.heap.size, 0, none⟩ (by simp [Program.arrayLen, Program.elem, Tryz.underlying113]) .i64 (Lib.nDigits u : Int) (by omega) (by rw [hal]; omega)]
      rw [hal]
      rfl
    have hH0 := holds_zero0 w 113 (Lib.nDigits u) (by omega)
    have hfmt := Any.internal_strconv_formatBase10 (P := Tryz.prog) (ρ := Tryz.lays171_ren) { Tryz.lays171 with } w.heap.size 0 24 u (Array.replicate (Lib.nDigits u) 0) (w.alloc (.cells Lib.zeros24 113)) hH0 (by rw [Array.size_replicate]; exact Lib.lt_pow_nDigits u) hu (by rw [Array.size_replicate]; omega)
    rw [Array.size_replicate] at hfmt
    have HH0 := Lib.hid hH0
    clear hH0 hal
    go_enter Tryz.func66, Tryz.ntmps66
    go_wp2_with (first
      | (go_at_call 77; refine (Any.internal_strconv_numDigits (P := Tryz.prog) (ρ := Tryz.lays171_ren) { Tryz.lays171 with } u hu1 hu _ (Lib.tabIs_alloc htab _)).mono ?_; rintro e w' ⟨rfl, rfl⟩))
    go_at_call 78
    refine hfmt.mono ?_
    rintro e w' ⟨rfl, k, v', dk, rfl, hF⟩
    have hcv : (convert 35 9 (.slice (some ⟨w.heap.size, 0, none⟩) (Lib.nDigits u) 24)).run Tryz.prog ((putRow (fun (b : UInt8) => Value.int .u8 (b.toNat : Int)) (w.alloc (.cells Lib.zeros24 113)) w.heap.size 0 dk).drewN k) = .ok (.string ⟨(Lib.decDigits u).toArray⟩) ((putRow (fun (b : UInt8) => Value.int .u8 (b.toNat : Int)) (w.alloc (.cells Lib.zeros24 113)) w.heap.size 0 dk).drewN k) := by
      have h := run_convert_bytes_back (P := Tryz.prog) ((putRow (fun (b : UInt8) => Value.int .u8 (b.toNat : Int)) (w.alloc (.cells Lib.zeros24 113)) w.heap.size 0 dk).drewN k) 35 9 5 ⟨w.heap.size, 0, none⟩ 24 (Lib.decDigits u) Tryz.underlying35 Tryz.underlying5 Tryz.underlying9 (fun j hj => by
        rw [Lib.row_is_numeral hF j hj, Lib.add_plain, World.cell?_drewN]
        exact cell?_putRow (fun (b : UInt8) => Value.int .u8 (b.toNat : Int)) _ w.heap.size 0 _ dk HH0.out (by rw [hF.size, Array.size_replicate]) j (by rw [hF.size]; rw [Lib.decDigits_length] at hj; exact hj))
      rw [Lib.decDigits_length] at h
      exact h
    go_wp2
    go_ret
    obtain ⟨os, eo⟩ := fin0 w (.cells Lib.zeros24 113) dk k
    exact ⟨rfl, k, os, eo⟩

set_option maxHeartbeats 1000000 in
set_option maxRecDepth 100000 in
theorem fmtUint (u : Nat) (hu : u < 18446744073709551616) (w : World) (htab : Lib.TabIs Tryz.prog w "internal/strconv.uint64pow10" .u64 Lib.pow10Tab) :
    Calls Tryz.prog 45 #[.int .u64 u, .int .i64 10] w fun e w' => e = .returned (.string ⟨(Lib.decDigits u).toArray⟩) ∧ ∃ k os, w' = grow (w.drewN k) os := by
  go_enter Tryz.func45, Tryz.ntmps45
  go_wp2_with (go_at_call 66; refine (fmtU u hu _ htab).mono ?_; rintro e w' ⟨rfl, k, os, rfl⟩)
  go_ret
  exact ⟨rfl, k, os, rfl⟩

end Go.Proofs.YtiijghkfinkphaaGreatDoor

/- The library's functions answer what their rows say: each contract of the shelf against the row. -/
namespace Go.Proofs.YtiijghkfinkphaaGreatDoor.Vm
open Go.RowKit
set_option linter.unusedVariables false
set_option linter.unusedSimpArgs false

theorem s_pTrimSuffix : ∀ args rs, pTrimSuffix args = some rs → FOk E 54 args [] rs [] := by
  intro args rs h
  unfold pTrimSuffix at h
  split at h
  · rename_i s p
    split at h
    · rename_i hs
      cases h
      refine prim_ok rfl fun C hok us hv => ?_
      obtain ⟨u, v, rfl, h1, h2⟩ := two_args hv
      rw [vp_str h1, vp_str h2]
      refine (Any.strings_TrimSuffix Tryz.lays102 ⟨s.toArray⟩ ⟨p.toArray⟩ C.w (by rw [str_size]; exact hs)).mono fun e w' ⟨he, hw⟩ => ?_
      subst he hw
      exact ⟨_, rfl, Grow.refl _, .str _⟩
    · cases h
  · cases h

theorem strsOf_spec : ∀ {es : List (List PV)} {xs : List (List UInt8)}, strsOf es = some xs → es = strsK xs
  | [], xs, h => by cases h; rfl
  | e :: l, xs, h => by
    unfold strsOf at h
    split at h
    · rename_i he; cases he
    · rename_i s l' he
      cases he
      split at h
      · rename_i r hr
        cases h
        rw [strsOf_spec hr]
        rfl
      · cases h
    · cases h

theorem datas : ∀ xs : List (List UInt8), (xs.map fun s => (⟨s.toArray⟩ : ByteArray)).map (·.data.toList) = xs
  | [] => rfl
  | x :: xs => by rw [List.map_cons, List.map_cons, datas xs]

theorem join_calls {C : Ctx} {xs : List (List UInt8)} {sep : List UInt8} {u : Value} (hb1 : xs.length ≤ 140737488355328) (hb2 : (Lib.join xs sep).length ≤ 140737488355328) (h1 : VA C (.t (.p (.sl 1 (strsK xs)))) u) :
    Calls E.P 44 #[u, .string ⟨sep.toArray⟩] C.w fun e w' => ∃ u, e = .returned u ∧ Grow C.w w' ∧ VA (C.setW w') (valOf (rawT 0 [.p (.str (Lib.join xs sep))])) u := by
  have key : ∀ (es : List (List PV)), es = strsK xs → VP C.w C.O (.sl 1 es) u → Calls E.P 44 #[u, .string ⟨sep.toArray⟩] C.w fun e w' => ∃ u, e = .returned u ∧ Grow C.w w' ∧ VA (C.setW w') (valOf (rawT 0 [.p (.str (Lib.join xs sep))])) u := by
    intro es he h
    cases h with
    | sl0 _ a cap =>
      have : xs = [] := by
        cases xs with
        | nil => rfl
        | cons => cases he
      subst this
      refine (Any.strings_Join_none Tryz.lays156 Tryz.extra156 a cap ⟨sep.toArray⟩ C.w).mono fun e w' ⟨he, hw⟩ => ?_
      subst he hw
      exact ⟨_, rfl, Grow.refl _, .str []⟩
    | sl _ _ b off cap f hb hO hc hz hcell hvp =>
      obtain ⟨bs, hbs⟩ : ∃ bs : List ByteArray, bs = xs.map fun s => (⟨s.toArray⟩ : ByteArray) := ⟨_, rfl⟩
      have hd : bs.map (·.data.toList) = xs := by rw [hbs]; exact datas xs
      have hlen : es.length = bs.length := by rw [he, hbs]; simp [strsK]
      have hxl : xs.length = bs.length := by rw [hbs]; simp
      rw [hlen]
      refine (Any.strings_Join Tryz.lays156 Tryz.extra156 b off cap bs ⟨sep.toArray⟩ C.w (fun j y hj => ?_) hb (by omega) (by omega) (by rw [hd]; exact hb2)).mono fun e w' ⟨he, hw⟩ => ?_
      · rw [hbs, List.getElem?_map] at hj
        obtain ⟨s, hs, rfl⟩ := Option.map_eq_some_iff.1 hj
        have hes : es[j]? = some [.str s] := by rw [he]; unfold strsK; rw [List.getElem?_map, hs]; rfl
        have h1 := hcell j 0 [.str s] (.str s) hes rfl
        have h2 := hvp j 0 [.str s] (.str s) hes rfl
        generalize f j 0 = y at h1 h2
        cases h2
        simp only [Nat.mul_one, Nat.add_zero] at h1
        exact h1
      · subst he
        rw [hd]
        exact ⟨_, rfl, Grow.of_below hw, .str _⟩
  exact key _ rfl h1

theorem s_pJoin : ∀ args rs, pJoin args = some rs → FOk E 44 args [] rs [] := by
  intro args rs h
  unfold pJoin at h
  split at h
  · rename_i es sep
    split at h
    · rename_i xs hxs
      split at h
      · rename_i hb
        cases h
        have he := strsOf_spec hxs
        subst he
        refine prim_ok rfl fun C hok us hv => ?_
        obtain ⟨u, v, rfl, h1, h2⟩ := two_args hv
        rw [vp_str h2]
        exact join_calls hb.1 hb.2 h1
      · cases h
    · cases h
  · cases h

theorem idx1 (c : UInt8) : ∀ s : List UInt8, Lib.index s [c] = Lib.indexByte s c
  | [] => rfl
  | b :: l => by
    unfold Lib.index Lib.indexByte
    rw [idx1 c l]
    have : ([c].isPrefixOf (b :: l)) = (b == c) := by
      show ((c == b) && [].isPrefixOf l) = _
      by_cases h : b = c
      · subst h; simp
      · have e1 : (c == b) = false := by simpa using fun e : c = b => h e.symm
        have e2 : (b == c) = false := by simpa using h
        rw [e1, e2]; rfl
    rw [this]

theorem spl_ne (c : UInt8) (s : List UInt8) : spl c s ≠ [] := by
  cases s with
  | nil => simp [spl]
  | cons b l =>
    unfold spl
    split
    · simp
    · split <;> simp

theorem spl_cons_ne {b c : UInt8} {l : List UInt8} (h : (b == c) = false) : spl c (b :: l) = match spl c l with | [] => [[b]] | p :: r => (b :: p) :: r := by
  rw [spl, h]
  rfl

theorem spl_len (c : UInt8) : ∀ s : List UInt8, (spl c s).length = s.count c + 1
  | [] => rfl
  | b :: l => by
    have ih := spl_len c l
    unfold spl
    by_cases h : b = c
    · subst h; simp [ih]
    · have hb : (b == c) = false := by simpa using h
      rw [hb]
      simp only [Bool.false_eq_true, if_false]
      rw [List.count_cons_of_ne (by simpa using h)]
      split
      · rename_i he; exact absurd he (spl_ne c l)
      · rename_i p r he; rw [he] at ih; simpa using ih

theorem ib_hit {s : List UInt8} {c : UInt8} {i : Nat} (h : Lib.indexByte s c = i) : spl c s = s.take i :: spl c (s.drop (i + 1)) ∧ i < s.length ∧ s.count c = (s.drop (i + 1)).count c + 1 := by
  induction s generalizing i with
  | nil => simp [Lib.indexByte] at h
  | cons b l ih =>
    unfold Lib.indexByte at h
    by_cases hb : b = c
    · subst hb
      simp only [beq_self_eq_true, if_true] at h
      have : i = 0 := by omega
      subst this
      simp [spl]
    · have hb' : (b == c) = false := by simpa using hb
      rw [hb'] at h
      simp only [Bool.false_eq_true, if_false] at h
      by_cases hm : Lib.indexByte l c = -1
      · rw [hm] at h; simp at h
      · have hmb : (Lib.indexByte l c == -1) = false := by simpa using hm
        rw [hmb] at h
        simp only [Bool.false_eq_true, if_false] at h
        have hge := Lib.indexByte_ge l c
        obtain ⟨k, hk⟩ : ∃ k : Nat, Lib.indexByte l c = k := ⟨(Lib.indexByte l c).toNat, by omega⟩
        have hi : i = k + 1 := by omega
        subst hi
        obtain ⟨h1, h2, h3⟩ := ih hk
        rw [spl_cons_ne hb', h1]
        refine ⟨rfl, by simp; omega, ?_⟩
        rw [List.count_cons_of_ne (by simpa using hb), h3]
        simp
theorem ib_miss {s : List UInt8} {c : UInt8} (h : Lib.indexByte s c = -1) : spl c s = [s] := by
  induction s with
  | nil => rfl
  | cons b l ih =>
    unfold Lib.indexByte at h
    by_cases hb : b = c
    · subst hb; simp at h
    · have hb' : (b == c) = false := by simpa using hb
      rw [hb'] at h
      simp only [Bool.false_eq_true, if_false] at h
      by_cases hm : Lib.indexByte l c = -1
      · rw [spl_cons_ne hb', ih hm]
      · have hmb : (Lib.indexByte l c == -1) = false := by simpa using hm
        rw [hmb] at h
        simp only [Bool.false_eq_true, if_false] at h
        have := Lib.indexByte_ge l c
        omega

theorem splitK_spl (c : UInt8) : ∀ (k : Nat) (s : List UInt8), s.count c = k → Lib.splitK [c] 0 k s = spl c s
  | 0, s, hk => by
    by_cases hm : Lib.indexByte s c = -1
    · rw [ib_miss hm]; rfl
    · have hge := Lib.indexByte_ge s c
      obtain ⟨i, hi⟩ : ∃ i : Nat, Lib.indexByte s c = i := ⟨(Lib.indexByte s c).toNat, by omega⟩
      obtain ⟨_, _, h3⟩ := ib_hit hi
      omega
  | k + 1, s, hk => by
    unfold Lib.splitK
    rw [idx1]
    by_cases hm : Lib.indexByte s c = -1
    · have := spl_len c s
      rw [ib_miss hm] at this
      simp at this; omega
    · have hge := Lib.indexByte_ge s c
      obtain ⟨i, hi⟩ : ∃ i : Nat, Lib.indexByte s c = i := ⟨(Lib.indexByte s c).toNat, by omega⟩
      obtain ⟨h1, h2, h3⟩ := ib_hit hi
      rw [hi]
      have hne : (((i : Nat) : Int) == -1) = false := by simp
      rw [hne]
      simp only [Bool.false_eq_true, if_false]
      rw [h1]
      simp only [Int.toNat_natCast, Nat.add_zero, List.length_singleton]
      rw [splitK_spl c k _ (by omega)]

theorem countB_spl (c : UInt8) (s : List UInt8) : Lib.countB ⟨s.toArray⟩ ⟨[c].toArray⟩ = s.count c := by
  show Lib.count s [c] = _
  exact Lib.count_one c s

theorem splitB_spl (c : UInt8) (s : List UInt8) : (Lib.splitB ⟨[c].toArray⟩ 0 (Lib.countB ⟨s.toArray⟩ ⟨[c].toArray⟩) ⟨s.toArray⟩).map (fun b => b.data.toList) = spl c s := by
  rw [Lib.splitB_data, countB_spl]
  exact splitK_spl c _ s rfl

theorem g_maxLen {C : Ctx} (g : GrOk C) : ∃ m, C.w.cell? ⟨gMaxLen, 0, none⟩ = some (.int .i64 m) := by
  obtain ⟨c, e, fr, m, h1, h2⟩ := gMaxLen_of g.at_
  refine ⟨m, ?_⟩
  have h1 : (if gMaxLen < nG then C.w.heap[gMaxLen]? else none) = some (.cells c e fr) := h1
  rw [if_pos (by decide)] at h1
  unfold World.cell?
  rw [h1]
  simpa using h2

theorem s_pSplit : ∀ args rs, pSplit args = some rs → FOk E 53 args [] rs [] := by
  intro args rs h
  unfold pSplit at h
  split at h
  · rename_i s c
    split at h
    · rename_i hs
      cases h
      refine prim_ok rfl fun C hok us hv => ?_
      obtain ⟨u, v, rfl, h1, h2⟩ := two_args hv
      rw [vp_str h1, vp_str h2]
      obtain ⟨m, hm⟩ := g_maxLen hok.gr
      have hsz : (ByteArray.mk [c].toArray).size = 1 := rfl
      refine (Any.strings_Split { Tryz.lays146 with } Tryz.lays146.i9 ⟨s.toArray⟩ ⟨[c].toArray⟩ m C.w (by rw [str_size]; exact hs) hm (by rw [hsz]; exact Nat.le_refl _)).mono fun e w' ⟨he, hw⟩ => ?_
      subst he
      have hl : Lib.countB ⟨s.toArray⟩ ⟨[c].toArray⟩ + 1 = (strsK (spl c s)).length := by rw [show (strsK (spl c s)).length = (spl c s).length by simp [strsK], countB_spl, spl_len]
      have hcs := splitB_spl c s
      subst hw
      refine ⟨_, rfl, Grow.alloc _ _, ?_⟩
      rw [hl]
      refine VP.sl 1 (strsK (spl c s)) C.w.heap.size 0 _ (fun i j => .string ⟨((spl c s).getD i []).toArray⟩) (by show _ < (C.w.heap.push _).size; simp) (new_free hok _) (Nat.le_refl _) (fun e he => ?_) (fun i j e x hi hj => ?_) (fun i j e x hi hj => ?_)
      · obtain ⟨y, _, rfl⟩ := List.mem_map.1 he; rfl
      · unfold strsK at hi
        rw [List.getElem?_map] at hi
        obtain ⟨y, hy, rfl⟩ := Option.map_eq_some_iff.1 hi
        cases j with
        | succ j => simp at hj
        | zero =>
          show (C.w.alloc _).cell? _ = _
          unfold World.cell?
          rw [heap_alloc_same]
          have : ((Lib.splitB ⟨[c].toArray⟩ 0 (Lib.countB ⟨s.toArray⟩ ⟨[c].toArray⟩) ⟨s.toArray⟩).map fun b => b.data.toList)[i]? = some y := by rw [hcs]; exact hy
          rw [List.getElem?_map] at this
          obtain ⟨b, hb, hby⟩ := Option.map_eq_some_iff.1 this
          have hbb : b = ⟨y.toArray⟩ := by apply ByteArray.ext; rw [← hby]
          simp [hb, List.getD, hy, hbb]
      · unfold strsK at hi
        rw [List.getElem?_map] at hi
        obtain ⟨y, hy, rfl⟩ := Option.map_eq_some_iff.1 hi
        cases j with
        | succ j => simp at hj
        | zero =>
          simp only [List.getElem?_cons_zero, Option.some.injEq] at hj
          subst hj
          have : (spl c s).getD i [] = y := by simp [List.getD, hy]
          rw [this]
          exact .str y
    · cases h
  · cases h

theorem g_pow {C : Ctx} (g : GrOk C) : Lib.TabIs Tryz.prog C.w "internal/strconv.uint64pow10" .u64 Lib.pow10Tab := by
  obtain ⟨e, fr, h⟩ := gPow_of g.at_
  have h : (if gPow < nG then C.w.heap[gPow]? else none) = _ := h
  rw [if_pos (by decide)] at h
  unfold Lib.TabIs World.var?
  rw [show Tryz.prog.globalNamed "internal/strconv.uint64pow10" = some gPow by kernel_rfl]
  show (match C.w.heap[gPow]? with | some (.cells cs _ _) => some cs | _ => none) = _
  rw [h]

theorem grow_drewN (w : World) (k : Nat) (os : Array Obj) : Grow w (Go.Sort.grow (w.drewN k) os) :=
  ⟨rfl, rfl, rfl, by show w.heap.size ≤ (w.heap ++ os).size; simp, fun b hb => by show (w.heap ++ os)[b]? = _; rw [Array.getElem?_append_left hb]⟩

theorem s_pItoa : ∀ args rs, pItoa args = some rs → FOk E 43 args [] rs [] := by
  intro args rs h
  unfold pItoa at h
  split at h
  · rename_i n
    split at h
    · rename_i hn
      cases h
      refine prim_ok rfl fun C hok us hv => ?_
      obtain ⟨u, rfl, h1⟩ := one_arg hv
      rw [vp_int h1]
      refine (Any.strconv_Itoa Tryz.lays171 n hn.1 hn.2 C.w (g_pow hok.gr)).mono fun e w' ⟨he, k, os, hw⟩ => ?_
      subst he hw
      exact ⟨_, rfl, grow_drewN _ _ _, .str _⟩
    · cases h
  · cases h

theorem s_pFormatUint : ∀ args rs, pFormatUint args = some rs → FOk E 45 args [] rs [] := by
  intro args rs h
  unfold pFormatUint at h
  split at h
  · rename_i n
    split at h
    · rename_i hn
      cases h
      refine prim_ok rfl fun C hok us hv => ?_
      obtain ⟨u, v, rfl, h1, h2⟩ := two_args hv
      rw [vp_int h1, vp_int h2]
      obtain ⟨m, rfl⟩ : ∃ m : Nat, n = m := ⟨n.toNat, by omega⟩
      refine (fmtUint m (by omega) C.w (g_pow hok.gr)).mono fun e w' ⟨he, k, os, hw⟩ => ?_
      subst he hw
      rw [Lib.itoa_nonneg]
      exact ⟨_, rfl, grow_drewN _ _ _, .str _⟩
    · cases h
  · cases h

theorem g_var {C : Ctx} {n : String} {g : Nat} {cs : Array Value} {e : TypeId} {fr : Nat × Nat} (hg : Tryz.prog.globalNamed n = some g) (h : C.w.heap[g]? = some (.cells cs e fr)) : C.w.var? Tryz.prog n = some cs := by
  unfold World.var?
  rw [hg]
  show (match C.w.heap[g]? with | some (.cells cs _ _) => some cs | _ => none) = _
  rw [h]
theorem grow_bytes (w : World) (e : TypeId) (s : ByteArray) : Grow w (Lib.bytesWorld w e s) :=
  ⟨rfl, rfl, rfl, by rw [Lib.bytesWorld_size]; omega, fun b hb => Lib.bytesWorld_at_old w e s b hb⟩

theorem s_pAtoi : ∀ args rs, pAtoi args = some rs → FOk E 55 args [] rs [] := by
  intro args rs h
  unfold pAtoi at h
  split at h
  · rename_i s
    split at h
    · rename_i hs
      cases h
      refine prim_ok rfl fun C hok us hv => ?_
      obtain ⟨u, rfl, h1⟩ := one_arg hv
      rw [vp_str h1]
      have hsz : (ByteArray.mk s.toArray).size = s.length := str_size s
      unfold atoiP
      cases ha : Lib.atoiAll s
      · rename_i v
        refine (Any.strconv_Atoi_ok Tryz.lays172 ⟨s.toArray⟩ (by rw [hsz]; omega) v ha C.w).mono fun e w' ⟨he, hw⟩ => ?_
        subst he
        refine ⟨_, rfl, ?_, _, rfl, .int _ _, .ifcN, trivial⟩
        rcases hw with rfl | ⟨t, rfl⟩
        · exact Grow.refl _
        · exact grow_bytes _ _ _
      · obtain ⟨t, p, e, fr, hv⟩ := gSyn_of hok.gr.at_
        have hv : (if gSyn < nG then C.w.heap[gSyn]? else none) = _ := hv
        rw [if_pos (by decide)] at hv
        refine (Any.strconv_Atoi_syntax_var Tryz.lays172 ⟨s.toArray⟩ (by rw [hsz]; omega) ha t p C.w (g_var (by kernel_rfl) hv)).mono fun e w' ⟨N, he, _, _, hb⟩ => ?_
        subst he
        exact ⟨_, rfl, Grow.of_below hb, _, rfl, .int _ _, .ifc _ _, trivial⟩
      · obtain ⟨t, p, e, fr, hv⟩ := gRng_of hok.gr.at_
        have hv : (if gRng < nG then C.w.heap[gRng]? else none) = _ := hv
        rw [if_pos (by decide)] at hv
        refine (Any.strconv_Atoi_range_var Tryz.lays172 ⟨s.toArray⟩ (by rw [hsz]; omega) ha t p C.w (g_var (by kernel_rfl) hv)).mono fun e w' ⟨N, he, _, _, hb⟩ => ?_
        subst he
        exact ⟨_, rfl, Grow.of_below hb, _, rfl, .int _ _, .ifc _ _, trivial⟩
    · cases h
  · cases h

theorem hprOk : HprOk E := fun g k h => by cases h

theorem primsOk : PrimsOk E := by
  refine ⟨?_, hprOk⟩
  intro f p h
  have h : findP f [(7, hBook 15 21 23), (11, hRead 17 23 29 30 31 32), (16, hAppend 15 37 30 31 21 32), (18, hDegr 39), (29, hParse 54 53 55 37 21), (33, hParseR 57 47 49), (43, .pure pItoa), (44, .pure pJoin), (45, .pure pFormatUint), (53, .pure pSplit), (54, .pure pTrimSuffix), (55, .pure pAtoi), (61, .pure pAt)] = some p := h
  simp only [findP] at h
  cases hf7 : Nat.beq f 7 with
  | true => rw [hf7, cond_true] at h; cases h; rw [Nat.eq_of_beq_eq_true hf7]; exact s_hBook
  | false =>
  rw [hf7, cond_false] at h
  cases hf11 : Nat.beq f 11 with
  | true => rw [hf11, cond_true] at h; cases h; rw [Nat.eq_of_beq_eq_true hf11]; exact s_hRead
  | false =>
  rw [hf11, cond_false] at h
  cases hf16 : Nat.beq f 16 with
  | true => rw [hf16, cond_true] at h; cases h; rw [Nat.eq_of_beq_eq_true hf16]; exact s_hAppend
  | false =>
  rw [hf16, cond_false] at h
  cases hf18 : Nat.beq f 18 with
  | true => rw [hf18, cond_true] at h; cases h; rw [Nat.eq_of_beq_eq_true hf18]; exact s_hDegr
  | false =>
  rw [hf18, cond_false] at h
  cases hf29 : Nat.beq f 29 with
  | true => rw [hf29, cond_true] at h; cases h; rw [Nat.eq_of_beq_eq_true hf29]; exact s_hParse
  | false =>
  rw [hf29, cond_false] at h
  cases hf33 : Nat.beq f 33 with
  | true => rw [hf33, cond_true] at h; cases h; rw [Nat.eq_of_beq_eq_true hf33]; exact s_hParseR
  | false =>
  rw [hf33, cond_false] at h
  cases hf43 : Nat.beq f 43 with
  | true => rw [hf43, cond_true] at h; cases h; rw [Nat.eq_of_beq_eq_true hf43]; exact fun _ _ => s_pItoa
  | false =>
  rw [hf43, cond_false] at h
  cases hf44 : Nat.beq f 44 with
  | true => rw [hf44, cond_true] at h; cases h; rw [Nat.eq_of_beq_eq_true hf44]; exact fun _ _ => s_pJoin
  | false =>
  rw [hf44, cond_false] at h
  cases hf45 : Nat.beq f 45 with
  | true => rw [hf45, cond_true] at h; cases h; rw [Nat.eq_of_beq_eq_true hf45]; exact fun _ _ => s_pFormatUint
  | false =>
  rw [hf45, cond_false] at h
  cases hf53 : Nat.beq f 53 with
  | true => rw [hf53, cond_true] at h; cases h; rw [Nat.eq_of_beq_eq_true hf53]; exact fun _ _ => s_pSplit
  | false =>
  rw [hf53, cond_false] at h
  cases hf54 : Nat.beq f 54 with
  | true => rw [hf54, cond_true] at h; cases h; rw [Nat.eq_of_beq_eq_true hf54]; exact fun _ _ => s_pTrimSuffix
  | false =>
  rw [hf54, cond_false] at h
  cases hf55 : Nat.beq f 55 with
  | true => rw [hf55, cond_true] at h; cases h; rw [Nat.eq_of_beq_eq_true hf55]; exact fun _ _ => s_pAtoi
  | false =>
  rw [hf55, cond_false] at h
  cases hf61 : Nat.beq f 61 with
  | true => rw [hf61, cond_true] at h; cases h; rw [Nat.eq_of_beq_eq_true hf61]; exact fun _ _ => s_pAt
  | false =>
  rw [hf61, cond_false] at h
  cases h

end Go.Proofs.YtiijghkfinkphaaGreatDoor.Vm
