import Derived.Test.YtpnpdkgdgfkpfaaGreatDoorPrims
import Derived.Shelf.SlSortCmp.Insertion
import Derived.Lib.TrailingZeros
import Derived.Test.YtpnpdkgdgfkpfaaGreatDoorEnv
import Derived.Test.YtpnpdkgdgfkpfaaGreatDoorVm35
import Derived.WalkKit
import Derived.OwnWalk
import Derived.Deep.RegionLaw
import Derived.Deep.AppendLies
import Derived.Deep.Upon
import Derived.Lib.BufferWrite
import Derived.Lib.OwnBridge
import Derived.Lib.AppendIntMem
import Derived.KernelRfl
import Derived.Below
import Derived.Test.YtpnpdkgdgfkpfaaGreatDoorShelf
import Derived.Shelf.Slices.In.SortNone
import Derived.StillTailTactics
/- The plain law of the vote: the order of the sets, the members of a mask. -/
namespace Go.Proofs.YtpnpdkgdgfkpfaaGreatDoor.Vm
open Go Go.Proofs Go.RowKit
set_option linter.unusedVariables false
set_option linter.unusedSimpArgs false

theorem cmpN_self : ∀ a : List Nat, cmpN a a = 0
  | [] => rfl
  | x :: xs => by
    unfold cmpN
    rw [if_neg (by omega), if_neg (by omega)]
    exact cmpN_self xs
theorem cmpN_lt : ∀ a b c : List Nat, cmpN a b < 0 → cmpN b c < 0 → cmpN a c < 0
  | [], [], _, h, _ => by simp [cmpN] at h
  | [], _ :: _, [], _, h => by simp [cmpN] at h
  | [], _ :: _, _ :: _, _, _ => by simp [cmpN]
  | _ :: _, [], _, h, _ => by simp [cmpN] at h
  | _ :: _, _ :: _, [], _, h => by simp [cmpN] at h
  | x :: xs, y :: ys, z :: zs, h, k => by
    have ih := cmpN_lt xs ys zs
    unfold cmpN at h k ⊢
    split at h <;> split at k <;> (try split at h) <;> (try split at k) <;> (try split) <;> (try split) <;> omega
theorem cmpN_ge : ∀ a b c : List Nat, 0 ≤ cmpN a b → 0 ≤ cmpN b c → 0 ≤ cmpN a c
  | [], [], _, _, h => h
  | [], _ :: _, _, h, _ => by simp [cmpN] at h
  | _ :: _, _, [], _, _ => by simp [cmpN]
  | _ :: _, [], _ :: _, _, h => by simp [cmpN] at h
  | x :: xs, y :: ys, z :: zs, h, k => by
    have ih := cmpN_ge xs ys zs
    unfold cmpN at h k ⊢
    split at h <;> split at k <;> (try split at h) <;> (try split at k) <;> (try split) <;> (try split) <;> omega

theorem betterP_lt (a b : List Nat × List Int) : betterP a b < 0 ↔ b.2.length < a.2.length ∨ (a.2.length = b.2.length ∧ (b.1.length < a.1.length ∨ (a.1.length = b.1.length ∧ cmpN a.1 b.1 < 0))) := by
  unfold betterP
  split
  · omega
  · split
    · omega
    · split
      · omega
      · split <;> omega

theorem betterP_swo (f : Nat → List Nat × List Int) : Sort.SWO (ltOf fun x y => betterP (f x) (f y)) where
  irrefl x := by
    unfold ltOf
    have := cmpN_self (f x).1
    simp only [betterP_lt, decide_eq_false_iff_not]
    omega
  trans x y z h1 h2 := by
    unfold ltOf at *
    have := cmpN_lt (f x).1 (f y).1 (f z).1
    simp only [betterP_lt, decide_eq_true_eq] at *
    omega
  ntrans x y z h1 h2 := by
    unfold ltOf at *
    have := cmpN_ge (f x).1 (f y).1 (f z).1
    simp only [betterP_lt, decide_eq_false_iff_not] at *
    omega

theorem maskL_8 : ∀ n, n < 9 → ∀ m, m < 2 ^ n → maskL n m = maskL 8 m := by decide +kernel
theorem maskL_zero (n : Nat) : maskL n 0 = [] := by simp [maskL]
theorem maskL_step : ∀ m, m < 256 → m ≠ 0 → maskL 8 m = Lib.ctz 64 m :: maskL 8 (m &&& (m - 1)) ∧ (m &&& (m - 1)) < m := by decide +kernel
theorem maskL_len (n m : Nat) : (maskL n m).length ≤ n := by
  have := List.length_filter_le (fun k => m.testBit k) (List.range n)
  simpa [maskL] using this
theorem maskL_lt {n m k : Nat} (h : k ∈ maskL n m) : k < n := by
  unfold maskL at h
  exact List.mem_range.1 (List.mem_filter.1 h).1

end Go.Proofs.YtpnpdkgdgfkpfaaGreatDoor.Vm

/- vote.pick, walked; rows of ints. -/
namespace Go.Proofs.YtpnpdkgdgfkpfaaGreatDoor.Vm
open Go Go.Proofs Go.RowKit
set_option linter.unusedVariables false
set_option linter.unusedSimpArgs false

def ints (l : List Int) : List Value := l.map (Value.int .i64)
def natI (l : List Nat) : List Int := l.map fun (k : Nat) => (k : Int)
theorem info3 : (Tryz.prog.info? 3).map (fun i => (i.zero, i.size, i.bytes)) = some (some (.int .i64 0), 1, 8) := by kernel_rfl
theorem info_parts {P : Program} {t : TypeId} {z : Option Value} {s b : Nat} (h : (P.info? t).map (fun i => (i.zero, i.size, i.bytes)) = some (z, s, b)) : ∃ i, P.info? t = some i ∧ i.zero = z ∧ i.size = s ∧ i.bytes = b := by
  cases hi : P.info? t with
  | none => rw [hi] at h; cases h
  | some i =>
    rw [hi] at h
    simp only [Option.map_some, Option.some.injEq, Prod.mk.injEq] at h
    exact ⟨i, rfl, h.1, h.2.1, h.2.2⟩

def RowI (W : World) (lo : Nat) (v : Value) (xs : List Int) : Prop :=
  ∃ a c, v = .slice a xs.length c ∧ (xs ≠ [] → ∃ B, a = some ⟨B, 0, none⟩ ∧ lo ≤ B ∧ B < W.heap.size ∧ xs.length ≤ c ∧ ∀ j x, xs[j]? = some x → W.cell? ⟨B, j, none⟩ = some (.int .i64 x) ∧ W.frozen? ⟨B, j, none⟩ = false)

theorem RowI.of_owns {W : World} {lo n : Nat} {v : Value} {xs : List Int} (h : W.ownsRow lo 3 1 v n (ints xs)) : RowI W lo v xs := by
  have hl : xs.length = n := by simpa [ints] using h.1
  rcases h.2 with ⟨rfl, rfl⟩ | ⟨g, cap, cur, rfl, hb, hg, hn, hm, hs, ht⟩
  · exact ⟨none, 0, by rw [hl], fun hne => absurd (List.eq_nil_of_length_eq_zero hl) hne⟩
  · have hlt : g < W.heap.size := (Array.getElem?_eq_some_iff.1 hg).1
    refine ⟨_, cap, by rw [hl], fun _ => ⟨g, rfl, hb, hlt, by omega, fun j x hx => ⟨?_, by simp [World.frozen?, hg]⟩⟩⟩
    have hj : j < xs.length := (List.getElem?_eq_some_iff.1 hx).1
    have e1 : (cur.toList.take (n * 1))[j]? = (ints xs)[j]? := by rw [ht]
    rw [List.getElem?_take, if_pos (by omega), Array.getElem?_toList, ints, List.getElem?_map, hx] at e1
    simp only [World.cell?, hg]
    exact e1
theorem RowI.keep {W W' : World} {lo : Nat} {v : Value} {xs : List Int} (h : RowI W lo v xs) (hs : W.heap.size ≤ W'.heap.size) (hb : ∀ b, v.ownBlock = some b → lo ≤ b → b < W.heap.size → W'.heap[b]? = W.heap[b]?) : RowI W' lo v xs := by
  obtain ⟨a, c, rfl, h⟩ := h
  refine ⟨a, c, rfl, fun hne => ?_⟩
  obtain ⟨B, rfl, h1, h2, h3, h4⟩ := h hne
  have he := hb B rfl h1 h2
  exact ⟨B, rfl, h1, Nat.lt_of_lt_of_le h2 hs, h3, fun j x hx => ⟨(World.cell?_of_block (a := ⟨B, j, none⟩) he).trans (h4 j x hx).1, (World.frozen?_of_block (a := ⟨B, j, none⟩) he).trans (h4 j x hx).2⟩⟩
theorem RowI.step {W W' : World} {lo : Nat} {v : Value} {xs : List Int} (h : RowI W lo v xs) (hB : Below W.heap.size W W') : RowI W' lo v xs := h.keep hB.size fun b _ _ hb => hB.block b hb
theorem RowI.mono {W : World} {lo lo' : Nat} {v : Value} {xs : List Int} (h : RowI W lo v xs) (hl : lo' ≤ lo) : RowI W lo' v xs := by
  obtain ⟨a, c, rfl, h⟩ := h
  exact ⟨a, c, rfl, fun hne => by obtain ⟨B, h0, h1, h2⟩ := h hne; exact ⟨B, h0, Nat.le_trans hl h1, h2⟩⟩

theorem below_grown {B : Nat} {w w' w2 : World} {row : Option Nat} (h : Below B w w') (hg : w'.grownBy w2 row) (hB : B ≤ w.heap.size) (hr : ∀ k, row = some k → B ≤ k) : Below B w w2 where
  os := hg.os.trans h.os
  tape := hg.tape.trans h.tape
  output := hg.output.trans h.output
  size := Nat.le_trans h.size hg.size
  block k hk := (hg.block k (by have := h.size; omega) (fun e => by have := hr k e.symm; omega)).trans (h.block k hk)

def pickP (cs : List Int) (ms : List Nat) : List Int := ms.map fun k => cs.getD k 0
theorem pickP_len (cs : List Int) (ms : List Nat) : (pickP cs ms).length = ms.length := by simp [pickP]

set_option maxRecDepth 100000 in
set_option maxHeartbeats 8000000 in
theorem pick_walk (cv mv : Value) (cs : List Int) (ms : List Nat) (w : World) (hc : RowI w 0 cv cs) (hm : RowI w 0 mv (natI ms)) (hlt : ∀ k, k ∈ ms → k < cs.length) (h8 : ms.length ≤ 8) (c8 : cs.length ≤ 8) :
    Calls Tryz.prog 140 #[cv, mv] w fun u w' => ∃ v, u = .returned v ∧ w'.ownsRow w.heap.size 3 1 v ms.length (ints (pickP cs ms)) ∧ Below w.heap.size w w' := by
  obtain ⟨ca, cc, rfl, hcI⟩ := hc
  obtain ⟨ma, mc, rfl, hmI⟩ := hm
  obtain ⟨i0, hi, hz0, hz1, hz2⟩ := info_parts info3
  have hml : (natI ms).length = ms.length := by simp [natI]
  rw [hml] at hmI ⊢
  go_enter Tryz.func140, Tryz.ntmps140
  go_wp2
  go_loopw [5, 10] (fun u i wr => ∃ (k : Nat) (v : Value), k ≤ ms.length ∧ i = .int .i64 (k : Nat) ∧ v = u ∧ wr.ownsRow w.heap.size 3 1 v k (ints (pickP cs (ms.take k))) ∧ Below w.heap.size w wr)
    (fun _ i _ => ms.length - (intOf i).toNat)
  case atStart => exact ⟨0, _, Nat.zero_le _, rfl, rfl, World.ownsRow_nil _ _ _ _, Below.refl _ _⟩
  case round =>
    obtain ⟨k, v, hk, rfl, hv, hown, hB⟩ := hrel
    subst hv
    by_cases hlk : k < ms.length
    · obtain ⟨m, hx⟩ : ∃ x, ms[k]? = some x := ⟨_, List.getElem?_eq_getElem hlk⟩
      have hmc := hlt m (List.mem_of_getElem? hx)
      obtain ⟨c, hcx⟩ : ∃ c, cs[m]? = some c := ⟨_, List.getElem?_eq_getElem hmc⟩
      obtain ⟨B, rfl, _, hB1, _, hBc⟩ := hmI (fun e => by rw [← hml, e] at hlk; simp at hlk)
      obtain ⟨D, rfl, _, hD1, _, hDc⟩ := hcI (fun e => by rw [e] at hmc; simp at hmc)
      have y0 := (hB.cell (p := ⟨B, k, none⟩) hB1).trans (hBc k (m : Int) (by simp [natI, hx])).1
      have y1 := (hB.cell (p := ⟨D, m, none⟩) hD1).trans (hDc m c hcx).1
      have hX := hown.alloc (.cells #[.int .i64 c] 3)
      have hsz := hB.size
      have e1 : pickP cs (ms.take (k + 1)) = pickP cs (ms.take k) ++ [c] := by
        rw [List.take_add_one, hx]
        simp [pickP, List.getD, hcx]
      clear hBc hDc hcI hmI hlt
      go_wp2_with (at_builtin; refine wpList_append_lies _ rfl _ _ 22 rfl w.heap.size 3 i0 (.int .i64 0) 1 8 Tryz.underlying22 hi hz0 hz1 hz2 rfl (by decide) _ _ _ rfl hX ⟨wr.heap.size, 0, none⟩ 1 1 [.int .i64 c] rfl rfl (World.news_of_block (cs := #[.int .i64 c]) (t := 3) (fr := (0, 0)) (heap_alloc_new _ _)) (by intro u hu; simp only [List.mem_cons, List.not_mem_nil, or_false] at hu; subst hu; rfl) (by omega) (by unfold maxLen; omega) (by omega) (by simp; omega) (wr.heap.size + 1) (by simp) ?_; intro gg cap w1 hown2 hgrow hat hltg)
      have hlb := hown.lt
      have hB2 := below_grown (hB.alloc hsz (.cells #[.int .i64 c] 3)) hgrow (Nat.le_refl _) (fun j hj => (hlb j hj).1)
      have hown3 : w1.ownsRow w.heap.size 3 1 (.slice (some ⟨gg, 0, none⟩) (k + 1) cap) (k + 1) (ints (pickP cs (ms.take (k + 1)))) := by
        rw [e1, ints, List.map_append]
        exact hown2
      clear hgrow hown2 hX hown y0 y1 hB hlb
      go_roundw
      case rel => exact ⟨k + 1, _, by omega, by simp, rfl, hown3, hB2⟩
      case measure => simp [intOf] <;> omega
    · obtain rfl : k = ms.length := by omega
      rw [List.take_length] at hown
      go_wp2
      exact bodyPost_ret (v := v) (by simp [results, Tryz.results140, go_sem]) rfl ⟨v, rfl, hown, hB⟩

end Go.Proofs.YtpnpdkgdgfkpfaaGreatDoor.Vm

/- vote.Causes, walked. -/
namespace Go.Proofs.YtpnpdkgdgfkpfaaGreatDoor.Vm
open Go Go.Proofs Go.RowKit
set_option linter.unusedVariables false
set_option linter.unusedSimpArgs false

theorem compact_le (zs : List Int) : (Lib.compact zs).length ≤ zs.length := by
  unfold Lib.compact Lib.compactUpTo
  rw [List.length_map]
  exact Nat.le_trans (List.length_filter_le _ _) (by simp)

theorem below_growos (B : Nat) {w W : World} (h : Below B w W) (hB : B ≤ W.heap.size) (os : Array Obj) : Below B w (Sort.grow W os) :=
  h.trans (Lib.below_grow B W hB 0 os)

theorem sort_call {W : World} {base n : Nat} {v : Value} {zs : List Int} (h : W.ownsRow base 3 1 v n (ints zs)) (hz : zs.length ≤ 1000) (hb : base ≤ W.heap.size) :
    Calls Tryz.prog 141 #[v] W fun e w' => e = .returned (.tuple #[]) ∧ w'.ownsRow base 3 1 v n (ints (zs.mergeSort fun x y => decide (x ≤ y))) ∧ Below base W w' := by
  by_cases hv : v = .slice none 0 0
  · subst hv
    have h0 : n = 0 := by
      rcases h.2 with ⟨_, h0⟩ | ⟨g, cap, cur, e, _⟩
      · exact h0
      · cases e
    subst h0
    obtain rfl : zs = [] := by
      have := h.1
      simpa [ints] using this
    refine (calls_of_every_depth fun D => AnyS.slices_Sort_int_none_alone Tryz.lays189 D none 0 W).mono ?_
    rintro e w' ⟨rfl, rfl⟩
    exact ⟨rfl, by simpa using h, Below.refl _ _⟩
  · obtain ⟨g, cap, rfl, hg, hgs, hn, hc, hl, hH⟩ := Lib.holds_of_ownsRow (enc := Value.int .i64) h hv
    subst hl
    refine (calls_of_every_depth fun D => AnyS.slices_Sort_int_alone Tryz.lays189 D g 0 cap zs W hH hgs (by omega)).mono ?_
    rintro e w' ⟨rfl, q, os, rfl⟩
    refine ⟨rfl, ?_, below_growos _ (Lib.below_putRow (Below.refl _ _) hg) (Nat.le_trans hb (Lib.below_putRow (Below.refl base W) hg).size) _⟩
    have h2 := Lib.ownsRow_putRow (enc := Value.int .i64) (q := q) (ys := zs.mergeSort fun x y => decide (x ≤ y)) h (by simp) (Nat.le_refl _)
    rw [List.take_of_length_le (by simp)] at h2
    exact Lib.ownsRow_grow h2 0 os

theorem compact_call {W : World} {base n : Nat} {v : Value} {zs : List Int} (h : W.ownsRow base 3 1 v n (ints zs)) (hz : zs.length ≤ 1000) :
    Calls Tryz.prog 142 #[v] W fun e w' => ∃ v', e = .returned v' ∧ w'.ownsRow base 3 1 v' (Lib.compact zs).length (ints (Lib.compact zs)) ∧ Below base W w' := by
  by_cases hv : v = .slice none 0 0
  · subst hv
    have h0 : n = 0 := by
      rcases h.2 with ⟨_, h0⟩ | ⟨g, cap, cur, e, _⟩
      · exact h0
      · cases e
    subst h0
    obtain rfl : zs = [] := by
      have := h.1
      simpa [ints] using this
    refine (Any.slices_Compact_int_empty Tryz.laysQ20 none 0 W).mono ?_
    rintro e w' ⟨rfl, rfl⟩
    exact ⟨_, rfl, h, Below.refl _ _⟩
  · obtain ⟨g, cap, rfl, hg, hgs, hn, hc, hl, hH⟩ := Lib.holds_of_ownsRow (enc := Value.int .i64) h hv
    subst hl
    refine (Any.slices_Compact_int Tryz.laysQ20 g 0 cap zs W hH (by omega) hn).mono ?_
    rintro e w' ⟨rfl, q, rfl⟩
    have hcl := compact_le zs
    have h2 := Lib.ownsRow_putRow (enc := Value.int .i64) (q := q) (ys := Lib.compact zs ++ List.replicate (zs.length - (Lib.compact zs).length) 0) h (by simp; omega) hcl
    rw [List.take_left' rfl] at h2
    exact ⟨_, rfl, h2, Lib.below_putRow (Below.refl _ _) hg⟩

set_option maxRecDepth 100000 in
set_option maxHeartbeats 4000000 in
theorem causes_walk (cv mv : Value) (cs : List Int) (ms : List Nat) (w : World) (hc : RowI w 0 cv cs) (hm : RowI w 0 mv (natI ms)) (hlt : ∀ k, k ∈ ms → k < cs.length) (h8 : ms.length ≤ 8) (c8 : cs.length ≤ 8) :
    Calls Tryz.prog 120 #[cv, mv] w fun u w' => ∃ v, u = .returned v ∧ w'.ownsRow w.heap.size 3 1 v (sortI (pickP cs ms)).length (ints (sortI (pickP cs ms))) ∧ Below w.heap.size w w' := by
  have hpick := pick_walk cv mv cs ms w hc hm hlt h8 c8
  obtain ⟨ca, cc, rfl, _⟩ := hc
  obtain ⟨ma, mc, rfl, _⟩ := hm
  go_enter Tryz.func120, Tryz.ntmps120
  go_wp2_with (go_at_call 140; refine hpick.mono ?_)
  rintro u W1 ⟨v, rfl, hown, hB⟩
  have hlen : (pickP cs ms).length ≤ 1000 := by rw [pickP_len]; omega
  have hsort := sort_call hown hlen hB.size
  clear hpick hown
  go_wp2_with (go_at_call 141; refine hsort.mono ?_)
  rintro u W2 ⟨rfl, hown, hB2⟩
  have hcomp := compact_call hown (by simpa using hlen)
  have hBB := hB.trans hB2
  clear hsort hown hB hB2
  go_wp2_with (go_at_call 142; refine hcomp.mono ?_)
  rintro u W3 ⟨v', rfl, hown, hB3⟩
  go_wp2
  exact bodyPost_ret (v := v') (by simp [results, Tryz.results120, go_sem]) rfl ⟨v', rfl, hown, hBB.trans hB3⟩

end Go.Proofs.YtpnpdkgdgfkpfaaGreatDoor.Vm

/- vote.better and what it calls, walked. -/
namespace Go.Proofs.YtpnpdkgdgfkpfaaGreatDoor.Vm
open Go Go.Proofs Go.RowKit
set_option linter.unusedVariables false
set_option linter.unusedSimpArgs false

def cmpI (x y : Int) : Int := if x < y then -1 else if y < x then 1 else 0
theorem cmp_walk (x y : Int) (w : World) : Calls Tryz.prog 124 #[.int .i64 x, .int .i64 y] w fun e w' => e = .returned (.int .i64 (cmpI x y)) ∧ w' = w := by
  unfold cmpI
  go_enter Tryz.func124, Tryz.ntmps124
  by_cases h1 : x < y
  · go_wp2_with (go_in)
    exact bodyPost_ret (v := .int .i64 (-1)) (by simp [results, Tryz.results124, go_sem]) rfl ⟨rfl, rfl⟩
  · by_cases h2 : y < x
    · go_wp2_with (go_in)
      exact bodyPost_ret (v := .int .i64 1) (by simp [results, Tryz.results124, go_sem]) rfl ⟨rfl, rfl⟩
    · go_wp2_with (go_in)
      exact bodyPost_ret (v := .int .i64 0) (by simp [results, Tryz.results124, go_sem]) rfl ⟨rfl, rfl⟩

theorem natI_get {l : List Nat} {k x : Nat} (h : l[k]? = some x) : (natI l)[k]? = some (x : Int) := by simp [natI, h]
theorem natI_len (l : List Nat) : (natI l).length = l.length := by simp [natI]
theorem drop_get {α : Type} {l : List α} {k : Nat} {x : α} (h : l[k]? = some x) : l.drop k = x :: l.drop (k + 1) := by
  obtain ⟨h1, h2⟩ := List.getElem?_eq_some_iff.1 h
  rw [List.drop_eq_getElem_cons h1, h2]

set_option maxRecDepth 100000 in
set_option maxHeartbeats 4000000 in
theorem compare_walk (v1 v2 : Value) (a b : List Nat) (w : World) (h1 : RowI w 0 v1 (natI a)) (h2 : RowI w 0 v2 (natI b)) (ha : a.length ≤ 8) (hb : b.length ≤ 8) :
    Calls Tryz.prog 125 #[v1, v2] w fun e w' => e = .returned (.int .i64 (cmpN a b)) ∧ w' = w := by
  obtain ⟨a1, c1, rfl, h1⟩ := h1
  obtain ⟨a2, c2, rfl, h2⟩ := h2
  rw [natI_len] at h1 h2 ⊢
  rw [natI_len]
  go_enter Tryz.func125, Tryz.ntmps125
  go_wp2
  go_loopw [11] (fun i wr => ∃ (k : Nat), k ≤ a.length ∧ k ≤ b.length ∧ i = .int .i64 (k : Nat) ∧ cmpN a b = cmpN (a.drop k) (b.drop k) ∧ wr = w)
    (fun i _ => a.length - (intOf i).toNat)
  case atStart => exact ⟨0, Nat.zero_le _, Nat.zero_le _, rfl, rfl, rfl⟩
  case round =>
    obtain ⟨k, hk, hkb, rfl, he, rfl⟩ := hrel
    by_cases hlk : k < a.length
    · obtain ⟨x, hx⟩ : ∃ x, a[k]? = some x := ⟨_, List.getElem?_eq_getElem hlk⟩
      obtain ⟨B, rfl, _, _, _, hBc⟩ := h1 (fun e => by rw [← natI_len, e] at hlk; simp at hlk)
      have y0 := (hBc k _ (natI_get hx)).1
      by_cases hlb : k < b.length
      · obtain ⟨y, hy⟩ : ∃ y, b[k]? = some y := ⟨_, List.getElem?_eq_getElem hlb⟩
        obtain ⟨D, rfl, _, _, _, hDc⟩ := h2 (fun e => by rw [← natI_len, e] at hlb; simp at hlb)
        have y1 := (hDc k _ (natI_get hy)).1
        have hcmp := cmp_walk (x : Int) (y : Int) wr
        rw [drop_get hx, drop_get hy] at he
        clear hBc hDc h1 h2
        by_cases l1 : x < y
        · have e1 : cmpI (x : Int) (y : Int) = -1 := by unfold cmpI; rw [if_pos (by omega)]
          have e2 : cmpN a b = -1 := by rw [he, cmpN, if_pos l1]
          rw [e1] at hcmp
          go_wp2_with (go_at_call 124; refine hcmp.mono ?_; rintro e w' ⟨rfl, rfl⟩)
          exact bodyPost_ret (v := .int .i64 (-1)) (by simp [results, Tryz.results125, go_sem]) rfl ⟨by rw [e2], rfl⟩
        · by_cases l2 : y < x
          · have e1 : cmpI (x : Int) (y : Int) = 1 := by unfold cmpI; rw [if_neg (by omega), if_pos (by omega)]
            have e2 : cmpN a b = 1 := by rw [he, cmpN, if_neg l1, if_pos l2]
            rw [e1] at hcmp
            go_wp2_with (go_at_call 124; refine hcmp.mono ?_; rintro e w' ⟨rfl, rfl⟩)
            exact bodyPost_ret (v := .int .i64 1) (by simp [results, Tryz.results125, go_sem]) rfl ⟨by rw [e2], rfl⟩
          · have e1 : cmpI (x : Int) (y : Int) = 0 := by unfold cmpI; rw [if_neg (by omega), if_neg (by omega)]
            have e2 : cmpN a b = cmpN (a.drop (k + 1)) (b.drop (k + 1)) := by rw [he, cmpN, if_neg l1, if_neg l2]
            rw [e1] at hcmp
            go_wp2_with (go_at_call 124; refine hcmp.mono ?_; rintro e w' ⟨rfl, rfl⟩)
            go_roundw
            case rel => exact ⟨k + 1, by omega, by omega, by simp, e2, trivial⟩
            case measure => simp [intOf] <;> omega
      · have e2 : cmpN a b = 1 := by
          rw [he, drop_get hx, List.drop_of_length_le (l := b) (by omega)]
          rfl
        have hkb' : b.length ≤ k := by omega
        clear hBc h1 h2
        go_wp2
        exact bodyPost_ret (v := .int .i64 1) (by simp [results, Tryz.results125, go_sem]) rfl ⟨by rw [e2], rfl⟩
    · obtain rfl : k = a.length := by omega
      clear h1 h2
      by_cases hlb : a.length < b.length
      · obtain ⟨y, hy⟩ : ∃ y, b[a.length]? = some y := ⟨_, List.getElem?_eq_getElem hlb⟩
        have e2 : cmpN a b = -1 := by
          rw [he, drop_get hy, List.drop_of_length_le (l := a) (Nat.le_refl _)]
          rfl
        go_wp2
        exact bodyPost_ret (v := .int .i64 (-1)) (by simp [results, Tryz.results125, go_sem]) rfl ⟨by rw [e2], rfl⟩
      · have e2 : cmpN a b = 0 := by
          rw [he, List.drop_of_length_le (l := a) (Nat.le_refl _), List.drop_of_length_le (l := b) (by omega)]
          rfl
        go_wp2
        exact bodyPost_ret (v := .int .i64 0) (by simp [results, Tryz.results125, go_sem]) rfl ⟨by rw [e2], rfl⟩

def orI (x y z : Int) : Int := if x ≠ 0 then x else if y ≠ 0 then y else z
set_option maxRecDepth 100000 in
set_option maxHeartbeats 4000000 in
theorem or_walk (B : Nat) (x y z : Int) (w : World) (h0 : w.cell? ⟨B, 0, none⟩ = some (.int .i64 x)) (h1 : w.cell? ⟨B, 1, none⟩ = some (.int .i64 y)) (h2 : w.cell? ⟨B, 2, none⟩ = some (.int .i64 z)) :
    Calls Tryz.prog 123 #[.slice (some ⟨B, 0, none⟩) 3 3] w fun e w' => e = .returned (.int .i64 (orI x y z)) ∧ w' = w := by
  have hc : ∀ k, k < 3 → ∃ c, w.cell? ⟨B, k, none⟩ = some (.int .i64 c) ∧ (k = 0 → c = x) ∧ (k = 1 → c = y) ∧ (k = 2 → c = z) := by
    intro k hk
    rcases (by omega : k = 0 ∨ k = 1 ∨ k = 2) with rfl | rfl | rfl
    · exact ⟨x, h0, fun _ => rfl, fun h => by omega, fun h => by omega⟩
    · exact ⟨y, h1, fun h => by omega, fun _ => rfl, fun h => by omega⟩
    · exact ⟨z, h2, fun h => by omega, fun h => by omega, fun _ => rfl⟩
  clear h0 h1 h2
  obtain ⟨r, hr⟩ : ∃ r, orI x y z = r := ⟨_, rfl⟩
  rw [hr]
  go_enter Tryz.func123, Tryz.ntmps123
  go_wp2
  go_loopw [8] (fun i wr => ∃ (k : Nat), k ≤ 3 ∧ i = .int .i64 (k : Nat) ∧ (1 ≤ k → x = 0) ∧ (2 ≤ k → y = 0) ∧ (3 ≤ k → z = 0) ∧ wr = w)
    (fun i _ => 3 - (intOf i).toNat)
  case atStart => exact ⟨0, by omega, rfl, fun h => by omega, fun h => by omega, fun h => by omega, rfl⟩
  case round =>
    obtain ⟨k, hk, rfl, hx, hy, hz, rfl⟩ := hrel
    by_cases hlk : k < 3
    · obtain ⟨c, c0, cx, cy, cz⟩ := hc k hlk
      by_cases hc0 : c = 0
      · subst hc0
        have gx : 1 ≤ k + 1 → x = 0 := fun _ => if h : 1 ≤ k then hx h else (cx (by omega)).symm
        have gy : 2 ≤ k + 1 → y = 0 := fun h0 => if h : 2 ≤ k then hy h else (cy (by omega)).symm
        have gz : 3 ≤ k + 1 → z = 0 := fun h0 => if h : 3 ≤ k then hz h else (cz (by omega)).symm
        clear hc cx cy cz
        go_wp2
        go_roundw
        case rel => exact ⟨k + 1, by omega, by simp, gx, gy, gz, trivial⟩
        case measure => simp [intOf] <;> omega
      · have e : r = c := by
          rw [← hr]
          unfold orI
          rcases (by omega : k = 0 ∨ k = 1 ∨ k = 2) with rfl | rfl | rfl
          · rw [← cx rfl, if_pos hc0]
          · rw [hx (by omega), ← cy rfl, if_neg (by simp), if_pos hc0]
          · rw [hx (by omega), hy (by omega), ← cz rfl, if_neg (by simp), if_neg (by simp)]
        clear hc cx cy cz hx hy hz
        go_wp2
        exact bodyPost_ret (v := .int .i64 c) (by simp [results, Tryz.results123, go_sem]) rfl ⟨by rw [e], rfl⟩
    · obtain rfl : k = 3 := by omega
      have e : r = 0 := by
        rw [← hr]
        unfold orI
        rw [hx (by omega), hy (by omega), hz (by omega)]
        rfl
      clear hc hx hy hz
      go_wp2
      exact bodyPost_ret (v := .int .i64 0) (by simp [results, Tryz.results123, go_sem]) rfl ⟨by rw [e], rfl⟩

theorem better_or (a b : List Nat × List Int) : betterP a b = orI (cmpI (b.2.length : Nat) (a.2.length : Nat)) (cmpI (b.1.length : Nat) (a.1.length : Nat)) (cmpN a.1 b.1) := by
  unfold betterP orI cmpI
  simp only [Int.ofNat_lt]
  by_cases h1 : b.2.length < a.2.length
  · simp [h1]
  · by_cases h2 : a.2.length < b.2.length
    · simp [h1, h2]
    · by_cases h3 : b.1.length < a.1.length
      · simp [h1, h2, h3]
      · by_cases h4 : a.1.length < b.1.length
        · simp [h1, h2, h3, h4]
        · simp [h1, h2, h3, h4]

set_option maxRecDepth 100000 in
set_option maxHeartbeats 8000000 in
theorem better_walk (v1 v2 u1 u2 : Value) (a b : List Nat × List Int) (w : World) (h1 : RowI w 0 v1 (natI a.1)) (h2 : RowI w 0 v2 a.2) (h3 : RowI w 0 u1 (natI b.1)) (h4 : RowI w 0 u2 b.2) (ha : a.1.length ≤ 8) (hb : b.1.length ≤ 8) :
    Calls Tryz.prog 99 #[.agg #[v1, v2], .agg #[u1, u2]] w fun e w' => e = .returned (.int .i64 (betterP a b)) ∧ ∃ q os', w' = Sort.grow (w.drewN q) os' := by
  rw [better_or]
  obtain ⟨A, hA⟩ : ∃ A, w.alloc (.cells #[v1, v2] 165) = A := ⟨_, rfl⟩
  obtain ⟨V, hV⟩ : ∃ V, A.alloc (.cells #[u1, u2] 165) = V := ⟨_, rfl⟩
  have sA : A.heap.size = w.heap.size + 1 := by rw [← hA]; simp
  have bA : A.heap[w.heap.size]? = some (.cells #[v1, v2] 165 (0, 0)) := by rw [← hA]; exact heap_alloc_new w _
  have bV : V.heap[w.heap.size]? = some (.cells #[v1, v2] 165 (0, 0)) := by rw [← hV, heap_alloc_old A _ (by omega)]; exact bA
  have bV' : V.heap[w.heap.size + 1]? = some (.cells #[u1, u2] 165 (0, 0)) := by rw [← hV, ← sA]; exact heap_alloc_new A _
  have hBV : Below w.heap.size w V := by rw [← hV, ← hA]; exact ((Below.refl _ w).alloc (Nat.le_refl _) _).alloc (by simp) _
  have hcp := compare_walk v1 u1 a.1 b.1 V.drew (h1.step hBV.drew) (h3.step hBV.drew) ha hb
  obtain ⟨a1, c1, rfl, _⟩ := h1
  obtain ⟨a2, c2, rfl, _⟩ := h2
  obtain ⟨a3, c3, rfl, _⟩ := h3
  obtain ⟨a4, c4, rfl, _⟩ := h4
  simp only [natI_len] at hcp hA hV bA bV bV' ⊢
  have q0 : V.cell? ⟨w.heap.size, 0, none⟩ = some (.slice a1 a.1.length c1) := by simp [World.cell?, bV]
  have q1 : V.cell? ⟨w.heap.size, 1, none⟩ = some (.slice a2 a.2.length c2) := by simp [World.cell?, bV]
  have q2 : V.cell? ⟨w.heap.size + 1, 0, none⟩ = some (.slice a3 b.1.length c3) := by simp [World.cell?, bV']
  have q3 : V.cell? ⟨w.heap.size + 1, 1, none⟩ = some (.slice a4 b.2.length c4) := by simp [World.cell?, bV']
  have k1 := cmp_walk (b.2.length : Nat) (a.2.length : Nat) V.drew
  have k2 := cmp_walk (b.1.length : Nat) (a.1.length : Nat) V.drew
  generalize cmpI (b.2.length : Nat) (a.2.length : Nat) = x at k1 ⊢
  generalize cmpI (b.1.length : Nat) (a.1.length : Nat) = y at k2 ⊢
  generalize cmpN a.1 b.1 = z at hcp ⊢
  have hor := or_walk V.heap.size x y z (V.drew.alloc (.cells #[.int .i64 x, .int .i64 y, .int .i64 z] 3)) (by simp only [World.cell?, show V.heap.size = V.drew.heap.size from rfl, heap_alloc_new]; rfl) (by simp only [World.cell?, show V.heap.size = V.drew.heap.size from rfl, heap_alloc_new]; rfl) (by simp only [World.cell?, show V.heap.size = V.drew.heap.size from rfl, heap_alloc_new]; rfl)
  have hend : V.drew.alloc (.cells #[.int .i64 x, .int .i64 y, .int .i64 z] 3) = Sort.grow (w.drewN 1) #[.cells #[.slice a1 a.1.length c1, .slice a2 a.2.length c2] 165 (0, 0), .cells #[.slice a3 b.1.length c3, .slice a4 b.2.length c4] 165 (0, 0), .cells #[.int .i64 x, .int .i64 y, .int .i64 z] 3 (0, 0)] := by
    rw [← hV, ← hA]
    rw [Sort.alloc_eq_grow, Sort.alloc_eq_grow, Sort.alloc_eq_grow, Sort.drew_grow, Sort.drew_grow, Sort.grow_grow, Sort.grow_grow]
    rfl
  go_enter Tryz.func99, Tryz.ntmps99
  go_wp2
  clear hA hV bA bV bV' hBV sA
  go_still_tail 19, (by kernel_rfl)
  still_call k1
  repeat still_step
  still_call k2
  repeat still_step
  still_call hcp
  repeat still_step
  refine wpStill_nil ?_
  change wpList _ _ _ _ _ V.drew
  rw [hend] at hor
  go_wp2_with (go_at_call 123; refine hor.mono ?_; rintro e w' ⟨rfl, rfl⟩)
  exact bodyPost_ret (v := .int .i64 (orI x y z)) (by simp [results, Tryz.results99, go_sem]) rfl ⟨rfl, 1, _, rfl⟩

end Go.Proofs.YtpnpdkgdgfkpfaaGreatDoor.Vm

/- vote.sets, walked. -/
namespace Go.Proofs.YtpnpdkgdgfkpfaaGreatDoor.Vm
open Go Go.Proofs Go.RowKit
set_option linter.unusedVariables false
set_option linter.unusedSimpArgs false

theorem info165 : (Tryz.prog.info? 165).map (fun i => (i.zero, i.size, i.bytes)) = some (some (.agg #[.slice none 0 0, .slice none 0 0]), 2, 48) := by kernel_rfl

def rowS (H : Nat → Value × Value) (k : Nat) : List Value := (List.range k).flatMap fun j => [(H j).1, (H j).2]
theorem rowS_succ (H : Nat → Value × Value) (k : Nat) : rowS H (k + 1) = rowS H k ++ [(H k).1, (H k).2] := by
  simp [rowS, List.range_succ]
theorem rowS_congr {H H' : Nat → Value × Value} {k : Nat} (h : ∀ j, j < k → H j = H' j) : rowS H k = rowS H' k := by
  unfold rowS
  induction k with
  | zero => rfl
  | succ k ih =>
    rw [List.range_succ, List.flatMap_append, List.flatMap_append, ih fun j hj => h j (by omega)]
    simp [h k (by omega)]

def setsP (cb : Nat → Bool) (n : Nat) (cs : List Int) (m : Nat) : List (List Nat × List Int) := ((List.range m).filter cb).map (setP n cs)
theorem setsP_succ (cb : Nat → Bool) (n : Nat) (cs : List Int) (m : Nat) : setsP cb n cs (m + 1) = setsP cb n cs m ++ if cb m then [setP n cs m] else [] := by
  unfold setsP
  rw [List.range_succ, List.filter_append, List.map_append]
  cases h : cb m <;> simp [h]
theorem setsP_len (cb : Nat → Bool) (n : Nat) (cs : List Int) (m : Nat) : (setsP cb n cs m).length ≤ m := by
  unfold setsP
  rw [List.length_map]
  exact Nat.le_trans (List.length_filter_le _ _) (by simp)

structure SetAt (lo : Nat) (out : Option Nat) (W : World) (p : Value × Value) (s : List Nat × List Int) : Prop where
  m : RowI W lo p.1 (natI s.1)
  c : RowI W lo p.2 s.2
  mb : ∀ b, p.1.ownBlock = some b → b < W.heap.size ∧ out ≠ some b ∧ p.2.ownBlock ≠ some b
  cb : ∀ b, p.2.ownBlock = some b → b < W.heap.size ∧ out ≠ some b
theorem SetAt.keep {lo : Nat} {out out' : Option Nat} {W W' : World} {p : Value × Value} {s : List Nat × List Int} (h : SetAt lo out W p s) (hs : W.heap.size ≤ W'.heap.size) (hb : ∀ b, b < W.heap.size → out ≠ some b → W'.heap[b]? = W.heap[b]?) (ho : ∀ b, out' = some b → out = some b ∨ W.heap.size ≤ b) : SetAt lo out' W' p s where
  m := h.m.keep hs fun b e _ hlt => hb b hlt (h.mb b e).2.1
  c := h.c.keep hs fun b e _ hlt => hb b hlt (h.cb b e).2
  mb b e := ⟨Nat.lt_of_lt_of_le (h.mb b e).1 hs, fun h' => (ho b h').elim (fun x => (h.mb b e).2.1 x) (fun x => absurd (h.mb b e).1 (by omega)), (h.mb b e).2.2⟩
  cb b e := ⟨Nat.lt_of_lt_of_le (h.cb b e).1 hs, fun h' => (ho b h').elim (fun x => (h.cb b e).2 x) (fun x => absurd (h.cb b e).1 (by omega))⟩

structure SetsR (w W : World) (H : Nat → Value × Value) (out : Value) (ss : List (List Nat × List Int)) : Prop where
  below : Below w.heap.size w W
  own : W.ownsRow w.heap.size 165 2 out ss.length (rowS H ss.length)
  el : ∀ j s, ss[j]? = some s → SetAt w.heap.size out.ownBlock W (H j) s
theorem SetsR.step {w W W' : World} {H : Nat → Value × Value} {out : Value} {ss : List (List Nat × List Int)} (h : SetsR w W H out ss) (hB : Below W.heap.size W W') : SetsR w W' H out ss where
  below := h.below.trans (hB.mono h.below.size)
  own := h.own.kept (row := none) ⟨hB.os, hB.tape, hB.output, hB.size, fun k hk _ => hB.block k hk⟩ (by cases out.ownBlock <;> simp)
  el j s hj := (h.el j s hj).keep hB.size (fun b hb _ => hB.block b hb) (fun b e => .inl e)
theorem setsR_next {w W w1 : World} {H : Nat → Value × Value} {out : Value} {ss : List (List Nat × List Int)} {p : Value × Value} {s : List Nat × List Int} {o : Obj} {gg cap : Nat} (h : SetsR w W H out ss) (hs : SetAt w.heap.size out.ownBlock W p s) (hgrow : (W.alloc o).grownBy w1 out.ownBlock)
    (hown : w1.ownsRow w.heap.size 165 2 (.slice (some ⟨gg, 0, none⟩) (ss.length + 1) cap) (ss.length + 1) (rowS H ss.length ++ [p.1, p.2])) (hat : out.ownBlock = some gg ∨ gg = W.heap.size + 1) :
    SetsR w w1 (fun j => if j = ss.length then p else H j) (.slice (some ⟨gg, 0, none⟩) (ss.length + 1) cap) (ss ++ [s]) where
  below := below_grown (h.below.alloc h.below.size o) hgrow (Nat.le_refl _) (fun k hk => (h.own.lt k hk).1)
  own := by
    rw [List.length_append, List.length_singleton, rowS_succ, if_pos rfl, rowS_congr (H' := H) fun j hj => if_neg (by omega)]
    exact hown
  el j x hj := by
    have hsz : W.heap.size ≤ w1.heap.size := by have := hgrow.size; simp at this; omega
    have hb : ∀ b, b < W.heap.size → out.ownBlock ≠ some b → w1.heap[b]? = W.heap[b]? := fun b hb hn => (hgrow.block b (by simp; omega) (Ne.symm hn)).trans (heap_alloc_old W o hb)
    have ho : ∀ b, (Value.slice (some ⟨gg, 0, none⟩) (ss.length + 1) cap).ownBlock = some b → out.ownBlock = some b ∨ W.heap.size ≤ b := fun b e => by
      have e : gg = b := by simpa [Value.ownBlock] using e
      subst e
      exact hat.imp id (fun h => by omega)
    by_cases hjl : j < ss.length
    · rw [if_neg (by omega)]
      rw [List.getElem?_append_left hjl] at hj
      exact (h.el j x hj).keep hsz hb ho
    · have hj' := (List.getElem?_eq_some_iff.1 hj).1
      simp at hj'
      obtain rfl : j = ss.length := by omega
      simp at hj
      subst hj
      rw [if_pos rfl]
      exact hs.keep hsz hb ho

set_option maxRecDepth 100000 in
set_option maxHeartbeats 16000000 in
theorem sets_walk (cv lv : Value) (cs : List Int) (n lc : Nat) (la : Option Addr) (cb : Nat → Bool) (w : World) (hc : RowI w 0 cv cs) (hl : lv = .slice la n lc) (hn : n ≤ 8) (hcs : cs.length = n) (hT : TabAt 5 Lib.deBruijn64tab w) (h5 : 5 < w.heap.size)
    (hclique : ∀ m W v, m < 2 ^ n → Below w.heap.size w W → RowI W w.heap.size v (natI (maskL n m)) → Calls Tryz.prog 119 #[lv, v] W fun u w' => u = .returned (.bool (cb m)) ∧ Below W.heap.size W w') :
    Calls Tryz.prog 97 #[cv, lv] w fun u w' => ∃ v H, u = .returned v ∧ SetsR w w' H v (setsP cb n cs (2 ^ n)) := by
  subst hl
  subst hcs
  have hcn := hc
  obtain ⟨ca, cc, rfl, hcI⟩ := hc
  have htz : ∀ x W, x < 256 → Below w.heap.size w W → Calls Tryz.prog 118 #[.int .u64 (x : Nat)] W fun e w' => e = .returned (.int .i64 (Lib.ctz 64 x)) ∧ w' = W := fun x W hx hW =>
    Any7.bits_TrailingZeros Tryz.laysS27 x (by omega) W (fun _ j hj => (hW.cell (p := ⟨5, j, none⟩) h5).trans (hT j hj))
  obtain ⟨i3, hi3, ha0, ha1, ha2⟩ := info_parts info3
  obtain ⟨i0, hi, hz0, hz1, hz2⟩ := info_parts info165
  obtain ⟨M, hM⟩ : ∃ M, 2 ^ cs.length = M := ⟨_, rfl⟩
  have hM8 : M ≤ 256 := by rw [← hM]; exact Nat.pow_le_pow_right (n := 2) (by omega) hn
  have hMI : ((2 : Int) ^ cs.length) = (M : Int) := by rw [← hM]; simp
  have hw2 : IntKind.u64.wrap ((2 : Int) ^ cs.length) = (M : Int) := by rw [hMI, IntKind.wrap_u64]; omega
  have hmask : ∀ m, m < M → maskL cs.length m = maskL 8 m := fun m hm => maskL_8 cs.length (by omega) m (by omega)
  have hstep := maskL_step
  rw [hM] at hclique ⊢
  clear hM hMI hcI
  go_enter Tryz.func97, Tryz.ntmps97
  go_wp2
  go_loopw [5, 6] (fun u i wr => ∃ (m : Nat) (v : Value) (H : Nat → Value × Value), m ≤ M ∧ i = .int .u64 (m : Nat) ∧ v = u ∧ SetsR w wr H v (setsP cb cs.length cs m))
    (fun _ i _ => M - (intOf i).toNat)
  case atStart => exact ⟨0, _, fun _ => (.slice none 0 0, .slice none 0 0), Nat.zero_le _, rfl, rfl, Below.refl _ _, World.ownsRow_nil _ _ _ _, fun j s h => by simp [setsP] at h⟩
  case round =>
    obtain ⟨m, v, H, hm, rfl, hv, hR⟩ := hrel
    subst hv
    revert hR
    generalize wr = w0
    intro hR
    by_cases hlm : m < M
    · go_wp2
      go_loopw [7, 8] (fun u i wq => ∃ (r : Nat) (pre : List Nat) (x : Value), r < 256 ∧ i = .int .u64 (r : Nat) ∧ x = u ∧ wq.ownsRow w0.heap.size 3 1 x pre.length (ints (natI pre)) ∧ pre ++ maskL 8 r = maskL cs.length m ∧ Below w0.heap.size w0 wq)
        (fun _ i _ => (intOf i).toNat)
      case atStart => exact ⟨m, [], _, by omega, rfl, rfl, World.ownsRow_nil _ _ _ _, by rw [hmask m hlm]; rfl, Below.refl _ _⟩
      case round =>
        obtain ⟨r, pre, x, hr, rfl, hx, hown, hpre, hB⟩ := hrel
        subst hx
        by_cases hr0 : r = 0
        · subst hr0
          rw [maskL_zero, List.append_nil] at hpre
          subst hpre
          have hR1 := hR.step hB
          have hrow := (RowI.of_owns hown).mono hR.below.size
          have hcl := hclique m wr x hlm hR1.below hrow
          have hsx := hown.lt
          have hsz := hB.size
          clear htz hstep hmask hT
          cases hcb : cb m with
          | false =>
            rw [hcb] at hcl
            obtain ⟨xa, xl, xc, rfl⟩ : ∃ a l c, x = .slice a l c := by obtain ⟨a, c, e, _⟩ := hrow; exact ⟨_, _, _, e⟩
            go_wp2_with (go_at_call 119; refine hcl.mono ?_)
            rintro u W1 ⟨rfl, hB1⟩
            have hR2 := hR1.step hB1
            have e1 : setsP cb cs.length cs (m + 1) = setsP cb cs.length cs m := by rw [setsP_succ, hcb]; simp
            rw [← e1] at hR2
            clear hR1 hB1 hB hR hcl hclique hrow hown
            go_wp2
            go_roundw
            case rel => exact ⟨m + 1, v, H, by omega, by simp, rfl, hR2⟩
            case measure => simp [intOf] <;> omega
          | true =>
            rw [hcb] at hcl
            obtain ⟨xa, xl, xc, rfl⟩ : ∃ a l c, x = .slice a l c := by obtain ⟨a, c, e, _⟩ := hrow; exact ⟨_, _, _, e⟩
            go_wp2_with (go_at_call 119; refine hcl.mono ?_)
            rintro u W1 ⟨rfl, hB1⟩
            have hR2 := hR1.step hB1
            have hrow2 := hrow.step hB1
            have hcw := causes_walk (.slice ca cs.length cc) (.slice xa xl xc) cs (maskL cs.length m) W1 (hcn.step hR2.below) (hrow2.mono (Nat.zero_le _)) (fun k hk => maskL_lt hk) (Nat.le_trans (maskL_len _ _) hn) hn
            have hs1 := hB1.size
            clear hcl hR1 hrow hB1 hclique
            go_wp2_with (go_at_call 120; refine hcw.mono ?_)
            rintro u W2 ⟨c, rfl, hcown, hB2⟩
            have hR3 := hR2.step hB2
            have hs2 := hB2.size
            have hvl := hR.own.lt
            have hcl := hcown.lt
            have hset : SetAt w.heap.size v.ownBlock W2 (.slice xa xl xc, c) (setP cs.length cs m) :=
              ⟨hrow2.step hB2, (RowI.of_owns hcown).mono hR2.below.size,
                fun b e => ⟨by have := hsx b e; omega, fun h => by have := hsx b e; have := hvl b h; omega, fun h => by have := hsx b e; have := hcl b h; omega⟩,
                fun b e => ⟨(hcl b e).2, fun h => by have := hcl b e; have := hvl b h; omega⟩⟩
            obtain ⟨ca2, cl2, cc2, rfl⟩ : ∃ a l c', c = .slice a l c' := by obtain ⟨a, c', e, _⟩ := RowI.of_owns hcown; exact ⟨_, _, _, e⟩
            have hX := hR3.own.alloc (.cells #[.slice xa xl xc, .slice ca2 cl2 cc2] 165)
            have hsl := setsP_len cb cs.length cs m
            have hbs := hR3.below.size
            obtain ⟨k, hk⟩ : ∃ k, (setsP cb cs.length cs m).length = k := ⟨_, rfl⟩
            rw [hk] at hX hsl
            clear hcown hrow2 hcw hR2 hR hB hown hsx hcl hvl
            go_wp2_with (at_builtin; refine wpList_append_lies _ rfl _ _ 161 rfl w.heap.size 165 i0 (.agg #[.slice none 0 0, .slice none 0 0]) 2 48 Tryz.underlying161 hi hz0 hz1 hz2 rfl (by decide) _ _ _ rfl hX ⟨W2.heap.size, 0, none⟩ 1 1 [.slice xa xl xc, .slice ca2 cl2 cc2] rfl rfl (World.news_of_block (cs := #[.slice xa xl xc, .slice ca2 cl2 cc2]) (t := 165) (fr := (0, 0)) (heap_alloc_new _ _)) (by intro u hu; simp only [List.mem_cons, List.not_mem_nil, or_false] at hu; rcases hu with rfl | rfl <;> rfl) (by omega) (by unfold maxLen; omega) (by omega) (by simp; omega) (W2.heap.size + 1) (by simp) ?_; intro gg cap w1 hown2 hgrow hat hltg)
            rw [← hk] at hown2
            have hN := setsR_next hR3 hset hgrow hown2 hat
            have e1 : setsP cb cs.length cs (m + 1) = setsP cb cs.length cs m ++ [setP cs.length cs m] := by rw [setsP_succ, hcb]; simp
            rw [← e1, hk] at hN
            clear hown2 hgrow hR3 hset hX
            go_wp2
            go_roundw
            case rel => exact ⟨m + 1, _, _, by omega, by simp, rfl, hN⟩
            case measure => simp [intOf] <;> omega
        · have hr1 : ¬ ((r : Int) = 0) := by omega
          have hz := htz r wr hr (hR.below.trans (hB.mono hR.below.size))
          obtain ⟨t, ht⟩ : ∃ t, Lib.ctz 64 r = t := ⟨_, rfl⟩
          obtain ⟨g1, g2⟩ := hstep r hr hr0
          rw [ht] at hz g1
          rw [g1] at hpre
          have hlen : pre.length ≤ cs.length := by
            have := congrArg List.length hpre
            have h2 := maskL_len cs.length m
            simp at this
            omega
          have hand : bits BinOp.and IntKind.u64 (r : Int) ((r : Int) - 1) = ((r &&& (r - 1) : Nat) : Int) := by
            rw [show ((r : Int) - 1) = ((r - 1 : Nat) : Int) by omega]
            exact bits_and_u64_nat r (r - 1) (by omega) (by omega)
          have hX := hown.alloc (.cells #[.int .i64 (t : Nat)] 3)
          have hsz := hB.size
          clear hclique hmask hstep htz hcn hR
          go_wp2_with (first
            | (go_at_call 118; refine hz.mono ?_; rintro e w' ⟨rfl, hw'⟩; rw [hw']; clear hw')
            | (at_builtin; refine wpList_append_lies _ rfl _ _ 22 rfl w0.heap.size 3 i3 (.int .i64 0) 1 8 Tryz.underlying22 hi3 ha0 ha1 ha2 rfl (by decide) _ _ _ rfl hX ⟨wr.heap.size, 0, none⟩ 1 1 [.int .i64 (t : Nat)] rfl rfl (World.news_of_block (cs := #[.int .i64 (t : Nat)]) (t := 3) (fr := (0, 0)) (heap_alloc_new _ _)) (by intro u hu; simp only [List.mem_cons, List.not_mem_nil, or_false] at hu; subst hu; rfl) (by omega) (by unfold maxLen; omega) (by omega) (by simp; omega) (wr.heap.size + 1) (by simp) ?_; intro gg cap w1 hown2 hgrow hat hltg))
          have hB2 := below_grown (hB.alloc hsz (.cells #[.int .i64 (t : Nat)] 3)) hgrow (Nat.le_refl _) (fun j hj => (hown.lt j hj).1)
          have hown3 : w1.ownsRow w0.heap.size 3 1 (.slice (some ⟨gg, 0, none⟩) (pre.length + 1) cap) (pre ++ [t]).length (ints (natI (pre ++ [t]))) := by
            rw [List.length_append, natI, List.map_append, ints, List.map_append]
            exact hown2
          have hpre2 : (pre ++ [t]) ++ maskL 8 (r &&& (r - 1)) = maskL cs.length m := by rw [← hpre]; simp
          clear hgrow hown2 hX hown hB hz hand
          go_roundw
          case rel => exact ⟨r &&& (r - 1), pre ++ [t], _, by omega, rfl, rfl, hown3, hpre2, hB2⟩
          case measure => simp [intOf] <;> omega
    · obtain rfl : m = M := by omega
      go_wp2
      exact bodyPost_ret (v := v) (by simp [results, Tryz.results97, go_sem]) rfl ⟨v, H, rfl, hR⟩

end Go.Proofs.YtpnpdkgdgfkpfaaGreatDoor.Vm

/- slices.Equal at ints and slices.SortFunc at sets. -/
namespace Go.Proofs.YtpnpdkgdgfkpfaaGreatDoor.Vm
open Go Go.Proofs Go.RowKit
set_option linter.unusedVariables false
set_option linter.unusedSimpArgs false

set_option maxRecDepth 100000 in
set_option maxHeartbeats 4000000 in
theorem equal_walk (v1 v2 : Value) (a b : List Int) (w : World) (h1 : RowI w 0 v1 a) (h2 : RowI w 0 v2 b) (ha : a.length ≤ 1000) (hb : b.length = a.length) :
    Calls Tryz.prog 100 #[v1, v2] w fun e w' => e = .returned (.bool (decide (a = b))) ∧ ∃ q, w' = w.drewN q := by
  obtain ⟨a1, c1, rfl, h1⟩ := h1
  obtain ⟨a2, c2, rfl, h2⟩ := h2
  rw [hb]
  go_enter Tryz.func100, Tryz.ntmps100
  go_wp2
  go_loopw [13] (fun i wr => ∃ (k q : Nat), k ≤ a.length ∧ i = .int .i64 (k : Nat) ∧ a.take k = b.take k ∧ wr = w.drewN q)
    (fun i _ => a.length - (intOf i).toNat)
  case atStart => exact ⟨0, 0, Nat.zero_le _, rfl, rfl, rfl⟩
  case round =>
    obtain ⟨k, q, hk, rfl, he, rfl⟩ := hrel
    by_cases hlk : k < a.length
    · obtain ⟨x, hx⟩ : ∃ x, a[k]? = some x := ⟨_, List.getElem?_eq_getElem hlk⟩
      obtain ⟨y, hy⟩ : ∃ y, b[k]? = some y := ⟨_, List.getElem?_eq_getElem (by omega)⟩
      obtain ⟨B, rfl, _, _, _, hBc⟩ := h1 (fun e => by rw [e] at hlk; simp at hlk)
      obtain ⟨D, rfl, _, _, _, hDc⟩ := h2 (fun e => by rw [e] at hb; simp at hb; omega)
      have y0 : w.cell? ⟨B, k, none⟩ = some (.int .i64 x) := (hBc k x hx).1
      have y1 : w.cell? ⟨D, k, none⟩ = some (.int .i64 y) := (hDc k y hy).1
      have hq : (w.drewN q).drew = w.drewN (q + 1) := rfl
      have ht : a.take (k + 1) = a.take k ++ [x] := by rw [List.take_add_one, hx]; rfl
      have ht2 : b.take (k + 1) = b.take k ++ [y] := by rw [List.take_add_one, hy]; rfl
      clear hBc hDc h1 h2
      by_cases hxy : x = y
      · subst hxy
        have he2 : a.take (k + 1) = b.take (k + 1) := by rw [ht, ht2, he]
        clear ht ht2 he
        go_wp2
        go_region
        go_wp2
        go_roundw
        case rel => exact ⟨k + 1, q + 1, by omega, by simp, he2, rfl⟩
        case measure => simp [intOf] <;> omega
      · have hne : decide (a = b) = false := decide_eq_false fun e => hxy (by subst e; rw [hx] at hy; simpa using hy)
        clear ht ht2
        go_wp2
        go_region
        go_wp2
        exact bodyPost_ret (v := .bool false) (by simp [results, Tryz.results100, go_sem]) rfl ⟨by rw [hne], q + 1, rfl⟩
    · obtain rfl : k = a.length := by omega
      have heq : decide (a = b) = true := decide_eq_true (by rw [List.take_length, List.take_of_length_le (by omega)] at he; exact he)
      clear h1 h2
      go_wp2
      exact bodyPost_ret (v := .bool true) (by simp [results, Tryz.results100, go_sem]) rfl ⟨by rw [heq], q, rfl⟩

def encV (H : Nat → Value × Value) (i : Nat) : List Value := [(H i).1, (H i).2]
theorem rowS_len (H : Nat → Value × Value) (n : Nat) : (rowS H n).length = 2 * n := by
  induction n with
  | zero => rfl
  | succ n ih => rw [rowS_succ, List.length_append, ih]; simp; omega
theorem rowS_get (H : Nat → Value × Value) : ∀ (n i : Nat), i < n → (rowS H n)[2 * i]? = some (H i).1 ∧ (rowS H n)[2 * i + 1]? = some (H i).2
  | 0, i, h => by omega
  | n + 1, i, h => by
    rw [rowS_succ]
    have hl := rowS_len H n
    by_cases hi : i < n
    · rw [List.getElem?_append_left (by omega), List.getElem?_append_left (by omega)]
      exact rowS_get H n i hi
    · obtain rfl : i = n := by omega
      rw [List.getElem?_append_right (by omega), List.getElem?_append_right (by omega), hl]
      simp [show 2 * i + 1 - 2 * i = 1 by omega]

theorem holds_row {W : World} {lo g cap n : Nat} {H : Nat → Value × Value} (h : W.ownsRow lo 165 2 (.slice (some ⟨g, 0, none⟩) n cap) n (rowS H n)) : lo ≤ g ∧ g < W.heap.size ∧ Sort.HoldsK (encV H) 2 W g 0 (List.range n).toArray := by
  rcases h.2 with ⟨e, _⟩ | ⟨g', cap', cur, e, hb, hg, hn, hm, hs, ht⟩
  · cases e
  · injection e with e1 _ e3
    injection e1 with e1
    injection e1 with e1
    subst e1; subst e3
    have hlt : g < W.heap.size := (Array.getElem?_eq_some_iff.1 hg).1
    refine ⟨hb, hlt, fun j hj => ?_⟩
    have hj' : j < n * 2 := by simpa using hj
    refine ⟨?_, by simp [World.frozen?, hg]⟩
    rw [Sort.get_flatK _ _ _ _ (by simpa using hj')]
    have e1 : (cur.toList.take (n * 2))[j]? = (rowS H n)[j]? := by rw [ht]
    rw [List.getElem?_take, if_pos hj', Array.getElem?_toList] at e1
    have hd : (List.range n).toArray[j / 2]! = j / 2 := by
      have : j / 2 < n := by omega
      simp [getElem!_pos, this]
    rw [hd]
    obtain ⟨r1, r2⟩ := rowS_get H n (j / 2) (by omega)
    simp only [World.cell?, hg, Nat.zero_add, Option.isSome_none, Bool.false_eq_true, if_false]
    rw [e1]
    rcases (by omega : j % 2 = 0 ∨ j % 2 = 1) with h0 | h0
    · rw [show j = 2 * (j / 2) by omega, r1]
      simp [encV]
    · rw [show j = 2 * (j / 2) + 1 by omega, r2]
      simp [encV, show (2 * (j / 2) + 1) / 2 = j / 2 by omega, show (2 * (j / 2) + 1) % 2 = 1 by omega]

theorem sortWorld_old {enc : Nat → List Value} {W : World} {g q : Nat} {dk : Array Nat} {os : Array Obj} {b : Nat} (hb : b < W.heap.size) (hne : b ≠ g) : (sortWorldK enc 2 W g 0 q dk os).heap[b]? = W.heap[b]? := by
  unfold sortWorldK Sort.putRowK
  have h1 : (Sort.grow (Sort.putRow id (Sort.ahead W q) g 0 (Sort.flatK enc 2 dk)) os).heap[b]? = (Sort.putRow id (Sort.ahead W q) g 0 (Sort.flatK enc 2 dk)).heap[b]? := by
    show (_ ++ os)[b]? = _
    exact Array.getElem?_append_left (by simpa [Sort.putRow, Sort.mapBlock, Sort.ahead] using hb)
  rw [h1]
  simp [Sort.putRow, Sort.mapBlock, Sort.ahead, Array.getElem?_modify, Ne.symm hne]
theorem sortWorld_below {enc : Nat → List Value} {W : World} {g q : Nat} {dk : Array Nat} {os : Array Obj} {B : Nat} (hB : B ≤ g) (hg : g < W.heap.size) : Below B W (sortWorldK enc 2 W g 0 q dk os) where
  os := rfl
  tape := rfl
  output := rfl
  size := by
    show W.heap.size ≤ (_ ++ os).size
    rw [Array.size_append]
    simp [Sort.putRowK, Sort.putRow, Sort.mapBlock, Sort.ahead]
  block k hk := sortWorld_old (by omega) (by omega)

theorem agg165 : ∀ w, (isAgg (Tryz.laysF6_ren.t 24)).run Tryz.prog w = .ok true w := fun w => by kernel_rfl
theorem size165 : ∀ w, (Go.sizeOf (Tryz.laysF6_ren.t 24)).run Tryz.prog w = .ok 2 w := fun w => by kernel_rfl

def hdl (H : Nat → Value × Value) (n i : Nat) : Value × Value := if i < n then H i else (.slice none 0 0, .slice none 0 0)

theorem sort_walk {w W : World} {H : Nat → Value × Value} {out : Value} {ss : List (List Nat × List Int)} (h : SetsR w W H out ss) (hn : 0 < ss.length) (h8 : ss.length ≤ 256) (hm : ∀ s, s ∈ ss → s.1.length ≤ 8) :
    ∃ g cap, out = .slice (some ⟨g, 0, none⟩) ss.length cap ∧ Calls Tryz.prog 98 #[out, .func (.func 99) #[] #[]] W fun e w' => e = .returned (.tuple #[]) ∧ w.heap.size ≤ g ∧ g < W.heap.size ∧ Below g W w' ∧ (∀ b, b < W.heap.size → b ≠ g → w'.heap[b]? = W.heap[b]?) ∧ (orderV ss).size = ss.length ∧ (∀ i, i < ss.length → (orderV ss)[i]! < ss.length) ∧
      ∀ i, i < ss.length → w'.cell? ⟨g, 2 * i, none⟩ = some (H (orderV ss)[i]!).1 ∧ w'.cell? ⟨g, 2 * i + 1, none⟩ = some (H (orderV ss)[i]!).2 := by
  have hown := h.own
  rw [rowS_congr (H' := hdl H ss.length) fun j hj => by rw [hdl, if_pos hj]] at hown
  obtain ⟨g, cap, rfl⟩ : ∃ g cap, out = .slice (some ⟨g, 0, none⟩) ss.length cap := by
    rcases hown.2 with ⟨_, h0⟩ | ⟨g, cap, cur, e, _⟩
    · omega
    · exact ⟨g, cap, e⟩
  obtain ⟨hg, hgs, hH⟩ := holds_row hown
  refine ⟨g, cap, rfl, ?_⟩
  have hel : ∀ i, RowI W 0 (hdl H ss.length i).1 (natI (ss.getD i ([], [])).1) ∧ RowI W 0 (hdl H ss.length i).2 (ss.getD i ([], [])).2 ∧ (∀ b, (hdl H ss.length i).1.ownBlock = some b → b < W.heap.size ∧ b ≠ g) ∧ (∀ b, (hdl H ss.length i).2.ownBlock = some b → b < W.heap.size ∧ b ≠ g) := by
    intro i
    unfold hdl
    by_cases hi : i < ss.length
    · rw [if_pos hi]
      obtain ⟨s, hs⟩ : ∃ s, ss[i]? = some s := ⟨_, List.getElem?_eq_getElem hi⟩
      have he := h.el i s hs
      rw [List.getD, hs, Option.getD_some]
      exact ⟨he.m.mono (Nat.zero_le _), he.c.mono (Nat.zero_le _), fun b e => ⟨(he.mb b e).1, fun e2 => (he.mb b e).2.1 (by rw [e2]; rfl)⟩, fun b e => ⟨(he.cb b e).1, fun e2 => (he.cb b e).2 (by rw [e2]; rfl)⟩⟩
    · rw [if_neg hi, List.getD, List.getElem?_eq_none (by omega), Option.getD_none]
      exact ⟨⟨none, 0, rfl, fun h => absurd rfl h⟩, ⟨none, 0, rfl, fun h => absurd rfl h⟩, fun b e => by simp [Value.ownBlock] at e, fun b e => by simp [Value.ownBlock] at e⟩
  have hlen : ∀ i, (ss.getD i ([], [])).1.length ≤ 8 := fun i => by
    by_cases hi : i < ss.length
    · rw [List.getD, List.getElem?_eq_getElem hi, Option.getD_some]
      exact hm _ (List.getElem_mem hi)
    · rw [List.getD, List.getElem?_eq_none (by omega), Option.getD_none]
      simp
  have hcmp : CmpLays Tryz.prog 99 #[] (encV (hdl H ss.length)) 2 (fun x y => betterP (ss.getD x ([], [])) (ss.getD y ([], []))) g 0 (List.range ss.length).toArray.size W := by
    intro m os dk hdk x y
    have hk : ∀ i, RowI (sortWorldK (encV (hdl H ss.length)) 2 W g 0 m dk os) 0 (hdl H ss.length i).1 (natI (ss.getD i ([], [])).1) ∧ RowI (sortWorldK (encV (hdl H ss.length)) 2 W g 0 m dk os) 0 (hdl H ss.length i).2 (ss.getD i ([], [])).2 := fun i => by
      obtain ⟨e1, e2, e3, e4⟩ := hel i
      have hs := (sortWorld_below (enc := encV (hdl H ss.length)) (q := m) (dk := dk) (os := os) (B := 0) (Nat.zero_le _) hgs).size
      exact ⟨e1.keep hs fun b e _ hb => sortWorld_old hb (e3 b e).2, e2.keep hs fun b e _ hb => sortWorld_old hb (e4 b e).2⟩
    exact better_walk _ _ _ _ _ _ _ (hk x).1 (hk x).2 (hk y).1 (hk y).2 (hlen x) (hlen y)
  have hsort := AnyQ.slices_SortFunc_eq Tryz.laysF6 2 agg165 size165 (encV (hdl H ss.length)) (fun _ => rfl) (fun x v hv => by
      simp only [encV, List.mem_cons, List.not_mem_nil, or_false] at hv
      obtain ⟨⟨a1, c1, e1, _⟩, ⟨a2, c2, e2, _⟩, _⟩ := hel x
      rcases hv with rfl | rfl
      · rw [e1]; rfl
      · rw [e2]; rfl) (fun x y => betterP (ss.getD x ([], [])) (ss.getD y ([], []))) (betterP_swo fun x => ss.getD x ([], [])) 99 #[] g 0 cap (List.range ss.length).toArray W (enters_of Tryz.func99 (by kernel_rfl) rfl) hcmp hH hgs (by simp; omega)
  have hperm := Sort.pdq_sorts (ltOf fun x y => betterP (ss.getD x ([], [])) (ss.getD y ([], []))) (betterP_swo fun x => ss.getD x ([], [])) (List.range ss.length).toArray 0 ss.length (Lib.bitLen ss.length) true true (Nat.zero_le _) (by simp) (Or.inl rfl)
  have hord : Sort.pdq (ltOf fun x y => betterP (ss.getD x ([], [])) (ss.getD y ([], []))) (List.range ss.length).toArray 0 ss.length (Lib.bitLen ss.length) true true = orderV ss := rfl
  rw [hord] at hperm
  have hsz : (List.range ss.length).toArray.size = ss.length := by simp
  rw [hsz] at hsort
  rw [hord] at hsort
  have hos : (orderV ss).size = ss.length := hperm.1.1.trans hsz
  refine hsort.mono ?_
  rintro e w' ⟨rfl, q, os, rfl⟩
  have hlt : ∀ i, i < ss.length → (orderV ss)[i]! < ss.length := by
    intro i hi
    have hp := hperm.1.2.2
    have e : (orderV ss).extract 0 ss.length = orderV ss := by rw [← hos]; simp
    have e2 : (List.range ss.length).toArray.extract 0 ss.length = (List.range ss.length).toArray := by rw [← hsz]; simp
    rw [e, e2] at hp
    have hmem : (orderV ss)[i]! ∈ (orderV ss).toList := by
      rw [getElem!_pos (orderV ss) i (by omega)]
      simp
    simpa using hp.mem_iff.1 hmem
  refine ⟨rfl, hg, hgs, sortWorld_below (Nat.le_refl _) hgs, fun b hb hne => sortWorld_old hb hne, hos, hlt, fun i hi => ?_⟩
  have hH2 := holdsK_sortWorldK_c (encV (hdl H ss.length)) 2 W g 0 (List.range ss.length).toArray (orderV ss) q os hH hgs (by rw [hos, hsz])
  have hc0 := (Sort.HoldsK.cell hH2 (i := i) (c := 0) (by omega) (by decide)).1
  have hc1 := (Sort.HoldsK.cell hH2 (i := i) (c := 1) (by omega) (by decide)).1
  have hd : hdl H ss.length (orderV ss)[i]! = H (orderV ss)[i]! := by rw [hdl, if_pos (hlt i hi)]
  rw [show 0 + i * 2 + 0 = 2 * i by omega] at hc0
  rw [show 0 + i * 2 + 1 = 2 * i + 1 by omega] at hc1
  rw [hc0, hc1]
  simp [encV, hd]

end Go.Proofs.YtpnpdkgdgfkpfaaGreatDoor.Vm

/- vote.Decide, walked. -/
namespace Go.Proofs.YtpnpdkgdgfkpfaaGreatDoor.Vm
open Go Go.Proofs Go.RowKit
set_option linter.unusedVariables false
set_option linter.unusedSimpArgs false

def tieAt (ss : List (List Nat × List Int)) (i : Nat) : Bool := (ss.getD i ([], [])).2.length == (ss.getD (orderV ss)[0]! ([], [])).2.length && (ss.getD i ([], [])).2 != (ss.getD (orderV ss)[0]! ([], [])).2
theorem ord_mem {ss : List (List Nat × List Int)} {k : Nat} (hk : k < (orderV ss).size) : (orderV ss)[k]! ∈ (orderV ss).toList := by
  rw [getElem!_pos (orderV ss) k hk]
  simp
theorem voteP_tie {ss : List (List Nat × List Int)} {k : Nat} (hk : k < (orderV ss).size) (h : tieAt ss (orderV ss)[k]! = true) : voteP ss = ([], [], true) := by
  unfold voteP
  exact if_pos (List.any_eq_true.2 ⟨_, ord_mem hk, h⟩)
theorem voteP_best {ss : List (List Nat × List Int)} (h : ∀ k, k < (orderV ss).size → tieAt ss (orderV ss)[k]! = false) : voteP ss = ((ss.getD (orderV ss)[0]! ([], [])).1, (ss.getD (orderV ss)[0]! ([], [])).2, false) := by
  unfold voteP
  refine if_neg fun ha => ?_
  obtain ⟨x, hx, h2⟩ := List.any_eq_true.1 ha
  obtain ⟨k, hk, rfl⟩ := Array.mem_iff_getElem.1 (Array.mem_toList_iff.1 hx)
  have h3 := h k hk
  rw [getElem!_pos (orderV ss) k hk] at h3
  exact absurd (h3.symm.trans h2) (by decide)

theorem below_set {B b i : Nat} {v : Value} {w W : World} (h : Below B w W) (hb : B ≤ b) (hs : B ≤ w.heap.size) : Below B w (W.setCell ⟨b, i, none⟩ v) := by
  have g := Lib.grownBy_setCell W b i v
  exact ⟨g.os.trans h.os, g.tape.trans h.tape, g.output.trans h.output, Nat.le_trans h.size g.size, fun k hk => if e : k = b then absurd hk (by omega) else (g.block k (by have := h.size; omega) (by simp only [ne_eq, Option.some.injEq]; omega)).trans (h.block k hk)⟩

theorem RowI.set {W : World} {lo b i : Nat} {v y : Value} {xs : List Int} (h : RowI W lo v xs) (hb : b < lo) : RowI (W.setCell ⟨b, i, none⟩ y) lo v xs :=
  h.keep (Lib.grownBy_setCell W b i y).size fun k _ hk hlt => (Lib.grownBy_setCell W b i y).block k hlt (by simp only [ne_eq, Option.some.injEq]; omega)

structure DecF (w W : World) : Prop where
  below : Below w.heap.size w W
  r : W.heap[w.heap.size]? = some (.cells #[.slice none 0 0, .slice none 0 0, .bool false] 59 (0, 0))
theorem DecF.size {w W : World} (h : DecF w W) : w.heap.size + 1 ≤ W.heap.size := by
  have := (Array.getElem?_eq_some_iff.1 h.r).1
  omega
theorem DecF.step {w W W' : World} (h : DecF w W) (hB : Below W.heap.size W W') : DecF w W' :=
  ⟨h.below.trans (hB.mono h.below.size), (hB.block _ (by have := h.size; omega)).trans h.r⟩
theorem DecF.fz {w W : World} (h : DecF w W) (m : Nat) : W.frozen? ⟨w.heap.size, m, none⟩ = false := by simp [World.frozen?, h.r]
theorem DecF.cells {w W : World} (h : DecF w W) : W.cell? ⟨w.heap.size, 0, none⟩ = some (.slice none 0 0) ∧ W.cell? ⟨w.heap.size, 1, none⟩ = some (.slice none 0 0) ∧ W.cell? ⟨w.heap.size, 2, none⟩ = some (.bool false) := by
  simp [World.cell?, h.r]
theorem decF_new (w : World) : DecF w (w.alloc (.cells #[.slice none 0 0, .slice none 0 0, .bool false] 59)) :=
  ⟨(Below.refl _ w).alloc (Nat.le_refl _) _, heap_alloc_new w _⟩

abbrev fixV (f : Int × Int × Int × Int) : Value := .agg #[.int .i64 f.1, .int .i64 f.2.1, .int .i64 f.2.2.1, .int .i64 f.2.2.2]

set_option maxRecDepth 100000 in
set_option maxHeartbeats 16000000 in
theorem decide_walk (cv : Value) (cs : List Int) (la : Option Addr) (lc : Nat) (FX : Nat → Int × Int × Int × Int) (cb : Nat → Bool) (w : World) (hc : RowI w 0 cv cs) (hn : cs.length ≤ 8) (hr : ∀ c, c ∈ cs → 0 ≤ c ∧ c < 8)
    (hf : ∀ j, j < cs.length → ∃ B off, la = some ⟨B, off, none⟩ ∧ B < w.heap.size ∧ w.cell? ⟨B, off + j * 4, none⟩ = some (.int .i64 (FX j).1) ∧ w.cell? ⟨B, off + j * 4 + 1, none⟩ = some (.int .i64 (FX j).2.1) ∧ w.cell? ⟨B, off + j * 4 + 2, none⟩ = some (.int .i64 (FX j).2.2.1) ∧ w.cell? ⟨B, off + j * 4 + 3, none⟩ = some (.int .i64 (FX j).2.2.2))
    (hT : TabAt 5 Lib.deBruijn64tab w) (h5 : 5 < w.heap.size)
    (hagree : ∀ j W, j < cs.length → Below w.heap.size w W → Calls Tryz.prog 96 #[fixV (FX j), fixV (FX j)] W fun u w' => u = .returned (.bool true) ∧ Below W.heap.size W w')
    (hclique : ∀ m W v, m < 2 ^ cs.length → Below w.heap.size w W → RowI W w.heap.size v (natI (maskL cs.length m)) → Calls Tryz.prog 119 #[.slice la cs.length lc, v] W fun u w' => u = .returned (.bool (cb m)) ∧ Below W.heap.size W w')
    (ss : List (List Nat × List Int)) (hss : setsP cb cs.length cs (2 ^ cs.length) = ss) (hne : 0 < ss.length) :
    Calls Tryz.prog 68 #[cv, .slice la cs.length lc] w fun u w' => ∃ vm vc, u = .returned (.tuple #[.agg #[vm, vc, .bool (voteP ss).2.2], .int .i64 0]) ∧ RowI w' w.heap.size vm (natI (voteP ss).1) ∧ RowI w' w.heap.size vc (voteP ss).2.1 ∧ (∀ b, vm.ownBlock = some b → vc.ownBlock ≠ some b) ∧ Below w.heap.size w w' := by
  have hF0 := decF_new w
  have hcn := hc
  obtain ⟨ca, cc, rfl, hcI⟩ := hc
  go_enter Tryz.func68, Tryz.ntmps68
  go_wp2
  go_loopw [26] (fun i wr => ∃ (k : Nat), k ≤ cs.length ∧ i = .int .i64 (k : Nat) ∧ DecF w wr)
    (fun i _ => cs.length - (intOf i).toNat)
  case atStart => exact ⟨0, Nat.zero_le _, rfl, hF0⟩
  case round =>
    obtain ⟨k, hk, rfl, hF⟩ := hrel
    clear hF0
    by_cases hlk : k < cs.length
    · obtain ⟨c, hx⟩ : ∃ x, cs[k]? = some x := ⟨_, List.getElem?_eq_getElem hlk⟩
      obtain ⟨hr1, hr2⟩ := hr c (List.mem_of_getElem? hx)
      obtain ⟨D, rfl, _, hD, _, hDc⟩ := hcI (fun e => by rw [e] at hlk; simp at hlk)
      have y0 := (hF.below.cell (p := ⟨D, k, none⟩) hD).trans (hDc k c hx).1
      obtain ⟨B, off, rfl, hB, f0, f1, f2, f3⟩ := hf k hlk
      replace f0 := (hF.below.cell (p := ⟨B, off + k * 4, none⟩) hB).trans f0
      replace f1 := (hF.below.cell (p := ⟨B, off + k * 4 + 1, none⟩) hB).trans f1
      replace f2 := (hF.below.cell (p := ⟨B, off + k * 4 + 2, none⟩) hB).trans f2
      replace f3 := (hF.below.cell (p := ⟨B, off + k * 4 + 3, none⟩) hB).trans f3
      have hag := hagree k wr.drew hlk hF.below.drew
      generalize FX k = fx at f0 f1 f2 f3 hag
      clear hf hagree hclique hDc hcI
      go_wp2
      go_still_tail 15, (by kernel_rfl)
      change wpList _ _ _ _ _ wr.drew
      go_wp2_with (go_at_call 96; refine hag.mono ?_)
      rintro u W1 ⟨rfl, hB1⟩
      have hF1 := hF.step ((Below.refl _ wr).drew.trans hB1)
      clear hag f0 f1 f2 f3 y0 hF hB1
      go_wp2
      go_roundw
      case rel => exact ⟨k + 1, by omega, by simp, hF1⟩
      case measure => simp [intOf] <;> omega
    · obtain rfl : k = cs.length := by omega
      clear hf hagree hr hk hlk
      have hsw := sets_walk (.slice ca cs.length cc) (.slice la cs.length lc) cs cs.length lc la cb wr (hcn.step hF.below) rfl hn rfl (fun j hj => (hF.below.cell (p := ⟨5, j, none⟩) h5).trans (hT j hj)) (Nat.lt_of_lt_of_le h5 hF.below.size)
        (fun m W v hm hB hrow => hclique m W v hm (hF.below.trans (hB.mono hF.below.size)) (hrow.mono hF.below.size))
      rw [hss] at hsw
      clear hclique hT h5 hcI hcn
      go_wp2_with (go_at_call 97; refine hsw.mono ?_)
      rintro u W2 ⟨v, H, rfl, hS⟩
      have hF2 := hF.step hS.below
      clear hsw
      have hl8 : ss.length ≤ 256 := by
        rw [← hss]
        exact Nat.le_trans (setsP_len _ _ _ _) (Nat.pow_le_pow_right (n := 2) (by omega) hn)
      obtain ⟨g, cap, rfl, hsort⟩ := sort_walk hS hne hl8 (fun s hs => by
        rw [← hss] at hs
        obtain ⟨m, _, rfl⟩ := List.mem_map.1 hs
        exact Nat.le_trans (maskL_len _ _) hn)
      have hws := hF.size
      clear hF
      go_wp2_with (go_at_call 98; refine hsort.mono ?_)
      rintro u W3 ⟨rfl, hg1, hg2, hB3, hold, hos, hlt, hcell⟩
      have hF3 : DecF w W3 := ⟨hF2.below.trans (hB3.mono (by omega)), (hB3.block _ (by omega)).trans hF2.r⟩
      have hel : ∀ i s, ss[i]? = some s → RowI W3 (w.heap.size + 1) (H i).1 (natI s.1) ∧ RowI W3 (w.heap.size + 1) (H i).2 s.2 ∧ ∀ b, (H i).1.ownBlock = some b → (H i).2.ownBlock ≠ some b := fun i s hs => by
        have he := hS.el i s hs
        exact ⟨(he.m.keep hB3.size fun b e _ hb => hold b hb fun e2 => (he.mb b e).2.1 (by rw [e2]; rfl)).mono (by omega), (he.c.keep hB3.size fun b e _ hb => hold b hb fun e2 => (he.cb b e).2 (by rw [e2]; rfl)).mono (by omega), fun b e => (he.mb b e).2.2⟩
      have hget : ∀ i, i < ss.length → ∃ a1 c1 a2 c2, (H (orderV ss)[i]!).1 = .slice a1 (ss.getD (orderV ss)[i]! ([], [])).1.length c1 ∧ (H (orderV ss)[i]!).2 = .slice a2 (ss.getD (orderV ss)[i]! ([], [])).2.length c2 ∧
          RowI W3 (w.heap.size + 1) (.slice a1 (ss.getD (orderV ss)[i]! ([], [])).1.length c1) (natI (ss.getD (orderV ss)[i]! ([], [])).1) ∧ RowI W3 (w.heap.size + 1) (.slice a2 (ss.getD (orderV ss)[i]! ([], [])).2.length c2) (ss.getD (orderV ss)[i]! ([], [])).2 ∧
          (∀ b, (Value.slice a1 (ss.getD (orderV ss)[i]! ([], [])).1.length c1).ownBlock = some b → (Value.slice a2 (ss.getD (orderV ss)[i]! ([], [])).2.length c2).ownBlock ≠ some b) ∧
          W3.cell? ⟨g, i * 2, none⟩ = some (.slice a1 (ss.getD (orderV ss)[i]! ([], [])).1.length c1) ∧ W3.cell? ⟨g, i * 2 + 1, none⟩ = some (.slice a2 (ss.getD (orderV ss)[i]! ([], [])).2.length c2) := fun i hi => by
        obtain ⟨s, hs⟩ : ∃ s, ss[(orderV ss)[i]!]? = some s := ⟨_, List.getElem?_eq_getElem (hlt i hi)⟩
        have hsd : ss.getD (orderV ss)[i]! ([], []) = s := by rw [List.getD, hs]; rfl
        obtain ⟨e1, e2, e3⟩ := hel _ s hs
        obtain ⟨k1, k2⟩ := hcell i hi
        have e1' := e1
        have e2' := e2
        obtain ⟨a1, c1, q1, _⟩ := e1'
        obtain ⟨a2, c2, q2, _⟩ := e2'
        rw [natI_len] at q1
        rw [hsd]
        rw [q1] at e1 e3 k1
        rw [q2] at e2 e3 k2
        exact ⟨a1, c1, a2, c2, q1, q2, e1, e2, e3, by rw [Nat.mul_comm]; exact k1, by rw [Nat.mul_comm]; exact k2⟩
      have hlens : ∀ i, i < ss.length → (ss.getD (orderV ss)[i]! ([], [])).2.length ≤ 1000 := fun i hi => by
        obtain ⟨s, hs⟩ : ∃ s, ss[(orderV ss)[i]!]? = some s := ⟨_, List.getElem?_eq_getElem (hlt i hi)⟩
        rw [List.getD, hs, Option.getD_some]
        have hmem := List.mem_of_getElem? hs
        rw [← hss] at hmem
        obtain ⟨m, _, rfl⟩ := List.mem_map.1 hmem
        have h1 := compact_le ((pickP cs (maskL cs.length m)).mergeSort fun x y => decide (x ≤ y))
        rw [List.length_mergeSort, pickP_len] at h1
        have h2 := maskL_len cs.length m
        show (sortI _).length ≤ 1000
        unfold sortI
        exact Nat.le_trans h1 (by omega)
      have hgs := hB3.size
      clear hel hcell hB3 hold hS hF2 hsort hlt
      obtain ⟨a1, c1, a2, c2, -, -, hm0, hc0, hd0, g0, g1⟩ := hget 0 hne
      rw [Nat.zero_mul] at g0 g1
      obtain ⟨s0, hs0⟩ : ∃ s0, ss.getD (orderV ss)[0]! ([], []) = s0 := ⟨_, rfl⟩
      rw [hs0] at hm0 hc0 hd0 g0 g1
      obtain ⟨V, hV⟩ : ∃ V, W3.alloc (.cells #[.slice a1 s0.1.length c1, .slice a2 s0.2.length c2] 165) = V := ⟨_, rfl⟩
      have hBV : Below W3.heap.size W3 V := by rw [← hV]; exact (Below.refl _ W3).alloc (Nat.le_refl _) _
      have bV : V.heap[W3.heap.size]? = some (.cells #[.slice a1 s0.1.length c1, .slice a2 s0.2.length c2] 165 (0, 0)) := by rw [← hV]; exact heap_alloc_new W3 _
      have hFV := hF3.step hBV
      have hVs : W3.heap.size < V.heap.size := (Array.getElem?_eq_some_iff.1 bV).1
      have hb1 : V.cell? ⟨W3.heap.size, 1, none⟩ = some (.slice a2 s0.2.length c2) := by simp [World.cell?, bV]
      have hb0 : V.cell? ⟨W3.heap.size, 0, none⟩ = some (.slice a1 s0.1.length c1) := by simp [World.cell?, bV]
      have hrep : (orderV ss).size = ss.length := hos
      go_wp2
      clear bV hV g0 g1
      go_loopw [61] (fun i wr => ∃ (k : Nat), k ≤ ss.length ∧ i = .int .i64 (k : Nat) ∧ (∀ j, j < k → tieAt ss (orderV ss)[j]! = false) ∧ Below V.heap.size V wr)
        (fun i _ => ss.length - (intOf i).toNat)
      case atStart => exact ⟨0, Nat.zero_le _, rfl, fun j hj => by omega, Below.refl _ _⟩
      case round =>
        obtain ⟨k, hk, rfl, htie, hBk⟩ := hrel
        have hFk := hFV.step hBk
        have r1 := (hBk.cell (p := ⟨W3.heap.size, 1, none⟩) hVs).trans hb1
        have r0 := (hBk.cell (p := ⟨W3.heap.size, 0, none⟩) hVs).trans hb0
        have hsk := hBk.size
        by_cases hlk : k < ss.length
        · obtain ⟨x1, d1, x2, d2, -, -, hmk, hck, -, q0, q1⟩ := hget k hlk
          obtain ⟨s, hs⟩ : ∃ s, ss.getD (orderV ss)[k]! ([], []) = s := ⟨_, rfl⟩
          rw [hs] at hmk hck q0 q1
          replace q0 := ((hBV.trans (hBk.mono (by omega))).cell (p := ⟨g, k * 2, none⟩) (by show g < _; omega)).trans q0
          replace q1 := ((hBV.trans (hBk.mono (by omega))).cell (p := ⟨g, k * 2 + 1, none⟩) (by show g < _; omega)).trans q1
          obtain ⟨X, hX⟩ : ∃ X, wr.alloc (.cells #[.slice x1 s.1.length d1, .slice x2 s.2.length d2] 165) = X := ⟨_, rfl⟩
          have bX : X.heap[wr.heap.size]? = some (.cells #[.slice x1 s.1.length d1, .slice x2 s.2.length d2] 165 (0, 0)) := by rw [← hX]; exact heap_alloc_new wr _
          have hBX : Below wr.heap.size wr X := by rw [← hX]; exact (Below.refl _ wr).alloc (Nat.le_refl _) _
          have t1 := (hBX.cell (p := ⟨W3.heap.size, 1, none⟩) (by show W3.heap.size < _; omega)).trans r1
          have t2 : X.cell? ⟨wr.heap.size, 1, none⟩ = some (.slice x2 s.2.length d2) := by simp [World.cell?, bX]
          have hBX0 : Below V.heap.size V X := hBk.trans (hBX.mono hsk)
          by_cases hlen : s.2.length = s0.2.length
          · have hcx : RowI X 0 (.slice x2 s.2.length d2) s.2 := ((hck.step (hBV.trans (hBX0.mono (by omega)))).mono (Nat.zero_le _))
            have hcb : RowI X 0 (.slice a2 s0.2.length c2) s0.2 := ((hc0.step (hBV.trans (hBX0.mono (by omega)))).mono (Nat.zero_le _))
            have hl1 := hlens k hlk
            rw [hs] at hl1
            have heq := equal_walk _ _ s.2 s0.2 X hcx hcb hl1 hlen.symm
            rw [hlen] at hX t2 heq q1
            by_cases he : s.2 = s0.2
            · rw [decide_eq_true he] at heq
              go_wp2_with (go_at_call 100; refine heq.mono ?_)
              rintro e W4 ⟨rfl, q, rfl⟩
              have hBn : Below V.heap.size V (X.drewN q) := ⟨hBX0.os, hBX0.tape, hBX0.output, hBX0.size, hBX0.block⟩
              have htie2 : ∀ j, j < k + 1 → tieAt ss (orderV ss)[j]! = false := fun j hj => by
                by_cases hjk : j < k
                · exact htie j hjk
                · obtain rfl : j = k := by omega
                  unfold tieAt
                  rw [hs, hs0, he]
                  simp
              clear heq hget hlens htie hcx hcb hBX0 hBX bX
              go_wp2
              go_roundw
              case rel => exact ⟨k + 1, by omega, by simp, htie2, hBn⟩
              case measure => simp [intOf] <;> omega
            · rw [decide_eq_false he] at heq
              go_wp2_with (go_at_call 100; refine heq.mono ?_)
              rintro e W4 ⟨rfl, q, rfl⟩
              have hBn : Below V.heap.size V (X.drewN q) := ⟨hBX0.os, hBX0.tape, hBX0.output, hBX0.size, hBX0.block⟩
              have hv := voteP_tie (ss := ss) (k := k) (by omega) (by unfold tieAt; rw [hs, hs0, hlen]; simp [he])
              have hFn := hFV.step hBn
              generalize X.drewN q = Y at hFn ⊢
              clear heq hget hlens htie hcx hcb hBX0 hBX bX hX hFk hBn t1 t2 q0 q1 r0 r1 hb0 hb1 hFV hBV hBk
              obtain ⟨z0, z1, z2⟩ := hFn.cells
              have e0 := hFn.fz 0
              have e1 := hFn.fz 1
              have e2 := hFn.fz 2
              have hbl := hFn.below
              go_wp2
              refine bodyPost_ret (v := .tuple #[.agg #[.slice none 0 0, .slice none 0 0, .bool true], .int .i64 0]) (by simp [results, Tryz.results68, go_sem, z0, z1, z2]) rfl ⟨.slice none 0 0, .slice none 0 0, by rw [hv], by rw [hv]; exact ⟨none, 0, rfl, fun h => absurd rfl h⟩, by rw [hv]; exact ⟨none, 0, rfl, fun h => absurd rfl h⟩, fun b h => by simp [Value.ownBlock] at h, ?_⟩
              repeat' (refine below_set ?_ (Nat.le_refl _) (Nat.le_refl _))
              exact hbl
          · have htie2 : ∀ j, j < k + 1 → tieAt ss (orderV ss)[j]! = false := fun j hj => by
              by_cases hjk : j < k
              · exact htie j hjk
              · obtain rfl : j = k := by omega
                unfold tieAt
                rw [hs, hs0]
                simp [hlen]
            clear hget hlens htie hBX bX
            go_wp2
            go_roundw
            case rel => exact ⟨k + 1, by omega, by simp, htie2, hBX0⟩
            case measure => simp [intOf] <;> omega
        · obtain rfl : k = ss.length := by omega
          have hv := voteP_best (ss := ss) fun j hj => htie j (by omega)
          rw [hs0] at hv
          have hmF := hm0.step (hBV.trans (hBk.mono (by omega)))
          have hcF := hc0.step (hBV.trans (hBk.mono (by omega)))
          clear hget hlens htie hFV hBV hb0 hb1
          obtain ⟨z0, z1, z2⟩ := hFk.cells
          have e0 := hFk.fz 0
          have e1 := hFk.fz 1
          have e2 := hFk.fz 2
          have hbl := hFk.below
          go_wp2
          refine bodyPost_ret (v := .tuple #[.agg #[.slice a1 s0.1.length c1, .slice a2 s0.2.length c2, .bool false], .int .i64 0]) (by simp [results, Tryz.results68, go_sem, z0, z1, z2]) rfl ⟨_, _, by rw [hv], ?_, ?_, hd0, ?_⟩
          · rw [hv]
            exact (((hmF.set (Nat.lt_succ_self _)).set (Nat.lt_succ_self _)).set (Nat.lt_succ_self _)).mono (Nat.le_succ _)
          · rw [hv]
            exact (((hcF.set (Nat.lt_succ_self _)).set (Nat.lt_succ_self _)).set (Nat.lt_succ_self _)).mono (Nat.le_succ _)
          · repeat' (refine below_set ?_ (Nat.le_refl _) (Nat.le_refl _))
            exact hbl

end Go.Proofs.YtpnpdkgdgfkpfaaGreatDoor.Vm
