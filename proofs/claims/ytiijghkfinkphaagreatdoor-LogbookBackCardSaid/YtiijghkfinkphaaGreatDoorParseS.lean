import Derived.Test.YtiijghkfinkphaaGreatDoorCopyS
import Derived.Deep.LoopGhost
import Derived.Test.YtiijghkfinkphaaGreatDoorAppS
/- logbook.parse, walked: what the calls inside come to is given. -/
namespace Go.Proofs.YtiijghkfinkphaaGreatDoor.Vm
open Go Go.Proofs Go.RowKit
set_option linter.unusedVariables false
set_option linter.unusedSimpArgs false

def NumsAt (lo : Nat) (c : Value) (n : Nat) (f : Nat → Int) (W : World) : Prop := (∃ a cap, c = .slice a 0 cap ∧ n = 0) ∨ ∃ b off cap, c = .slice (some ⟨b, off, none⟩) n cap ∧ b < W.heap.size ∧ lo ≤ b ∧ n ≤ cap ∧ ∀ j, j < n → W.cell? ⟨b, off + j, none⟩ = some (.int .i64 (f j))

theorem info3 : (Tryz.prog.info? 3).map (fun i => (i.zero, i.size, i.bytes)) = some (some (.int .i64 0), 1, 8) := by kernel_rfl

structure PaR (w W2 : World) (nums : Nat → Int) (k : Nat) (v : Value) (W : World) : Prop where
  below : Below w.heap.size w W
  keep : Below W2.heap.size W2 W
  row : W.ownsRow W2.heap.size 3 1 v k ((List.range k).map fun j => .int .i64 (nums j))
theorem PaR.step {w W2 W W' : World} {nums : Nat → Int} {k : Nat} {v : Value} (h : PaR w W2 nums k v W) (hB : Below W.heap.size W W') : PaR w W2 nums k v W' := by
  refine ⟨h.below.trans (hB.mono h.below.size), h.keep.trans (hB.mono h.keep.size), h.row.1, h.row.2.imp id ?_⟩
  rintro ⟨g, cap, cur, rfl, hb, hg, rest⟩
  exact ⟨g, cap, cur, rfl, hb, (hB.block g (Array.getElem?_eq_some_iff.1 hg).1).trans hg, rest⟩
theorem PaR.app {w W2 W w1 : World} {nums : Nat → Int} {k : Nat} {v : Value} (h : PaR w W2 nums k v W) (hw : w.heap.size ≤ W2.heap.size) (hgrow : W.grownBy w1 v.ownBlock) {v' : Value} (hown : w1.ownsRow W2.heap.size 3 1 v' (k + 1) (((List.range k).map fun j => .int .i64 (nums j)) ++ [.int .i64 (nums k)])) : PaR w W2 nums (k + 1) v' w1 :=
  ⟨below_grown h.below hgrow h.below.size fun g hg => by have := (h.row.lt g hg).1; omega, below_grown h.keep hgrow h.keep.size fun g hg => (h.row.lt g hg).1, by rw [List.range_succ, List.map_append]; exact hown⟩

theorem set3 {w W : World} (h : Below w.heap.size w W) (i : Nat) (v : Value) : Below w.heap.size w (W.setCell ⟨w.heap.size, i, none⟩ v) := below_grown h (Lib.grownBy_setCell W w.heap.size i v) h.size (fun k hk => by cases hk; exact Nat.le_refl _)

theorem box3 {W : World} {b : Nat} (h : W.heap[b]? = some (.cells #[.int .i64 0, .int .i64 0, .slice none 0 0] 51 (0, 0))) :
    W.cell? ⟨b, 0, none⟩ = some (.int .i64 0) ∧ W.cell? ⟨b, 1, none⟩ = some (.int .i64 0) ∧ W.cell? ⟨b, 2, none⟩ = some (.slice none 0 0) ∧ W.frozen? ⟨b, 0, none⟩ = false ∧ W.frozen? ⟨b, 1, none⟩ = false ∧ W.frozen? ⟨b, 2, none⟩ = false := by
  simp [World.cell?, World.frozen?, h]

theorem row3 {W W' : World} {b : Nat} {x y z : Value} (h : W'.heap[b]? = W.heap[b]?) (e : W.heap[b]? = some (.cells #[x, y, z] 51 (0, 0))) :
    W'.cell? ⟨b, 0, none⟩ = some x ∧ W'.cell? ⟨b, 1, none⟩ = some y ∧ W'.cell? ⟨b, 2, none⟩ = some z := by
  rw [e] at h
  simp [World.cell?, h]

theorem cell3 {W : World} {b g j : Nat} {x y z : Value} (h : g ≠ b) : (((W.setCell ⟨b, 0, none⟩ x).setCell ⟨b, 1, none⟩ y).setCell ⟨b, 2, none⟩ z).cell? ⟨g, j, none⟩ = W.cell? ⟨g, j, none⟩ := by
  have e : ∀ (V : World) (i : Nat) (u : Value), (V.setCell ⟨b, i, none⟩ u).cell? ⟨g, j, none⟩ = V.cell? ⟨g, j, none⟩ := fun V i u => World.cell?_of_block (a := ⟨g, j, none⟩) (Below.heap_setCell V ⟨b, i, none⟩ u g (fun e => h (by simp at e; omega)))
  rw [e, e, e]

set_option maxRecDepth 100000 in
set_option maxHeartbeats 4000000 in
theorem parse_walk (x y tx : List UInt8) (w : World) (len M : Nat) (ws : Nat → List UInt8) (nums : Nat → Int) (vb : Bool) (hM : M ≤ len) (hlen : len ≤ 1000000)
    (htrim : ∀ W, Below w.heap.size w W → Calls Tryz.prog 54 #[.string ⟨x.toArray⟩, .string ⟨#[10]⟩] W fun e w' => e = .returned (.string ⟨y.toArray⟩) ∧ Below W.heap.size W w')
    (hsplit : ∀ W, Below w.heap.size w W → Calls Tryz.prog 53 #[.string ⟨y.toArray⟩, .string ⟨#[32]⟩] W fun e w' => ∃ sv, e = .returned sv ∧ Below W.heap.size W w' ∧
      ((∃ a cap, sv = .slice a 0 cap ∧ len = 0) ∨ ∃ b off cap, sv = .slice (some ⟨b, off, none⟩) len cap ∧ b < w'.heap.size ∧ ∀ j, j < len → j ≤ M → w'.cell? ⟨b, off + j, none⟩ = some (.string ⟨(ws j).toArray⟩)))
    (hatoi : ∀ k, k < len → k ≤ M → ∀ W, Below w.heap.size w W → Calls Tryz.prog 55 #[.string ⟨(ws k).toArray⟩] W fun e w' => ∃ n ev, e = .returned (.tuple #[.int .i64 n, ev]) ∧ (if k < M then n = nums k ∧ ev = .nilIface else ∃ t v, ev = .iface t v) ∧ Below W.heap.size W w')
    (hvalid : M = len → 2 ≤ len → ∀ W c, Below w.heap.size w W → NumsAt w.heap.size c (len - 2) (fun j => nums (j + 2)) W → Calls Tryz.prog 37 #[.agg #[.int .i64 (nums 0), .int .i64 (nums 1), c]] W fun e w' => e = .returned (.bool vb) ∧ Below W.heap.size W w')
    (hline : M = len → 2 ≤ len → vb = true → ∀ W c, Below w.heap.size w W → NumsAt w.heap.size c (len - 2) (fun j => nums (j + 2)) W → Calls Tryz.prog 21 #[.agg #[.int .i64 (nums 0), .int .i64 (nums 1), c]] W fun e w' => e = .returned (.string ⟨tx.toArray⟩) ∧ Below W.heap.size W w') :
    Calls Tryz.prog 29 #[.string ⟨x.toArray⟩] w fun e w' => Below w.heap.size w w' ∧
      if M < len ∨ len < 2 then e = .returned (.tuple #[.agg #[.int .i64 0, .int .i64 0, .slice none 0 0], .bool false])
      else ∃ c, e = .returned (.tuple #[.agg #[.int .i64 (nums 0), .int .i64 (nums 1), c], .bool (vb && (tx == x))]) ∧ NumsAt w.heap.size c (len - 2) (fun j => nums (j + 2)) w' := by
  have hW0 : Below w.heap.size w (w.alloc (.cells #[.int .i64 0, .int .i64 0, .slice none 0 0] 51)) := (Below.refl _ w).alloc (Nat.le_refl _) _
  go_enter Tryz.func29, Tryz.ntmps29
  go_wp2_with (first
    | (go_at_call 54; refine (htrim _ hW0).mono ?_; rintro e W1 ⟨rfl, hB1⟩)
    | (go_at_call 53; refine (hsplit _ (hW0.trans (hB1.mono hW0.size))).mono ?_; rintro e W2 ⟨sv, rfl, hB2, hsv⟩; obtain ⟨sa, sc, rfl⟩ : ∃ sa sc, sv = .slice sa len sc := by
        rcases hsv with ⟨a, cap, e, e2⟩ | ⟨b, off, cap, e, _⟩
        · exact ⟨a, cap, by rw [e, e2]⟩
        · exact ⟨_, _, e⟩))
  have hw2 : w.heap.size + 1 ≤ W2.heap.size := by have h1 := hB1.size; have h2 := hB2.size; simp at h1; omega
  have hb2 : Below w.heap.size w W2 := (hW0.trans (hB1.mono hW0.size)).trans (hB2.mono (Nat.le_trans hW0.size hB1.size))
  have hbox : W2.heap[w.heap.size]? = some (.cells #[.int .i64 0, .int .i64 0, .slice none 0 0] 51 (0, 0)) := (hB2.block _ (by have := hB1.size; simp at this; omega)).trans ((hB1.block _ (by simp)).trans (heap_alloc_new w _))
  go_loopw [4, 14] (fun u i wr => ∃ (k : Nat) (v : Value), k ≤ M ∧ i = .int .i64 (k : Nat) ∧ v = u ∧ PaR w W2 nums k v wr)
    (fun _ i _ => len - (intOf i).toNat)
  case atStart => exact ⟨0, _, Nat.zero_le _, rfl, rfl, hb2, Below.refl _ _, World.ownsRow_nil _ _ _ _⟩
  case round =>
    obtain ⟨k, v, hk, rfl, rfl, hrel⟩ := hrel
    by_cases hlt : k < len
    · rcases hsv with ⟨a, cap, e, e2⟩ | ⟨b, off, cap, e, hb, hc⟩
      · omega
      obtain rfl : sa = some ⟨b, off, none⟩ := by cases e; rfl
      have c0 := (hrel.keep.cell (p := ⟨b, off + k, none⟩) hb).trans (hc k hlt hk)
      by_cases hkM : k < M
      · obtain ⟨i0, hi, hz0, hz1, hz2⟩ := info_parts info3
        have hks := hrel.keep.size
        go_wp2_with (first
          | (go_at_call 55; refine (hatoi k hlt hk _ hrel.below).mono ?_; rintro e W3 ⟨n, ev, rfl, he, hB3⟩; rw [if_pos hkM] at he; obtain ⟨rfl, rfl⟩ := he)
          | (at_builtin; refine wpList_append_lies _ rfl _ _ 22 rfl W2.heap.size 3 i0 (.int .i64 0) 1 8 Tryz.underlying22 hi hz0 hz1 hz2 rfl (by decide) v k _ rfl ((hrel.step hB3).row.alloc _) ⟨W3.heap.size, 0, none⟩ 1 1 [.int .i64 (nums k)] rfl rfl (World.news_of_block (cs := #[.int .i64 (nums k)]) (t := 3) (fr := (0, 0)) (heap_alloc_new W3 _)) (by intro u hu; simp only [List.mem_cons, List.not_mem_nil, or_false] at hu; subst hu; rfl) (by omega) (by unfold maxLen; omega) (by omega) (by have := hB3.size; simp; omega) (W3.heap.size + 1) (by simp) ?_; intro gg cap w1 hown2 hgrow hat hltg))
        have hn := ((hrel.step hB3).step ((Below.refl _ W3).alloc (Nat.le_refl _) (.cells #[.int .i64 (nums k)] 3))).app (by omega) hgrow hown2
        clear hgrow hown2 hrel
        go_roundw
        case rel => exact ⟨k + 1, _, by omega, by simp, rfl, hn⟩
        case measure => simp [intOf] <;> omega
      · obtain rfl : k = M := by omega
        have hks := hrel.keep.size
        have bx := (hrel.keep.block w.heap.size (by omega)).trans hbox
        have hat : Calls Tryz.prog 55 #[.string ⟨(ws k).toArray⟩] wr fun e w' => ∃ n te ve, e = .returned (.tuple #[.int .i64 n, .iface te ve]) ∧ Below wr.heap.size wr w' := (hatoi k hlt hk _ hrel.below).mono fun e w' ⟨n, ev, h1, h2, h3⟩ => by
          rw [if_neg hkM] at h2
          obtain ⟨te, ve, rfl⟩ := h2
          exact ⟨n, te, ve, h1, h3⟩
        clear hatoi
        go_wp2_with (go_at_call 55; refine hat.mono ?_; rintro e W3 ⟨n, te, ve, rfl, hB3⟩; obtain ⟨y0, y1, y2, z0, z1, z2⟩ := box3 ((hB3.block w.heap.size (by omega)).trans bx))
        refine bodyPost_ret (v := .tuple #[.agg #[.int .i64 0, .int .i64 0, .slice none 0 0], .bool false]) (by simp [results, Tryz.results29, go_sem, y0, y1, y2]) rfl ⟨?_, ?_⟩
        · have h3 := hrel.below.trans (hB3.mono hrel.below.size)
          first
            | exact set3 (set3 (set3 h3 _ _) _ _) _ _
            | exact h3
        · first | rfl | rw [if_pos (Or.inl hlt)]
    · obtain rfl : k = len := by omega
      obtain rfl : M = k := by omega
      have hks := hrel.keep.size
      have bx := (hrel.keep.block w.heap.size (by omega)).trans hbox
      have y0 : wr.cell? ⟨w.heap.size, 0, none⟩ = some (.int .i64 0) := by simp [World.cell?, bx]
      have y1 : wr.cell? ⟨w.heap.size, 1, none⟩ = some (.int .i64 0) := by simp [World.cell?, bx]
      have y2 : wr.cell? ⟨w.heap.size, 2, none⟩ = some (.slice none 0 0) := by simp [World.cell?, bx]
      have z0 : wr.frozen? ⟨w.heap.size, 0, none⟩ = false := by simp [World.frozen?, bx]
      have z1 : wr.frozen? ⟨w.heap.size, 1, none⟩ = false := by simp [World.frozen?, bx]
      have z2 : wr.frozen? ⟨w.heap.size, 2, none⟩ = false := by simp [World.frozen?, bx]
      obtain ⟨va, vc, rfl⟩ : ∃ va vc, v = .slice va M vc := by
        rcases hrel.row.2 with ⟨e, e0⟩ | ⟨g, cap, cur, e, _⟩
        · exact ⟨none, 0, by rw [e, e0]⟩
        · exact ⟨_, _, e⟩
      by_cases h2 : M < 2
      · have h2' : ((M : Nat) : Int) < 2 := by omega
        go_wp2
        refine bodyPost_ret (v := .tuple #[.agg #[.int .i64 0, .int .i64 0, .slice none 0 0], .bool false]) (by simp [results, Tryz.results29, go_sem, y0, y1, y2]) rfl ⟨?_, ?_⟩
        · exact set3 (set3 (set3 hrel.below _ _) _ _) _ _
        · first | rfl | rw [if_pos (Or.inr h2)]
      · have h2' : ¬ ((M : Nat) : Int) < 2 := by omega
        go_wp2
        obtain ⟨g, cap, cur, hv, hgb, hg, hnc, hcm, hcs, htk⟩ : ∃ g cap cur, Value.slice va M vc = .slice (some ⟨g, 0, none⟩) M cap ∧ W2.heap.size ≤ g ∧ wr.heap[g]? = some (.cells cur 3 (0, 0)) ∧ M ≤ cap ∧ cap ≤ maxLen ∧ cur.size = cap * 1 ∧ cur.toList.take (M * 1) = (List.range M).map fun j => .int .i64 (nums j) := by
          rcases hrel.row.2 with ⟨e, e0⟩ | h
          · omega
          · exact h
        obtain ⟨rfl, rfl⟩ : va = some ⟨g, 0, none⟩ ∧ vc = cap := by simpa using hv
        have hcell : ∀ j, j < M → wr.cell? ⟨g, j, none⟩ = some (.int .i64 (nums j)) := fun j hj => by
          rw [World.ownsRow.cellAt hrel.row j (by omega)]
          simp [hj]
        have d0 : wr.drew.cell? ⟨g, 0, none⟩ = some (.int .i64 (nums 0)) := hcell 0 (by omega)
        have d1 : wr.drew.cell? ⟨g, 1, none⟩ = some (.int .i64 (nums 1)) := hcell 1 (by omega)
        have m0 : 0 < M := by omega
        have m1 : 1 < M := by omega
        have m2 : (2 : Int) ≤ (M : Nat) := by omega
        have m3 : ((M : Nat) : Int) ≤ (vc : Nat) := by omega
        have m4 : (1 : Int) < (M : Nat) := by omega
        have m5 : (0 : Int) < (M : Nat) := by omega
        have hgl := (Array.getElem?_eq_some_iff.1 hg).1
        have a0 : (wr.alloc (.cells #[.int .i64 0, .int .i64 0, .slice none 0 0] 51)).drew.cell? ⟨g, 0, none⟩ = some (.int .i64 (nums 0)) := (World.cell?_of_block (a := ⟨g, 0, none⟩) (heap_alloc_old wr _ hgl)).trans (hcell 0 (by omega))
        have a1 : (wr.alloc (.cells #[.int .i64 0, .int .i64 0, .slice none 0 0] 51)).drew.cell? ⟨g, 1, none⟩ = some (.int .i64 (nums 1)) := (World.cell?_of_block (a := ⟨g, 1, none⟩) (heap_alloc_old wr _ hgl)).trans (hcell 1 (by omega))
        have hvl := hvalid trivial (by omega)
        have hli := hline trivial (by omega)
        clear hvalid hline hatoi htrim hsplit
        go_region
        obtain ⟨cv, hcv⟩ : ∃ cv, Value.slice (if vc = 2 then some ⟨g, 0, none⟩ else some ⟨g, 2, none⟩) (M - 2) (vc - 2) = cv := ⟨_, rfl⟩
        have hform : ∃ ca, cv = .slice ca (M - 2) (vc - 2) := ⟨_, hcv.symm⟩
        have hnum : ∀ W, wr.heap.size ≤ W.heap.size → (∀ j, j < M → W.cell? ⟨g, j, none⟩ = some (.int .i64 (nums j))) → NumsAt w.heap.size cv (M - 2) (fun j => nums (j + 2)) W := fun W hs hc => by
          by_cases h3 : vc = 2
          · exact .inl ⟨_, _, by rw [← hcv, show M - 2 = 0 by omega], by omega⟩
          · rw [if_neg h3] at hcv
            exact .inr ⟨g, 2, _, hcv.symm, by omega, by omega, by omega, fun j hj => by rw [show 2 + j = j + 2 by omega]; exact hc (j + 2) (by omega)⟩
        simp only [hcv]
        obtain ⟨ca, hca⟩ := hform
        subst hca
        clear hcv
        obtain ⟨W3, hW3⟩ : ∃ W3, (wr.alloc (.cells #[.int .i64 (nums 0), .int .i64 (nums 1), .slice ca (M - 2) (vc - 2)] 51)).drew = W3 := ⟨_, rfl⟩
        rw [hW3]
        have hB3 : Below wr.heap.size wr W3 := by rw [← hW3]; exact ((Below.refl _ wr).alloc (Nat.le_refl _) _).drew
        have hs3 := hB3.size
        have e3 : W3.heap[wr.heap.size]? = some (.cells #[.int .i64 (nums 0), .int .i64 (nums 1), .slice ca (M - 2) (vc - 2)] 51 (0, 0)) := by rw [← hW3]; exact heap_alloc_new wr _
        have hs3' : wr.heap.size + 1 ≤ W3.heap.size := (Array.getElem?_eq_some_iff.1 e3).1
        go_wp2
        have hb3 : Below w.heap.size w W3.drew := (hrel.below.trans (hB3.mono hrel.below.size)).drew
        have hn3 : NumsAt w.heap.size (.slice ca (M - 2) (vc - 2)) (M - 2) (fun j => nums (j + 2)) W3.drew := hnum W3.drew hs3 (fun j hj => (hB3.cell (p := ⟨g, j, none⟩) (Array.getElem?_eq_some_iff.1 hg).1).trans (hcell j hj))
        have hval := hvl W3.drew (.slice ca (M - 2) (vc - 2)) hb3 hn3
        have q0 : W3.drew.cell? ⟨wr.heap.size, 0, none⟩ = some (.int .i64 (nums 0)) := by show W3.cell? _ = _; simp [World.cell?, e3]
        have q1 : W3.drew.cell? ⟨wr.heap.size, 1, none⟩ = some (.int .i64 (nums 1)) := by show W3.cell? _ = _; simp [World.cell?, e3]
        have q2 : W3.drew.cell? ⟨wr.heap.size, 2, none⟩ = some (.slice ca (M - 2) (vc - 2)) := by show W3.cell? _ = _; simp [World.cell?, e3]
        have bx3 := (hB3.block w.heap.size (by omega)).trans bx
        cases hvb : vb with
        | false =>
          rw [hvb] at hval
          refine wp_region_any (by kernel_rfl) ?_
          change wpAny _ _ _ _ _ _ _ (World.drew _)
          refine wpAny_ready (rs := [0, 1]) (by kernel_rfl) (by simp) ?_
          refine AllReady.cons rfl (fun K8 hK8 => ?_) (AllReady.cons rfl (fun K8 hK8 => ?_) AllReady.nil)
          · go_simp
            refine hK8 _ _ ?_
            clear hK8 K8
            refine wpAny_ready (rs := [1]) (by kernel_rfl) (by simp) ?_
            refine AllReady.cons rfl (fun K8 hK8 => ?_) AllReady.nil
            go_simp
            refine hK8 _ _ ?_
            clear hK8 K8
            refine wpAny_ready (rs := [2]) (by kernel_rfl) (by simp) ?_
            refine AllReady.cons rfl (fun K8 hK8 => ?_) AllReady.nil
            go_simp
            refine hval.mono ?_
            rintro e W4 ⟨rfl, hB4⟩
            obtain ⟨r0, r1, r2⟩ := row3 (W' := W4) (hB4.block wr.heap.size (by show wr.heap.size < W3.heap.size; omega)) e3
            obtain ⟨w0, w1, w2, x0, x1, x2⟩ := box3 ((hB4.block w.heap.size (by show w.heap.size < W3.heap.size; omega)).trans bx3)
            refine hK8 _ _ ?_
            clear hK8 K8
            refine wpAny_take (i := 3) (v := .bool false) rfl (by kernel_rfl) (by kernel_rfl) (by kernel_rfl) (fun _ _ _ h => h) (Or.inl ⟨by rfl, by intro w; go_simp⟩) ?_
            refine wpAny_take (i := 4) (v := undef) rfl (by kernel_rfl) (by kernel_rfl) (by kernel_rfl) (fun _ _ _ h => h) (Or.inr ⟨by rfl, rfl⟩) ?_
            refine wpAny_take (i := 5) (v := undef) rfl (by kernel_rfl) (by kernel_rfl) (by kernel_rfl) (fun _ _ _ h => h) (Or.inr ⟨by rfl, rfl⟩) ?_
            refine wpAny_take (i := 6) (v := undef) rfl (by kernel_rfl) (by kernel_rfl) (by kernel_rfl) (fun _ _ _ h => h) (Or.inr ⟨by rfl, rfl⟩) ?_
            refine wpAny_take (i := 7) (v := undef) rfl (by kernel_rfl) (by kernel_rfl) (by kernel_rfl) (fun _ _ _ h => h) (Or.inr ⟨by rfl, rfl⟩) ?_
            refine wpAny_take (i := 8) (v := .bool false) rfl (by kernel_rfl) (by kernel_rfl) (by kernel_rfl) (fun _ _ _ h => h) (Or.inl ⟨by rfl, by intro w; go_simp⟩) ?_
            refine wpAny_ready (rs := [9]) (by kernel_rfl) (by simp) ?_
            refine AllReady.cons rfl (fun K8 hK8 => ?_) AllReady.nil
            go_simp
            refine hK8 _ _ ?_
            clear hK8 K8
            refine wpAny_ready (rs := [10]) (by kernel_rfl) (by simp) ?_
            refine AllReady.cons rfl (fun K8 hK8 => ?_) AllReady.nil
            go_simp
            refine hK8 _ _ ?_
            clear hK8 K8
            refine wpAny_done (by kernel_rfl) ?_ _
            have fB := set3 (set3 (set3 (hb3.trans (hB4.mono hb3.size)) 0 (.int .i64 (nums 0))) 1 (.int .i64 (nums 1))) 2 (.slice ca (M - 2) (vc - 2))
            go_wp2
            have hs4 : W3.heap.size ≤ W4.heap.size := hB4.size
            refine bodyPost_ret (v := .tuple #[.agg #[.int .i64 (nums 0), .int .i64 (nums 1), .slice ca (M - 2) (vc - 2)], .bool false]) (by simp [results, Tryz.results29, go_sem, w0, w1, w2]) rfl ⟨fB, _, rfl, hnum _ (by simp [World.setCell]; omega) fun j hj => ?_⟩
            exact (cell3 (by show g ≠ w.heap.size; omega)).trans ((hB4.cell (p := ⟨g, j, none⟩) (by show g < W3.heap.size; omega)).trans ((hB3.cell (p := ⟨g, j, none⟩) hgl).trans (hcell j hj)))
          · go_simp
            refine hK8 _ _ ?_
            clear hK8 K8
            refine wpAny_ready (rs := [0, 2]) (by kernel_rfl) (by simp) ?_
            refine AllReady.cons rfl (fun K8 hK8 => ?_) (AllReady.cons rfl (fun K8 hK8 => ?_) AllReady.nil)
            · go_simp
              refine hK8 _ _ ?_
              clear hK8 K8
              refine wpAny_ready (rs := [2]) (by kernel_rfl) (by simp) ?_
              refine AllReady.cons rfl (fun K8 hK8 => ?_) AllReady.nil
              go_simp
              refine hval.mono ?_
              rintro e W4 ⟨rfl, hB4⟩
              obtain ⟨r0, r1, r2⟩ := row3 (W' := W4) (hB4.block wr.heap.size (by show wr.heap.size < W3.heap.size; omega)) e3
              obtain ⟨w0, w1, w2, x0, x1, x2⟩ := box3 ((hB4.block w.heap.size (by show w.heap.size < W3.heap.size; omega)).trans bx3)
              refine hK8 _ _ ?_
              clear hK8 K8
              refine wpAny_take (i := 3) (v := .bool false) rfl (by kernel_rfl) (by kernel_rfl) (by kernel_rfl) (fun _ _ _ h => h) (Or.inl ⟨by rfl, by intro w; go_simp⟩) ?_
              refine wpAny_take (i := 4) (v := undef) rfl (by kernel_rfl) (by kernel_rfl) (by kernel_rfl) (fun _ _ _ h => h) (Or.inr ⟨by rfl, rfl⟩) ?_
              refine wpAny_take (i := 5) (v := undef) rfl (by kernel_rfl) (by kernel_rfl) (by kernel_rfl) (fun _ _ _ h => h) (Or.inr ⟨by rfl, rfl⟩) ?_
              refine wpAny_take (i := 6) (v := undef) rfl (by kernel_rfl) (by kernel_rfl) (by kernel_rfl) (fun _ _ _ h => h) (Or.inr ⟨by rfl, rfl⟩) ?_
              refine wpAny_take (i := 7) (v := undef) rfl (by kernel_rfl) (by kernel_rfl) (by kernel_rfl) (fun _ _ _ h => h) (Or.inr ⟨by rfl, rfl⟩) ?_
              refine wpAny_take (i := 8) (v := .bool false) rfl (by kernel_rfl) (by kernel_rfl) (by kernel_rfl) (fun _ _ _ h => h) (Or.inl ⟨by rfl, by intro w; go_simp⟩) ?_
              refine wpAny_ready (rs := [9]) (by kernel_rfl) (by simp) ?_
              refine AllReady.cons rfl (fun K8 hK8 => ?_) AllReady.nil
              go_simp
              refine hK8 _ _ ?_
              clear hK8 K8
              refine wpAny_ready (rs := [10]) (by kernel_rfl) (by simp) ?_
              refine AllReady.cons rfl (fun K8 hK8 => ?_) AllReady.nil
              go_simp
              refine hK8 _ _ ?_
              clear hK8 K8
              refine wpAny_done (by kernel_rfl) ?_ _
              have fB := set3 (set3 (set3 (hb3.trans (hB4.mono hb3.size)) 0 (.int .i64 (nums 0))) 1 (.int .i64 (nums 1))) 2 (.slice ca (M - 2) (vc - 2))
              go_wp2
              have hs4 : W3.heap.size ≤ W4.heap.size := hB4.size
              refine bodyPost_ret (v := .tuple #[.agg #[.int .i64 (nums 0), .int .i64 (nums 1), .slice ca (M - 2) (vc - 2)], .bool false]) (by simp [results, Tryz.results29, go_sem, w0, w1, w2]) rfl ⟨fB, _, rfl, hnum _ (by simp [World.setCell]; omega) fun j hj => ?_⟩
              exact (cell3 (by show g ≠ w.heap.size; omega)).trans ((hB4.cell (p := ⟨g, j, none⟩) (by show g < W3.heap.size; omega)).trans ((hB3.cell (p := ⟨g, j, none⟩) hgl).trans (hcell j hj)))
            · go_simp
              refine hval.mono ?_
              rintro e W4 ⟨rfl, hB4⟩
              obtain ⟨r0, r1, r2⟩ := row3 (W' := W4) (hB4.block wr.heap.size (by show wr.heap.size < W3.heap.size; omega)) e3
              obtain ⟨w0, w1, w2, x0, x1, x2⟩ := box3 ((hB4.block w.heap.size (by show w.heap.size < W3.heap.size; omega)).trans bx3)
              refine hK8 _ _ ?_
              clear hK8 K8
              refine wpAny_take (i := 3) (v := .bool false) rfl (by kernel_rfl) (by kernel_rfl) (by kernel_rfl) (fun _ _ _ h => h) (Or.inl ⟨by rfl, by intro w; go_simp⟩) ?_
              refine wpAny_take (i := 4) (v := undef) rfl (by kernel_rfl) (by kernel_rfl) (by kernel_rfl) (fun _ _ _ h => h) (Or.inr ⟨by rfl, rfl⟩) ?_
              refine wpAny_take (i := 5) (v := undef) rfl (by kernel_rfl) (by kernel_rfl) (by kernel_rfl) (fun _ _ _ h => h) (Or.inr ⟨by rfl, rfl⟩) ?_
              refine wpAny_take (i := 6) (v := undef) rfl (by kernel_rfl) (by kernel_rfl) (by kernel_rfl) (fun _ _ _ h => h) (Or.inr ⟨by rfl, rfl⟩) ?_
              refine wpAny_take (i := 7) (v := undef) rfl (by kernel_rfl) (by kernel_rfl) (by kernel_rfl) (fun _ _ _ h => h) (Or.inr ⟨by rfl, rfl⟩) ?_
              refine wpAny_take (i := 8) (v := .bool false) rfl (by kernel_rfl) (by kernel_rfl) (by kernel_rfl) (fun _ _ _ h => h) (Or.inl ⟨by rfl, by intro w; go_simp⟩) ?_
              refine wpAny_ready (rs := [0]) (by kernel_rfl) (by simp) ?_
              refine AllReady.cons rfl (fun K8 hK8 => ?_) AllReady.nil
              go_simp
              refine hK8 _ _ ?_
              clear hK8 K8
              refine wpAny_ready (rs := [9]) (by kernel_rfl) (by simp) ?_
              refine AllReady.cons rfl (fun K8 hK8 => ?_) AllReady.nil
              go_simp
              refine hK8 _ _ ?_
              clear hK8 K8
              refine wpAny_ready (rs := [10]) (by kernel_rfl) (by simp) ?_
              refine AllReady.cons rfl (fun K8 hK8 => ?_) AllReady.nil
              go_simp
              refine hK8 _ _ ?_
              clear hK8 K8
              refine wpAny_done (by kernel_rfl) ?_ _
              have fB := set3 (set3 (set3 (hb3.trans (hB4.mono hb3.size)) 0 (.int .i64 (nums 0))) 1 (.int .i64 (nums 1))) 2 (.slice ca (M - 2) (vc - 2))
              go_wp2
              have hs4 : W3.heap.size ≤ W4.heap.size := hB4.size
              refine bodyPost_ret (v := .tuple #[.agg #[.int .i64 (nums 0), .int .i64 (nums 1), .slice ca (M - 2) (vc - 2)], .bool false]) (by simp [results, Tryz.results29, go_sem, w0, w1, w2]) rfl ⟨fB, _, rfl, hnum _ (by simp [World.setCell]; omega) fun j hj => ?_⟩
              exact (cell3 (by show g ≠ w.heap.size; omega)).trans ((hB4.cell (p := ⟨g, j, none⟩) (by show g < W3.heap.size; omega)).trans ((hB3.cell (p := ⟨g, j, none⟩) hgl).trans (hcell j hj)))
        | true =>
          rw [hvb] at hval
          refine wp_region_any (by kernel_rfl) ?_
          change wpAny _ _ _ _ _ _ _ (World.drew _)
          refine wpAny_ready (rs := [0, 1]) (by kernel_rfl) (by simp) ?_
          refine AllReady.cons rfl (fun K8 hK8 => ?_) (AllReady.cons rfl (fun K8 hK8 => ?_) AllReady.nil)
          · go_simp
            refine hK8 _ _ ?_
            clear hK8 K8
            refine wpAny_ready (rs := [1]) (by kernel_rfl) (by simp) ?_
            refine AllReady.cons rfl (fun K8 hK8 => ?_) AllReady.nil
            go_simp
            refine hK8 _ _ ?_
            clear hK8 K8
            refine wpAny_ready (rs := [2]) (by kernel_rfl) (by simp) ?_
            refine AllReady.cons rfl (fun K8 hK8 => ?_) AllReady.nil
            go_simp
            refine hval.mono ?_
            rintro e W4 ⟨rfl, hB4⟩
            obtain ⟨r0, r1, r2⟩ := row3 (W' := W4) (hB4.block wr.heap.size (by show wr.heap.size < W3.heap.size; omega)) e3
            have hs4 : W3.heap.size ≤ W4.heap.size := hB4.size
            have hb4 := hb3.trans (hB4.mono hb3.size)
            have e4 := (hB4.block wr.heap.size (by show wr.heap.size < W3.heap.size; omega)).trans e3
            have hc4 : ∀ j, j < M → W4.cell? ⟨g, j, none⟩ = some (.int .i64 (nums j)) := fun j hj => (hB4.cell (p := ⟨g, j, none⟩) (by show g < W3.heap.size; omega)).trans ((hB3.cell (p := ⟨g, j, none⟩) hgl).trans (hcell j hj))
            have hlin := hli hvb W4 (.slice ca (M - 2) (vc - 2)) hb4 (hnum W4 (by omega) hc4)
            have bx4 := (hB4.block w.heap.size (by show w.heap.size < W3.heap.size; omega)).trans bx3
            refine hK8 _ _ ?_
            clear hK8 K8
            refine wpAny_take (i := 3) (v := .bool true) rfl (by kernel_rfl) (by kernel_rfl) (by kernel_rfl) (fun _ _ _ h => h) (Or.inl ⟨by rfl, by intro w; go_simp⟩) ?_
            refine wpAny_take (i := 6) (v := .string ⟨x.toArray⟩) rfl (by kernel_rfl) (by kernel_rfl) (by kernel_rfl) (fun _ _ _ h => h) (Or.inl ⟨by rfl, by intro w; go_simp⟩) ?_
            refine wpAny_ready (rs := [4]) (by kernel_rfl) (by simp) ?_
            refine AllReady.cons rfl (fun K8 hK8 => ?_) AllReady.nil
            go_simp
            refine hK8 _ _ ?_
            clear hK8 K8
            refine wpAny_ready (rs := [5]) (by kernel_rfl) (by simp) ?_
            refine AllReady.cons rfl (fun K8 hK8 => ?_) AllReady.nil
            go_simp
            refine hlin.mono ?_
            rintro e W5 ⟨rfl, hB5⟩
            have hs5 : W4.heap.size ≤ W5.heap.size := hB5.size
            obtain ⟨r0, r1, r2⟩ := row3 (W' := W5) (hB5.block wr.heap.size (by omega)) e4
            obtain ⟨w0, w1, w2, x0, x1, x2⟩ := box3 ((hB5.block w.heap.size (by omega)).trans bx4)
            refine hK8 _ _ ?_
            clear hK8 K8
            refine wpAny_take (i := 7) (v := .bool (tx == x)) rfl (by kernel_rfl) (by kernel_rfl) (by kernel_rfl) (fun _ _ _ h => h) (Or.inl ⟨by rfl, by intro w; go_simp⟩) ?_
            refine wpAny_take (i := 8) (v := .bool (tx == x)) rfl (by kernel_rfl) (by kernel_rfl) (by kernel_rfl) (fun _ _ _ h => h) (Or.inl ⟨by rfl, by intro w; go_simp⟩) ?_
            refine wpAny_ready (rs := [9]) (by kernel_rfl) (by simp) ?_
            refine AllReady.cons rfl (fun K8 hK8 => ?_) AllReady.nil
            go_simp
            refine hK8 _ _ ?_
            clear hK8 K8
            refine wpAny_ready (rs := [10]) (by kernel_rfl) (by simp) ?_
            refine AllReady.cons rfl (fun K8 hK8 => ?_) AllReady.nil
            go_simp
            refine hK8 _ _ ?_
            clear hK8 K8
            refine wpAny_done (by kernel_rfl) ?_ _
            have fB := set3 (set3 (set3 (hb4.trans (hB5.mono hb4.size)) 0 (.int .i64 (nums 0))) 1 (.int .i64 (nums 1))) 2 (.slice ca (M - 2) (vc - 2))
            go_wp2
            refine bodyPost_ret (v := .tuple #[.agg #[.int .i64 (nums 0), .int .i64 (nums 1), .slice ca (M - 2) (vc - 2)], .bool (tx == x)]) (by simp [results, Tryz.results29, go_sem, w0, w1, w2]) rfl ⟨fB, _, rfl, hnum _ (by simp [World.setCell]; omega) fun j hj => ?_⟩
            exact (cell3 (by show g ≠ w.heap.size; omega)).trans ((hB5.cell (p := ⟨g, j, none⟩) (by show g < W4.heap.size; omega)).trans (hc4 j hj))
          · go_simp
            refine hK8 _ _ ?_
            clear hK8 K8
            refine wpAny_ready (rs := [0, 2]) (by kernel_rfl) (by simp) ?_
            refine AllReady.cons rfl (fun K8 hK8 => ?_) (AllReady.cons rfl (fun K8 hK8 => ?_) AllReady.nil)
            · go_simp
              refine hK8 _ _ ?_
              clear hK8 K8
              refine wpAny_ready (rs := [2]) (by kernel_rfl) (by simp) ?_
              refine AllReady.cons rfl (fun K8 hK8 => ?_) AllReady.nil
              go_simp
              refine hval.mono ?_
              rintro e W4 ⟨rfl, hB4⟩
              obtain ⟨r0, r1, r2⟩ := row3 (W' := W4) (hB4.block wr.heap.size (by show wr.heap.size < W3.heap.size; omega)) e3
              have hs4 : W3.heap.size ≤ W4.heap.size := hB4.size
              have hb4 := hb3.trans (hB4.mono hb3.size)
              have e4 := (hB4.block wr.heap.size (by show wr.heap.size < W3.heap.size; omega)).trans e3
              have hc4 : ∀ j, j < M → W4.cell? ⟨g, j, none⟩ = some (.int .i64 (nums j)) := fun j hj => (hB4.cell (p := ⟨g, j, none⟩) (by show g < W3.heap.size; omega)).trans ((hB3.cell (p := ⟨g, j, none⟩) hgl).trans (hcell j hj))
              have hlin := hli hvb W4 (.slice ca (M - 2) (vc - 2)) hb4 (hnum W4 (by omega) hc4)
              have bx4 := (hB4.block w.heap.size (by show w.heap.size < W3.heap.size; omega)).trans bx3
              refine hK8 _ _ ?_
              clear hK8 K8
              refine wpAny_take (i := 3) (v := .bool true) rfl (by kernel_rfl) (by kernel_rfl) (by kernel_rfl) (fun _ _ _ h => h) (Or.inl ⟨by rfl, by intro w; go_simp⟩) ?_
              refine wpAny_take (i := 6) (v := .string ⟨x.toArray⟩) rfl (by kernel_rfl) (by kernel_rfl) (by kernel_rfl) (fun _ _ _ h => h) (Or.inl ⟨by rfl, by intro w; go_simp⟩) ?_
              refine wpAny_ready (rs := [4]) (by kernel_rfl) (by simp) ?_
              refine AllReady.cons rfl (fun K8 hK8 => ?_) AllReady.nil
              go_simp
              refine hK8 _ _ ?_
              clear hK8 K8
              refine wpAny_ready (rs := [5]) (by kernel_rfl) (by simp) ?_
              refine AllReady.cons rfl (fun K8 hK8 => ?_) AllReady.nil
              go_simp
              refine hlin.mono ?_
              rintro e W5 ⟨rfl, hB5⟩
              have hs5 : W4.heap.size ≤ W5.heap.size := hB5.size
              obtain ⟨r0, r1, r2⟩ := row3 (W' := W5) (hB5.block wr.heap.size (by omega)) e4
              obtain ⟨w0, w1, w2, x0, x1, x2⟩ := box3 ((hB5.block w.heap.size (by omega)).trans bx4)
              refine hK8 _ _ ?_
              clear hK8 K8
              refine wpAny_take (i := 7) (v := .bool (tx == x)) rfl (by kernel_rfl) (by kernel_rfl) (by kernel_rfl) (fun _ _ _ h => h) (Or.inl ⟨by rfl, by intro w; go_simp⟩) ?_
              refine wpAny_take (i := 8) (v := .bool (tx == x)) rfl (by kernel_rfl) (by kernel_rfl) (by kernel_rfl) (fun _ _ _ h => h) (Or.inl ⟨by rfl, by intro w; go_simp⟩) ?_
              refine wpAny_ready (rs := [9]) (by kernel_rfl) (by simp) ?_
              refine AllReady.cons rfl (fun K8 hK8 => ?_) AllReady.nil
              go_simp
              refine hK8 _ _ ?_
              clear hK8 K8
              refine wpAny_ready (rs := [10]) (by kernel_rfl) (by simp) ?_
              refine AllReady.cons rfl (fun K8 hK8 => ?_) AllReady.nil
              go_simp
              refine hK8 _ _ ?_
              clear hK8 K8
              refine wpAny_done (by kernel_rfl) ?_ _
              have fB := set3 (set3 (set3 (hb4.trans (hB5.mono hb4.size)) 0 (.int .i64 (nums 0))) 1 (.int .i64 (nums 1))) 2 (.slice ca (M - 2) (vc - 2))
              go_wp2
              refine bodyPost_ret (v := .tuple #[.agg #[.int .i64 (nums 0), .int .i64 (nums 1), .slice ca (M - 2) (vc - 2)], .bool (tx == x)]) (by simp [results, Tryz.results29, go_sem, w0, w1, w2]) rfl ⟨fB, _, rfl, hnum _ (by simp [World.setCell]; omega) fun j hj => ?_⟩
              exact (cell3 (by show g ≠ w.heap.size; omega)).trans ((hB5.cell (p := ⟨g, j, none⟩) (by show g < W4.heap.size; omega)).trans (hc4 j hj))
            · go_simp
              refine hval.mono ?_
              rintro e W4 ⟨rfl, hB4⟩
              obtain ⟨r0, r1, r2⟩ := row3 (W' := W4) (hB4.block wr.heap.size (by show wr.heap.size < W3.heap.size; omega)) e3
              have hs4 : W3.heap.size ≤ W4.heap.size := hB4.size
              have hb4 := hb3.trans (hB4.mono hb3.size)
              have e4 := (hB4.block wr.heap.size (by show wr.heap.size < W3.heap.size; omega)).trans e3
              have hc4 : ∀ j, j < M → W4.cell? ⟨g, j, none⟩ = some (.int .i64 (nums j)) := fun j hj => (hB4.cell (p := ⟨g, j, none⟩) (by show g < W3.heap.size; omega)).trans ((hB3.cell (p := ⟨g, j, none⟩) hgl).trans (hcell j hj))
              have hlin := hli hvb W4 (.slice ca (M - 2) (vc - 2)) hb4 (hnum W4 (by omega) hc4)
              have bx4 := (hB4.block w.heap.size (by show w.heap.size < W3.heap.size; omega)).trans bx3
              refine hK8 _ _ ?_
              clear hK8 K8
              refine wpAny_take (i := 3) (v := .bool true) rfl (by kernel_rfl) (by kernel_rfl) (by kernel_rfl) (fun _ _ _ h => h) (Or.inl ⟨by rfl, by intro w; go_simp⟩) ?_
              refine wpAny_take (i := 6) (v := .string ⟨x.toArray⟩) rfl (by kernel_rfl) (by kernel_rfl) (by kernel_rfl) (fun _ _ _ h => h) (Or.inl ⟨by rfl, by intro w; go_simp⟩) ?_
              refine wpAny_ready (rs := [0, 4]) (by kernel_rfl) (by simp) ?_
              refine AllReady.cons rfl (fun K8 hK8 => ?_) (AllReady.cons rfl (fun K8 hK8 => ?_) AllReady.nil)
              · go_simp
                refine hK8 _ _ ?_
                clear hK8 K8
                refine wpAny_ready (rs := [4]) (by kernel_rfl) (by simp) ?_
                refine AllReady.cons rfl (fun K8 hK8 => ?_) AllReady.nil
                go_simp
                refine hK8 _ _ ?_
                clear hK8 K8
                refine wpAny_ready (rs := [5]) (by kernel_rfl) (by simp) ?_
                refine AllReady.cons rfl (fun K8 hK8 => ?_) AllReady.nil
                go_simp
                refine hlin.mono ?_
                rintro e W5 ⟨rfl, hB5⟩
                have hs5 : W4.heap.size ≤ W5.heap.size := hB5.size
                obtain ⟨r0, r1, r2⟩ := row3 (W' := W5) (hB5.block wr.heap.size (by omega)) e4
                obtain ⟨w0, w1, w2, x0, x1, x2⟩ := box3 ((hB5.block w.heap.size (by omega)).trans bx4)
                refine hK8 _ _ ?_
                clear hK8 K8
                refine wpAny_take (i := 7) (v := .bool (tx == x)) rfl (by kernel_rfl) (by kernel_rfl) (by kernel_rfl) (fun _ _ _ h => h) (Or.inl ⟨by rfl, by intro w; go_simp⟩) ?_
                refine wpAny_take (i := 8) (v := .bool (tx == x)) rfl (by kernel_rfl) (by kernel_rfl) (by kernel_rfl) (fun _ _ _ h => h) (Or.inl ⟨by rfl, by intro w; go_simp⟩) ?_
                refine wpAny_ready (rs := [9]) (by kernel_rfl) (by simp) ?_
                refine AllReady.cons rfl (fun K8 hK8 => ?_) AllReady.nil
                go_simp
                refine hK8 _ _ ?_
                clear hK8 K8
                refine wpAny_ready (rs := [10]) (by kernel_rfl) (by simp) ?_
                refine AllReady.cons rfl (fun K8 hK8 => ?_) AllReady.nil
                go_simp
                refine hK8 _ _ ?_
                clear hK8 K8
                refine wpAny_done (by kernel_rfl) ?_ _
                have fB := set3 (set3 (set3 (hb4.trans (hB5.mono hb4.size)) 0 (.int .i64 (nums 0))) 1 (.int .i64 (nums 1))) 2 (.slice ca (M - 2) (vc - 2))
                go_wp2
                refine bodyPost_ret (v := .tuple #[.agg #[.int .i64 (nums 0), .int .i64 (nums 1), .slice ca (M - 2) (vc - 2)], .bool (tx == x)]) (by simp [results, Tryz.results29, go_sem, w0, w1, w2]) rfl ⟨fB, _, rfl, hnum _ (by simp [World.setCell]; omega) fun j hj => ?_⟩
                exact (cell3 (by show g ≠ w.heap.size; omega)).trans ((hB5.cell (p := ⟨g, j, none⟩) (by show g < W4.heap.size; omega)).trans (hc4 j hj))
              · go_simp
                refine hK8 _ _ ?_
                clear hK8 K8
                refine wpAny_ready (rs := [0, 5]) (by kernel_rfl) (by simp) ?_
                refine AllReady.cons rfl (fun K8 hK8 => ?_) (AllReady.cons rfl (fun K8 hK8 => ?_) AllReady.nil)
                · go_simp
                  refine hK8 _ _ ?_
                  clear hK8 K8
                  refine wpAny_ready (rs := [5]) (by kernel_rfl) (by simp) ?_
                  refine AllReady.cons rfl (fun K8 hK8 => ?_) AllReady.nil
                  go_simp
                  refine hlin.mono ?_
                  rintro e W5 ⟨rfl, hB5⟩
                  have hs5 : W4.heap.size ≤ W5.heap.size := hB5.size
                  obtain ⟨r0, r1, r2⟩ := row3 (W' := W5) (hB5.block wr.heap.size (by omega)) e4
                  obtain ⟨w0, w1, w2, x0, x1, x2⟩ := box3 ((hB5.block w.heap.size (by omega)).trans bx4)
                  refine hK8 _ _ ?_
                  clear hK8 K8
                  refine wpAny_take (i := 7) (v := .bool (tx == x)) rfl (by kernel_rfl) (by kernel_rfl) (by kernel_rfl) (fun _ _ _ h => h) (Or.inl ⟨by rfl, by intro w; go_simp⟩) ?_
                  refine wpAny_take (i := 8) (v := .bool (tx == x)) rfl (by kernel_rfl) (by kernel_rfl) (by kernel_rfl) (fun _ _ _ h => h) (Or.inl ⟨by rfl, by intro w; go_simp⟩) ?_
                  refine wpAny_ready (rs := [9]) (by kernel_rfl) (by simp) ?_
                  refine AllReady.cons rfl (fun K8 hK8 => ?_) AllReady.nil
                  go_simp
                  refine hK8 _ _ ?_
                  clear hK8 K8
                  refine wpAny_ready (rs := [10]) (by kernel_rfl) (by simp) ?_
                  refine AllReady.cons rfl (fun K8 hK8 => ?_) AllReady.nil
                  go_simp
                  refine hK8 _ _ ?_
                  clear hK8 K8
                  refine wpAny_done (by kernel_rfl) ?_ _
                  have fB := set3 (set3 (set3 (hb4.trans (hB5.mono hb4.size)) 0 (.int .i64 (nums 0))) 1 (.int .i64 (nums 1))) 2 (.slice ca (M - 2) (vc - 2))
                  go_wp2
                  refine bodyPost_ret (v := .tuple #[.agg #[.int .i64 (nums 0), .int .i64 (nums 1), .slice ca (M - 2) (vc - 2)], .bool (tx == x)]) (by simp [results, Tryz.results29, go_sem, w0, w1, w2]) rfl ⟨fB, _, rfl, hnum _ (by simp [World.setCell]; omega) fun j hj => ?_⟩
                  exact (cell3 (by show g ≠ w.heap.size; omega)).trans ((hB5.cell (p := ⟨g, j, none⟩) (by show g < W4.heap.size; omega)).trans (hc4 j hj))
                · go_simp
                  refine hlin.mono ?_
                  rintro e W5 ⟨rfl, hB5⟩
                  have hs5 : W4.heap.size ≤ W5.heap.size := hB5.size
                  obtain ⟨r0, r1, r2⟩ := row3 (W' := W5) (hB5.block wr.heap.size (by omega)) e4
                  obtain ⟨w0, w1, w2, x0, x1, x2⟩ := box3 ((hB5.block w.heap.size (by omega)).trans bx4)
                  refine hK8 _ _ ?_
                  clear hK8 K8
                  refine wpAny_take (i := 7) (v := .bool (tx == x)) rfl (by kernel_rfl) (by kernel_rfl) (by kernel_rfl) (fun _ _ _ h => h) (Or.inl ⟨by rfl, by intro w; go_simp⟩) ?_
                  refine wpAny_take (i := 8) (v := .bool (tx == x)) rfl (by kernel_rfl) (by kernel_rfl) (by kernel_rfl) (fun _ _ _ h => h) (Or.inl ⟨by rfl, by intro w; go_simp⟩) ?_
                  refine wpAny_ready (rs := [0]) (by kernel_rfl) (by simp) ?_
                  refine AllReady.cons rfl (fun K8 hK8 => ?_) AllReady.nil
                  go_simp
                  refine hK8 _ _ ?_
                  clear hK8 K8
                  refine wpAny_ready (rs := [9]) (by kernel_rfl) (by simp) ?_
                  refine AllReady.cons rfl (fun K8 hK8 => ?_) AllReady.nil
                  go_simp
                  refine hK8 _ _ ?_
                  clear hK8 K8
                  refine wpAny_ready (rs := [10]) (by kernel_rfl) (by simp) ?_
                  refine AllReady.cons rfl (fun K8 hK8 => ?_) AllReady.nil
                  go_simp
                  refine hK8 _ _ ?_
                  clear hK8 K8
                  refine wpAny_done (by kernel_rfl) ?_ _
                  have fB := set3 (set3 (set3 (hb4.trans (hB5.mono hb4.size)) 0 (.int .i64 (nums 0))) 1 (.int .i64 (nums 1))) 2 (.slice ca (M - 2) (vc - 2))
                  go_wp2
                  refine bodyPost_ret (v := .tuple #[.agg #[.int .i64 (nums 0), .int .i64 (nums 1), .slice ca (M - 2) (vc - 2)], .bool (tx == x)]) (by simp [results, Tryz.results29, go_sem, w0, w1, w2]) rfl ⟨fB, _, rfl, hnum _ (by simp [World.setCell]; omega) fun j hj => ?_⟩
                  exact (cell3 (by show g ≠ w.heap.size; omega)).trans ((hB5.cell (p := ⟨g, j, none⟩) (by show g < W4.heap.size; omega)).trans (hc4 j hj))

end Go.Proofs.YtiijghkfinkphaaGreatDoor.Vm

/- The document's parse, walked: what the calls inside come to is given. -/
namespace Go.Proofs.YtiijghkfinkphaaGreatDoor.Vm
open Go Go.Proofs Go.RowKit
set_option linter.unusedVariables false
set_option linter.unusedSimpArgs false

def notSep (b : UInt8) : Bool := !(b == 32 || b == 10)
def offB : List (List UInt8) → Nat → Nat
  | _, 0 => 0
  | [], _ + 1 => 0
  | u :: l, k + 1 => u.length + 1 + offB l k

theorem words_cut : ∀ {l : List UInt8}, l ≠ [] → wordsB l = l.takeWhile notSep :: wordsB (l.drop ((l.takeWhile notSep).length + 1))
  | [], h => absurd rfl h
  | b :: l, _ => by
    rw [wordsB, List.takeWhile_cons]
    cases hb : (b == 32 || b == 10) with
    | true =>
      have : notSep b = false := by rw [notSep, hb]; rfl
      rw [this, cond_true]
      rfl
    | false =>
      have : notSep b = true := by rw [notSep, hb]; rfl
      rw [this, cond_false, if_pos rfl]
      by_cases hl : l = []
      · subst hl; rfl
      · rw [words_cut hl]
        rfl
theorem words_nil {l : List UInt8} (h : wordsB l = []) : l = [] := by
  rcases Classical.em (l = []) with h' | h'
  · exact h'
  · rw [words_cut h'] at h; cases h
theorem words_at : ∀ (k : Nat) (x : List UInt8), k ≤ (wordsB x).length → wordsB (x.drop (offB (wordsB x) k)) = (wordsB x).drop k ∧ offB (wordsB x) k ≤ x.length + 1
  | 0, x, _ => by simp [offB]
  | k + 1, x, h => by
    have hne : x ≠ [] := by rintro rfl; simp [wordsB] at h
    have hc := words_cut hne
    have ht : (x.takeWhile notSep).length ≤ x.length := (List.takeWhile_sublist _).length_le
    rw [hc] at h
    simp only [List.length_cons] at h
    obtain ⟨h1, h2⟩ := words_at k (x.drop ((x.takeWhile notSep).length + 1)) (by omega)
    have e : offB (wordsB x) (k + 1) = (x.takeWhile notSep).length + 1 + offB (wordsB (x.drop ((x.takeWhile notSep).length + 1))) k := by rw [hc]; rfl
    rw [e, ← List.drop_drop, h1, hc]
    refine ⟨rfl, ?_⟩
    rw [List.length_drop] at h2
    by_cases hl : (x.takeWhile notSep).length + 1 ≤ x.length
    · omega
    · have hd : x.drop ((x.takeWhile notSep).length + 1) = [] := List.drop_eq_nil_of_le (by omega)
      rw [hd] at h ⊢
      simp only [wordsB, List.length_nil] at h
      obtain rfl : k = 0 := by omega
      simp [offB]
      omega
theorem off_succ : ∀ (l : List (List UInt8)) (k : Nat) (u : List UInt8), l[k]? = some u → offB l (k + 1) = offB l k + (u.length + 1)
  | [], k, u, h => by simp at h
  | v :: l, 0, u, h => by
    simp at h
    subst h
    cases l <;> simp [offB]
  | v :: l, k + 1, u, h => by
    have := off_succ l k u (by simpa using h)
    show v.length + 1 + offB l (k + 1) = v.length + 1 + offB l k + (u.length + 1)
    rw [this]
    omega
theorem while_get {p : UInt8 → Bool} : ∀ {l : List UInt8} {i : Nat}, i < (l.takeWhile p).length → ∃ b, l[i]? = some b ∧ p b = true
  | [], i, h => by simp at h
  | c :: l, i, h => by
    rw [List.takeWhile_cons] at h
    cases hc : p c with
    | false => rw [hc] at h; simp at h
    | true =>
      rw [hc] at h
      cases i with
      | zero => exact ⟨c, rfl, hc⟩
      | succ i => simpa using while_get (l := l) (by simpa using h)
theorem while_end {p : UInt8 → Bool} : ∀ {l : List UInt8}, (l.takeWhile p).length < l.length → ∃ b, l[(l.takeWhile p).length]? = some b ∧ p b = false
  | [], h => by simp at h
  | c :: l, h => by
    rw [List.takeWhile_cons] at h ⊢
    cases hc : p c with
    | false => exact ⟨c, rfl, hc⟩
    | true =>
      rw [hc] at h
      simpa using while_end (p := p) (l := l) (by simpa using h)
theorem while_take {p : UInt8 → Bool} (l : List UInt8) : l.take (l.takeWhile p).length = l.takeWhile p := by
  have := List.takeWhile_prefix (p := p) (l := l)
  exact (List.prefix_iff_eq_take.1 this).symm

theorem u8_ne {b c : UInt8} (h : (b == c) = false) : ¬ ((b.toNat : Nat) : Int) = (c.toNat : Nat) := fun e => by
  have : b = c := UInt8.toNat_inj.1 (by omega)
  rw [this] at h
  simp at h
structure WordAt (x : List UInt8) (k : Nat) (u : List UInt8) (o : Nat) : Prop where
  off : offB (wordsB x) k = o
  lt : o < x.length
  cut : (x.drop o).take u.length = u
  inn : ∀ p, o ≤ p → p < o + u.length → ∃ b, x[p]? = some b ∧ (b == 32) = false ∧ (b == 10) = false
  fin : x.length = o + u.length ∨ ∃ b, x[o + u.length]? = some b ∧ (b == 32 || b == 10) = true
  next : offB (wordsB x) (k + 1) = o + u.length + 1
  le : o + u.length ≤ x.length
theorem word_at {x : List UInt8} {k : Nat} {u : List UInt8} (h : (wordsB x)[k]? = some u) : WordAt x k u (offB (wordsB x) k) := by
  have hk := (List.getElem?_eq_some_iff.1 h).1
  obtain ⟨h1, h2⟩ := words_at k x (by omega)
  have hn := off_succ _ _ _ h
  obtain ⟨o, ho⟩ : ∃ o, offB (wordsB x) k = o := ⟨_, rfl⟩
  rw [ho] at h1 h2 hn ⊢
  have hne : x.drop o ≠ [] := by
    intro e
    rw [e] at h1
    have := congrArg List.length h1
    simp [wordsB] at this
    omega
  have hlt : o < x.length := by
    rcases Nat.lt_or_ge o x.length with h' | h'
    · exact h'
    · exact absurd (List.drop_eq_nil_of_le h') hne
  have hc := words_cut hne
  obtain rfl : u = (x.drop o).takeWhile notSep := by
    have : ((wordsB x).drop k)[0]? = some u := by rw [List.getElem?_drop]; exact h
    rw [← h1, hc] at this
    simpa using this.symm
  refine ⟨ho, hlt, while_take _, fun p hp1 hp2 => ?_, ?_, hn, ?_⟩
  · obtain ⟨b, hb, hs⟩ := while_get (p := notSep) (l := x.drop o) (i := p - o) (by omega)
    rw [List.getElem?_drop, show o + (p - o) = p by omega] at hb
    refine ⟨b, hb, ?_⟩
    simpa [notSep] using hs
  · by_cases hl : ((x.drop o).takeWhile notSep).length < (x.drop o).length
    · obtain ⟨b, hb, hs⟩ := while_end (p := notSep) hl
      rw [List.getElem?_drop] at hb
      refine .inr ⟨b, hb, ?_⟩
      cases hq : (b == 32 || b == 10) with
      | true => rfl
      | false => rw [notSep, hq] at hs; cases hs
    · left
      have : ((x.drop o).takeWhile notSep).length ≤ (x.drop o).length := (List.takeWhile_sublist _).length_le
      rw [List.length_drop] at hl this
      omega
  · have : ((x.drop o).takeWhile notSep).length ≤ (x.drop o).length := (List.takeWhile_sublist _).length_le
    rw [List.length_drop] at this
    omega
theorem words_end (x : List UInt8) : x.length ≤ offB (wordsB x) (wordsB x).length := by
  obtain ⟨h1, h2⟩ := words_at (wordsB x).length x (Nat.le_refl _)
  rw [List.drop_length] at h1
  have := congrArg List.length (words_nil h1)
  simp at this
  omega

theorem ext_cut (l : List UInt8) (a b : Nat) : (⟨l.toArray⟩ : ByteArray).extract a b = ⟨((l.drop a).take (b - a)).toArray⟩ := by
  apply ByteArray.ext
  rw [ByteArray.data_extract]
  apply Array.ext'
  simp [List.drop_take]
theorem idx_at (P : Program) (W : World) (t : TypeId) (x : List UInt8) (p : Nat) (b : UInt8) (h : P.underlying t = some .string) (hb : x[p]? = some b) : (Instr.index t (.string ⟨x.toArray⟩) (.int .i64 (p : Int))).run P W = .ok (.int .u8 (b.toNat : Int)) W := by
  obtain ⟨hp, rfl⟩ := List.getElem?_eq_some_iff.1 hb
  rw [run_index_string W t _ .i64 p h, dif_pos ⟨by omega, by show (p : Int) < (x.toArray.size : Int); simp; omega⟩]
  rfl

set_option maxRecDepth 100000 in
set_option maxHeartbeats 4000000 in
theorem parseR_walk (x tx : List UInt8) (w : World) (len M : Nat) (nums : Nat → Int) (vb : Bool) (hxl : x.length ≤ 100000) (hM : M ≤ len) (hlenx : (wordsB x).length = len) (hlen : len ≤ 1000000)
    (hnum : ∀ k u, (wordsB x)[k]? = some u → k ≤ M → ∀ W, Below w.heap.size w W → Calls Tryz.prog 57 #[.string ⟨u.toArray⟩] W fun e w' => ∃ n, e = .returned (.tuple #[.int .i64 n, .bool (decide (k < M))]) ∧ (k < M → n = nums k) ∧ Below W.heap.size W w')
    (hvalid : M = len → 2 ≤ len → ∀ W c, Below w.heap.size w W → NumsAt w.heap.size c (len - 2) (fun j => nums (j + 2)) W → Calls Tryz.prog 47 #[.agg #[.int .i64 (nums 0), .int .i64 (nums 1), c]] W fun e w' => e = .returned (.bool vb) ∧ Below W.heap.size W w')
    (hline : M = len → 2 ≤ len → vb = true → ∀ W c, Below w.heap.size w W → NumsAt w.heap.size c (len - 2) (fun j => nums (j + 2)) W → Calls Tryz.prog 49 #[.agg #[.int .i64 (nums 0), .int .i64 (nums 1), c]] W fun e w' => e = .returned (.string ⟨tx.toArray⟩) ∧ Below W.heap.size W w') :
    Calls Tryz.prog 33 #[.string ⟨x.toArray⟩] w fun e w' => Below w.heap.size w w' ∧
      if M < len ∨ len < 2 then e = .returned (.tuple #[.agg #[.int .i64 0, .int .i64 0, .slice none 0 0], .bool false])
      else ∃ c, e = .returned (.tuple #[.agg #[.int .i64 (nums 0), .int .i64 (nums 1), c], .bool (vb && (tx == x))]) ∧ NumsAt w.heap.size c (len - 2) (fun j => nums (j + 2)) w' := by
  obtain ⟨W2, hW2⟩ : ∃ W2, w.alloc (.cells #[.int .i64 0, .int .i64 0, .slice none 0 0] 51) = W2 := ⟨_, rfl⟩
  have hb2 : Below w.heap.size w W2 := by rw [← hW2]; exact (Below.refl _ w).alloc (Nat.le_refl _) _
  have hw2 : w.heap.size + 1 ≤ W2.heap.size := by rw [← hW2]; simp
  have hbox : W2.heap[w.heap.size]? = some (.cells #[.int .i64 0, .int .i64 0, .slice none 0 0] 51 (0, 0)) := by rw [← hW2]; exact heap_alloc_new w _
  obtain ⟨S, hS⟩ : ∃ S : ByteArray, (⟨x.toArray⟩ : ByteArray) = S := ⟨_, rfl⟩
  have hSn : S.size = x.length := by rw [← hS]; rfl
  have hSl : S.toList = x := by rw [← hS]; simp
  have hSi : ∀ (W : World) (p : Nat) (b : UInt8), x[p]? = some b → (Instr.index 9 (.string S) (.int .i64 (p : Int))).run Tryz.prog W = .ok (.int .u8 (b.toNat : Int)) W := fun W p b hb => by rw [← hS]; exact idx_at _ _ _ _ _ _ rfl hb
  have hSc : ∀ (a b : Nat), S.extract a b = ⟨((x.drop a).take (b - a)).toArray⟩ := fun a b => by rw [← hS]; exact ext_cut _ _ _
  rw [hS]
  go_enter Tryz.func33, Tryz.ntmps33
  go_wp2
  clear hW2 hS
  go_loopw [4, 5] (fun u a wr => ∃ (k o : Nat) (v : Value), k ≤ M ∧ offB (wordsB x) k = o ∧ a = .int .i64 (o : Nat) ∧ v = u ∧ PaR w W2 nums k v wr)
    (fun _ a _ => x.length + 1 - (intOf a).toNat)
  case atStart => exact ⟨0, 0, _, Nat.zero_le _, by simp [offB], rfl, rfl, hb2, Below.refl _ _, World.ownsRow_nil _ _ _ _⟩
  case round =>
    obtain ⟨k, o, v, hk, ho, rfl, rfl, hrel⟩ := hrel
    by_cases hlt : k < len
    · obtain ⟨u, hu⟩ : ∃ u, (wordsB x)[k]? = some u := ⟨_, List.getElem?_eq_getElem (by omega)⟩
      have hA := word_at hu
      rw [ho] at hA
      obtain ⟨q, hq⟩ : ∃ q, o + u.length = q := ⟨_, rfl⟩
      have hoq : o ≤ q := by omega
      have hqx : q ≤ x.length := by have := hA.le; omega
      have hox : o < x.length := hA.lt
      have hin : Aside (∀ p, o ≤ p → p < q → ∃ b, x[p]? = some b ∧ (b == 32) = false ∧ (b == 10) = false) := fun p h1 h2 => hA.inn p h1 (by omega)
      have hfin : Aside (x.length = q ∨ ∃ b, x[q]? = some b ∧ (b == 32 || b == 10) = true) := by rw [← hq]; exact hA.fin
      have hcut : (x.drop o).take (q - o) = u := by rw [← hq, Nat.add_sub_cancel_left]; exact hA.cut
      have hnx : offB (wordsB x) (k + 1) = q + 1 := by rw [← hq]; exact hA.next
      have HN : Aside (offB (wordsB x) (k + 1) = q + 1) := hnx
      have HC : Aside ((x.drop o).take (q - o) = u) := hcut
      have HQ : Aside (o + u.length = q) := hq
      have HO : Aside (offB (wordsB x) k = o) := ho
      have HU : Aside ((wordsB x)[k]? = some u) := hu
      clear hnx hcut hq ho hu hA
      go_wp2
      go_loopw [6] (fun a W' => ∃ p : Nat, o ≤ p ∧ p ≤ q ∧ a = .int .i64 (p : Nat) ∧ W' = wr) (fun a _ => q - (intOf a).toNat)
      case atStart => exact ⟨o, Nat.le_refl _, hoq, rfl, rfl⟩
      case round =>
        obtain ⟨p, hp1, hp2, rfl, rfl⟩ := hrel
        by_cases hpq : p < q
        · obtain ⟨b, hb, hb1, hb2⟩ := hin.out p hp1 hpq
          have hpx : p < x.length := by omega
          obtain rfl : x[p] = b := by rw [List.getElem?_eq_getElem hpx] at hb; exact Option.some.inj hb
          have n1 : ¬ ((x[p].toNat : Nat) : Int) = 32 := u8_ne hb1
          have n2 : ((x[p].toNat : Nat) : Int) ≠ 10 := u8_ne hb2
          have m1 : (((x[p].toNat : Nat) : Int) != 32) = true := bne_iff_ne.2 n1
          have m2 : (((x[p].toNat : Nat) : Int) != 10) = true := bne_iff_ne.2 n2
          clear hb hb1 hb2
          go_wp2
          go_roundw
          case rel => exact ⟨p + 1, by omega, by omega, by simp, trivial⟩
          case measure => simp [intOf] <;> omega
        · obtain rfl : p = q := by omega
          have hend : ¬ p < x.length ∨ (∃ h : p < x.length, ((x[p].toNat : Nat) : Int) = 32) ∨ ∃ h : p < x.length, ((x[p].toNat : Nat) : Int) = 10 := by
            rcases hfin.out with h | ⟨b, hb, h⟩
            · exact .inl (by omega)
            · have hpx := (List.getElem?_eq_some_iff.1 hb).1
              obtain rfl : x[p] = b := (List.getElem?_eq_some_iff.1 hb).2
              refine .inr ?_
              simp only [Bool.or_eq_true, beq_iff_eq] at h
              exact h.imp (fun h => ⟨hpx, by rw [h]; rfl⟩) (fun h => ⟨hpx, by rw [h]; rfl⟩)
          have hcall : ∀ W, Below w.heap.size w W → Calls Tryz.prog 57 #[.string ⟨u.toArray⟩] W fun e w' => ∃ n, e = .returned (.tuple #[.int .i64 n, .bool (decide (k < M))]) ∧ (k < M → n = nums k) ∧ Below W.heap.size W w' := hnum k u HU.out hk
          rw [← HC.out] at hcall
          have hks := hrel.keep.size
          have bx := (hrel.keep.block w.heap.size (by omega)).trans hbox
          clear hnum hvalid hline
          by_cases hkM : k < M
          · obtain ⟨i0, hi, hz0, hz1, hz2⟩ := info_parts info3
            rw [decide_eq_true hkM] at hcall
            have hB3x : ∀ W, Below w.heap.size w W → Calls Tryz.prog 57 #[.string ⟨((x.drop o).take (p - o)).toArray⟩] W fun e w' => e = .returned (.tuple #[.int .i64 (nums k), .bool true]) ∧ Below W.heap.size W w' := fun W hW => (hcall W hW).mono fun e w' ⟨n, h1, h2, h3⟩ => ⟨by rw [h1, h2 hkM], h3⟩
            clear hcall
            rcases hend with he | ⟨he, e1⟩ | ⟨he, e1⟩
            all_goals
              go_wp2_with (first
                | (go_at_call 57; refine (hB3x _ hrel.below).mono ?_; rintro e W3 ⟨rfl, hB3⟩)
                | (at_builtin; refine wpList_append_lies _ rfl _ _ 22 rfl W2.heap.size 3 i0 (.int .i64 0) 1 8 Tryz.underlying22 hi hz0 hz1 hz2 rfl (by decide) v k _ rfl ((hrel.step hB3).row.alloc _) ⟨W3.heap.size, 0, none⟩ 1 1 [.int .i64 (nums k)] rfl rfl (World.news_of_block (cs := #[.int .i64 (nums k)]) (t := 3) (fr := (0, 0)) (heap_alloc_new W3 _)) (by intro u hu; simp only [List.mem_cons, List.not_mem_nil, or_false] at hu; subst hu; rfl) (by omega) (by unfold maxLen; omega) (by omega) (by have := hB3.size; simp; omega) (W3.heap.size + 1) (by simp) ?_; intro gg cap w1 hown2 hgrow hat hltg))
              have hn := ((hrel.step hB3).step ((Below.refl _ W3).alloc (Nat.le_refl _) (.cells #[.int .i64 (nums k)] 3))).app (by omega) hgrow hown2
              clear hgrow hown2 hrel
              go_roundw
              case rel => exact ⟨k + 1, p + 1, _, by omega, HN.out, by simp, rfl, hn⟩
              case measure => simp [intOf] <;> omega
          · obtain rfl : k = M := by omega
            rw [decide_eq_false hkM] at hcall
            rcases hend with he | ⟨he, e1⟩ | ⟨he, e1⟩
            all_goals
              go_wp2_with (go_at_call 57; refine (hcall _ hrel.below).mono ?_; rintro e W3 ⟨n, rfl, hn, hB3⟩; obtain ⟨y0, y1, y2, z0, z1, z2⟩ := box3 ((hB3.block w.heap.size (by omega)).trans bx))
              refine bodyPost_ret (v := .tuple #[.agg #[.int .i64 0, .int .i64 0, .slice none 0 0], .bool false]) (by simp [results, Tryz.results33, go_sem, y0, y1, y2]) rfl ⟨?_, ?_⟩
              · have h3 := hrel.below.trans (hB3.mono hrel.below.size)
                first
                  | exact set3 (set3 (set3 h3 _ _) _ _) _ _
                  | exact h3
              · first | rfl | rw [if_pos (Or.inl hlt)]
    · obtain rfl : k = len := by omega
      obtain rfl : M = k := by omega
      have hxo : ¬ o < x.length := by have h := words_end x; rw [hlenx, ho] at h; omega
      have HO : Aside (offB (wordsB x) M = o) := ho
      have HL : Aside ((wordsB x).length = M) := hlenx
      clear ho hlenx hSi hSc
      have hks := hrel.keep.size
      have bx := (hrel.keep.block w.heap.size (by omega)).trans hbox
      have y0 : wr.cell? ⟨w.heap.size, 0, none⟩ = some (.int .i64 0) := by simp [World.cell?, bx]
      have y1 : wr.cell? ⟨w.heap.size, 1, none⟩ = some (.int .i64 0) := by simp [World.cell?, bx]
      have y2 : wr.cell? ⟨w.heap.size, 2, none⟩ = some (.slice none 0 0) := by simp [World.cell?, bx]
      have z0 : wr.frozen? ⟨w.heap.size, 0, none⟩ = false := by simp [World.frozen?, bx]
      have z1 : wr.frozen? ⟨w.heap.size, 1, none⟩ = false := by simp [World.frozen?, bx]
      have z2 : wr.frozen? ⟨w.heap.size, 2, none⟩ = false := by simp [World.frozen?, bx]
      obtain ⟨va, vc, rfl⟩ : ∃ va vc, v = .slice va M vc := by
        rcases hrel.row.2 with ⟨e, e0⟩ | ⟨g, cap, cur, e, _⟩
        · exact ⟨none, 0, by rw [e, e0]⟩
        · exact ⟨_, _, e⟩
      by_cases h2 : M < 2
      · have h2' : ((M : Nat) : Int) < 2 := by omega
        go_wp2
        refine bodyPost_ret (v := .tuple #[.agg #[.int .i64 0, .int .i64 0, .slice none 0 0], .bool false]) (by simp [results, Tryz.results33, go_sem, y0, y1, y2]) rfl ⟨?_, ?_⟩
        · exact set3 (set3 (set3 hrel.below _ _) _ _) _ _
        · first | rfl | rw [if_pos (Or.inr h2)]
      · have h2' : ¬ ((M : Nat) : Int) < 2 := by omega
        go_wp2
        obtain ⟨g, cap, cur, hv, hgb, hg, hnc, hcm, hcs, htk⟩ : ∃ g cap cur, Value.slice va M vc = .slice (some ⟨g, 0, none⟩) M cap ∧ W2.heap.size ≤ g ∧ wr.heap[g]? = some (.cells cur 3 (0, 0)) ∧ M ≤ cap ∧ cap ≤ maxLen ∧ cur.size = cap * 1 ∧ cur.toList.take (M * 1) = (List.range M).map fun j => .int .i64 (nums j) := by
          rcases hrel.row.2 with ⟨e, e0⟩ | h
          · omega
          · exact h
        obtain ⟨rfl, rfl⟩ : va = some ⟨g, 0, none⟩ ∧ vc = cap := by simpa using hv
        have hcell : ∀ j, j < M → wr.cell? ⟨g, j, none⟩ = some (.int .i64 (nums j)) := fun j hj => by
          rw [World.ownsRow.cellAt hrel.row j (by omega)]
          simp [hj]
        have d0 : wr.drew.cell? ⟨g, 0, none⟩ = some (.int .i64 (nums 0)) := hcell 0 (by omega)
        have d1 : wr.drew.cell? ⟨g, 1, none⟩ = some (.int .i64 (nums 1)) := hcell 1 (by omega)
        have m0 : 0 < M := by omega
        have m1 : 1 < M := by omega
        have m2 : (2 : Int) ≤ (M : Nat) := by omega
        have m3 : ((M : Nat) : Int) ≤ (vc : Nat) := by omega
        have m4 : (1 : Int) < (M : Nat) := by omega
        have m5 : (0 : Int) < (M : Nat) := by omega
        have hgl := (Array.getElem?_eq_some_iff.1 hg).1
        have a0 : (wr.alloc (.cells #[.int .i64 0, .int .i64 0, .slice none 0 0] 51)).drew.cell? ⟨g, 0, none⟩ = some (.int .i64 (nums 0)) := (World.cell?_of_block (a := ⟨g, 0, none⟩) (heap_alloc_old wr _ hgl)).trans (hcell 0 (by omega))
        have a1 : (wr.alloc (.cells #[.int .i64 0, .int .i64 0, .slice none 0 0] 51)).drew.cell? ⟨g, 1, none⟩ = some (.int .i64 (nums 1)) := (World.cell?_of_block (a := ⟨g, 1, none⟩) (heap_alloc_old wr _ hgl)).trans (hcell 1 (by omega))
        have hvl := hvalid trivial (by omega)
        have hli := hline trivial (by omega)
        clear hvalid hline hnum
        go_region
        obtain ⟨cv, hcv⟩ : ∃ cv, Value.slice (if vc = 2 then some ⟨g, 0, none⟩ else some ⟨g, 2, none⟩) (M - 2) (vc - 2) = cv := ⟨_, rfl⟩
        have hform : ∃ ca, cv = .slice ca (M - 2) (vc - 2) := ⟨_, hcv.symm⟩
        have hnum : ∀ W, wr.heap.size ≤ W.heap.size → (∀ j, j < M → W.cell? ⟨g, j, none⟩ = some (.int .i64 (nums j))) → NumsAt w.heap.size cv (M - 2) (fun j => nums (j + 2)) W := fun W hs hc => by
          by_cases h3 : vc = 2
          · exact .inl ⟨_, _, by rw [← hcv, show M - 2 = 0 by omega], by omega⟩
          · rw [if_neg h3] at hcv
            exact .inr ⟨g, 2, _, hcv.symm, by omega, by omega, by omega, fun j hj => by rw [show 2 + j = j + 2 by omega]; exact hc (j + 2) (by omega)⟩
        simp only [hcv]
        obtain ⟨ca, hca⟩ := hform
        subst hca
        clear hcv
        obtain ⟨W3, hW3⟩ : ∃ W3, (wr.alloc (.cells #[.int .i64 (nums 0), .int .i64 (nums 1), .slice ca (M - 2) (vc - 2)] 51)).drew = W3 := ⟨_, rfl⟩
        rw [hW3]
        have hB3 : Below wr.heap.size wr W3 := by rw [← hW3]; exact ((Below.refl _ wr).alloc (Nat.le_refl _) _).drew
        have hs3 := hB3.size
        have e3 : W3.heap[wr.heap.size]? = some (.cells #[.int .i64 (nums 0), .int .i64 (nums 1), .slice ca (M - 2) (vc - 2)] 51 (0, 0)) := by rw [← hW3]; exact heap_alloc_new wr _
        have hs3' : wr.heap.size + 1 ≤ W3.heap.size := (Array.getElem?_eq_some_iff.1 e3).1
        go_wp2
        have hb3 : Below w.heap.size w W3.drew := (hrel.below.trans (hB3.mono hrel.below.size)).drew
        have hn3 : NumsAt w.heap.size (.slice ca (M - 2) (vc - 2)) (M - 2) (fun j => nums (j + 2)) W3.drew := hnum W3.drew hs3 (fun j hj => (hB3.cell (p := ⟨g, j, none⟩) (Array.getElem?_eq_some_iff.1 hg).1).trans (hcell j hj))
        have hval := hvl W3.drew (.slice ca (M - 2) (vc - 2)) hb3 hn3
        have q0 : W3.drew.cell? ⟨wr.heap.size, 0, none⟩ = some (.int .i64 (nums 0)) := by show W3.cell? _ = _; simp [World.cell?, e3]
        have q1 : W3.drew.cell? ⟨wr.heap.size, 1, none⟩ = some (.int .i64 (nums 1)) := by show W3.cell? _ = _; simp [World.cell?, e3]
        have q2 : W3.drew.cell? ⟨wr.heap.size, 2, none⟩ = some (.slice ca (M - 2) (vc - 2)) := by show W3.cell? _ = _; simp [World.cell?, e3]
        have bx3 := (hB3.block w.heap.size (by omega)).trans bx
        cases hvb : vb with
        | false =>
          rw [hvb] at hval
          refine wp_region_any (by kernel_rfl) ?_
          change wpAny _ _ _ _ _ _ _ (World.drew _)
          refine wpAny_ready (rs := [0, 1]) (by kernel_rfl) (by simp) ?_
          refine AllReady.cons rfl (fun K8 hK8 => ?_) (AllReady.cons rfl (fun K8 hK8 => ?_) AllReady.nil)
          · go_simp
            refine hK8 _ _ ?_
            clear hK8 K8
            refine wpAny_ready (rs := [1]) (by kernel_rfl) (by simp) ?_
            refine AllReady.cons rfl (fun K8 hK8 => ?_) AllReady.nil
            go_simp
            refine hK8 _ _ ?_
            clear hK8 K8
            refine wpAny_ready (rs := [2]) (by kernel_rfl) (by simp) ?_
            refine AllReady.cons rfl (fun K8 hK8 => ?_) AllReady.nil
            go_simp
            refine hval.mono ?_
            rintro e W4 ⟨rfl, hB4⟩
            obtain ⟨r0, r1, r2⟩ := row3 (W' := W4) (hB4.block wr.heap.size (by show wr.heap.size < W3.heap.size; omega)) e3
            obtain ⟨w0, w1, w2, x0, x1, x2⟩ := box3 ((hB4.block w.heap.size (by show w.heap.size < W3.heap.size; omega)).trans bx3)
            refine hK8 _ _ ?_
            clear hK8 K8
            refine wpAny_take (i := 3) (v := .bool false) rfl (by kernel_rfl) (by kernel_rfl) (by kernel_rfl) (fun _ _ _ h => h) (Or.inl ⟨by rfl, by intro w; go_simp⟩) ?_
            refine wpAny_take (i := 4) (v := undef) rfl (by kernel_rfl) (by kernel_rfl) (by kernel_rfl) (fun _ _ _ h => h) (Or.inr ⟨by rfl, rfl⟩) ?_
            refine wpAny_take (i := 5) (v := undef) rfl (by kernel_rfl) (by kernel_rfl) (by kernel_rfl) (fun _ _ _ h => h) (Or.inr ⟨by rfl, rfl⟩) ?_
            refine wpAny_take (i := 6) (v := undef) rfl (by kernel_rfl) (by kernel_rfl) (by kernel_rfl) (fun _ _ _ h => h) (Or.inr ⟨by rfl, rfl⟩) ?_
            refine wpAny_take (i := 7) (v := undef) rfl (by kernel_rfl) (by kernel_rfl) (by kernel_rfl) (fun _ _ _ h => h) (Or.inr ⟨by rfl, rfl⟩) ?_
            refine wpAny_take (i := 8) (v := .bool false) rfl (by kernel_rfl) (by kernel_rfl) (by kernel_rfl) (fun _ _ _ h => h) (Or.inl ⟨by rfl, by intro w; go_simp⟩) ?_
            refine wpAny_ready (rs := [9]) (by kernel_rfl) (by simp) ?_
            refine AllReady.cons rfl (fun K8 hK8 => ?_) AllReady.nil
            go_simp
            refine hK8 _ _ ?_
            clear hK8 K8
            refine wpAny_ready (rs := [10]) (by kernel_rfl) (by simp) ?_
            refine AllReady.cons rfl (fun K8 hK8 => ?_) AllReady.nil
            go_simp
            refine hK8 _ _ ?_
            clear hK8 K8
            refine wpAny_done (by kernel_rfl) ?_ _
            have fB := set3 (set3 (set3 (hb3.trans (hB4.mono hb3.size)) 0 (.int .i64 (nums 0))) 1 (.int .i64 (nums 1))) 2 (.slice ca (M - 2) (vc - 2))
            go_wp2
            have hs4 : W3.heap.size ≤ W4.heap.size := hB4.size
            refine bodyPost_ret (v := .tuple #[.agg #[.int .i64 (nums 0), .int .i64 (nums 1), .slice ca (M - 2) (vc - 2)], .bool false]) (by simp [results, Tryz.results33, go_sem, w0, w1, w2]) rfl ⟨fB, _, rfl, hnum _ (by simp [World.setCell]; omega) fun j hj => ?_⟩
            exact (cell3 (by show g ≠ w.heap.size; omega)).trans ((hB4.cell (p := ⟨g, j, none⟩) (by show g < W3.heap.size; omega)).trans ((hB3.cell (p := ⟨g, j, none⟩) hgl).trans (hcell j hj)))
          · go_simp
            refine hK8 _ _ ?_
            clear hK8 K8
            refine wpAny_ready (rs := [0, 2]) (by kernel_rfl) (by simp) ?_
            refine AllReady.cons rfl (fun K8 hK8 => ?_) (AllReady.cons rfl (fun K8 hK8 => ?_) AllReady.nil)
            · go_simp
              refine hK8 _ _ ?_
              clear hK8 K8
              refine wpAny_ready (rs := [2]) (by kernel_rfl) (by simp) ?_
              refine AllReady.cons rfl (fun K8 hK8 => ?_) AllReady.nil
              go_simp
              refine hval.mono ?_
              rintro e W4 ⟨rfl, hB4⟩
              obtain ⟨r0, r1, r2⟩ := row3 (W' := W4) (hB4.block wr.heap.size (by show wr.heap.size < W3.heap.size; omega)) e3
              obtain ⟨w0, w1, w2, x0, x1, x2⟩ := box3 ((hB4.block w.heap.size (by show w.heap.size < W3.heap.size; omega)).trans bx3)
              refine hK8 _ _ ?_
              clear hK8 K8
              refine wpAny_take (i := 3) (v := .bool false) rfl (by kernel_rfl) (by kernel_rfl) (by kernel_rfl) (fun _ _ _ h => h) (Or.inl ⟨by rfl, by intro w; go_simp⟩) ?_
              refine wpAny_take (i := 4) (v := undef) rfl (by kernel_rfl) (by kernel_rfl) (by kernel_rfl) (fun _ _ _ h => h) (Or.inr ⟨by rfl, rfl⟩) ?_
              refine wpAny_take (i := 5) (v := undef) rfl (by kernel_rfl) (by kernel_rfl) (by kernel_rfl) (fun _ _ _ h => h) (Or.inr ⟨by rfl, rfl⟩) ?_
              refine wpAny_take (i := 6) (v := undef) rfl (by kernel_rfl) (by kernel_rfl) (by kernel_rfl) (fun _ _ _ h => h) (Or.inr ⟨by rfl, rfl⟩) ?_
              refine wpAny_take (i := 7) (v := undef) rfl (by kernel_rfl) (by kernel_rfl) (by kernel_rfl) (fun _ _ _ h => h) (Or.inr ⟨by rfl, rfl⟩) ?_
              refine wpAny_take (i := 8) (v := .bool false) rfl (by kernel_rfl) (by kernel_rfl) (by kernel_rfl) (fun _ _ _ h => h) (Or.inl ⟨by rfl, by intro w; go_simp⟩) ?_
              refine wpAny_ready (rs := [9]) (by kernel_rfl) (by simp) ?_
              refine AllReady.cons rfl (fun K8 hK8 => ?_) AllReady.nil
              go_simp
              refine hK8 _ _ ?_
              clear hK8 K8
              refine wpAny_ready (rs := [10]) (by kernel_rfl) (by simp) ?_
              refine AllReady.cons rfl (fun K8 hK8 => ?_) AllReady.nil
              go_simp
              refine hK8 _ _ ?_
              clear hK8 K8
              refine wpAny_done (by kernel_rfl) ?_ _
              have fB := set3 (set3 (set3 (hb3.trans (hB4.mono hb3.size)) 0 (.int .i64 (nums 0))) 1 (.int .i64 (nums 1))) 2 (.slice ca (M - 2) (vc - 2))
              go_wp2
              have hs4 : W3.heap.size ≤ W4.heap.size := hB4.size
              refine bodyPost_ret (v := .tuple #[.agg #[.int .i64 (nums 0), .int .i64 (nums 1), .slice ca (M - 2) (vc - 2)], .bool false]) (by simp [results, Tryz.results33, go_sem, w0, w1, w2]) rfl ⟨fB, _, rfl, hnum _ (by simp [World.setCell]; omega) fun j hj => ?_⟩
              exact (cell3 (by show g ≠ w.heap.size; omega)).trans ((hB4.cell (p := ⟨g, j, none⟩) (by show g < W3.heap.size; omega)).trans ((hB3.cell (p := ⟨g, j, none⟩) hgl).trans (hcell j hj)))
            · go_simp
              refine hval.mono ?_
              rintro e W4 ⟨rfl, hB4⟩
              obtain ⟨r0, r1, r2⟩ := row3 (W' := W4) (hB4.block wr.heap.size (by show wr.heap.size < W3.heap.size; omega)) e3
              obtain ⟨w0, w1, w2, x0, x1, x2⟩ := box3 ((hB4.block w.heap.size (by show w.heap.size < W3.heap.size; omega)).trans bx3)
              refine hK8 _ _ ?_
              clear hK8 K8
              refine wpAny_take (i := 3) (v := .bool false) rfl (by kernel_rfl) (by kernel_rfl) (by kernel_rfl) (fun _ _ _ h => h) (Or.inl ⟨by rfl, by intro w; go_simp⟩) ?_
              refine wpAny_take (i := 4) (v := undef) rfl (by kernel_rfl) (by kernel_rfl) (by kernel_rfl) (fun _ _ _ h => h) (Or.inr ⟨by rfl, rfl⟩) ?_
              refine wpAny_take (i := 5) (v := undef) rfl (by kernel_rfl) (by kernel_rfl) (by kernel_rfl) (fun _ _ _ h => h) (Or.inr ⟨by rfl, rfl⟩) ?_
              refine wpAny_take (i := 6) (v := undef) rfl (by kernel_rfl) (by kernel_rfl) (by kernel_rfl) (fun _ _ _ h => h) (Or.inr ⟨by rfl, rfl⟩) ?_
              refine wpAny_take (i := 7) (v := undef) rfl (by kernel_rfl) (by kernel_rfl) (by kernel_rfl) (fun _ _ _ h => h) (Or.inr ⟨by rfl, rfl⟩) ?_
              refine wpAny_take (i := 8) (v := .bool false) rfl (by kernel_rfl) (by kernel_rfl) (by kernel_rfl) (fun _ _ _ h => h) (Or.inl ⟨by rfl, by intro w; go_simp⟩) ?_
              refine wpAny_ready (rs := [0]) (by kernel_rfl) (by simp) ?_
              refine AllReady.cons rfl (fun K8 hK8 => ?_) AllReady.nil
              go_simp
              refine hK8 _ _ ?_
              clear hK8 K8
              refine wpAny_ready (rs := [9]) (by kernel_rfl) (by simp) ?_
              refine AllReady.cons rfl (fun K8 hK8 => ?_) AllReady.nil
              go_simp
              refine hK8 _ _ ?_
              clear hK8 K8
              refine wpAny_ready (rs := [10]) (by kernel_rfl) (by simp) ?_
              refine AllReady.cons rfl (fun K8 hK8 => ?_) AllReady.nil
              go_simp
              refine hK8 _ _ ?_
              clear hK8 K8
              refine wpAny_done (by kernel_rfl) ?_ _
              have fB := set3 (set3 (set3 (hb3.trans (hB4.mono hb3.size)) 0 (.int .i64 (nums 0))) 1 (.int .i64 (nums 1))) 2 (.slice ca (M - 2) (vc - 2))
              go_wp2
              have hs4 : W3.heap.size ≤ W4.heap.size := hB4.size
              refine bodyPost_ret (v := .tuple #[.agg #[.int .i64 (nums 0), .int .i64 (nums 1), .slice ca (M - 2) (vc - 2)], .bool false]) (by simp [results, Tryz.results33, go_sem, w0, w1, w2]) rfl ⟨fB, _, rfl, hnum _ (by simp [World.setCell]; omega) fun j hj => ?_⟩
              exact (cell3 (by show g ≠ w.heap.size; omega)).trans ((hB4.cell (p := ⟨g, j, none⟩) (by show g < W3.heap.size; omega)).trans ((hB3.cell (p := ⟨g, j, none⟩) hgl).trans (hcell j hj)))
        | true =>
          rw [hvb] at hval
          refine wp_region_any (by kernel_rfl) ?_
          change wpAny _ _ _ _ _ _ _ (World.drew _)
          refine wpAny_ready (rs := [0, 1]) (by kernel_rfl) (by simp) ?_
          refine AllReady.cons rfl (fun K8 hK8 => ?_) (AllReady.cons rfl (fun K8 hK8 => ?_) AllReady.nil)
          · go_simp
            refine hK8 _ _ ?_
            clear hK8 K8
            refine wpAny_ready (rs := [1]) (by kernel_rfl) (by simp) ?_
            refine AllReady.cons rfl (fun K8 hK8 => ?_) AllReady.nil
            go_simp
            refine hK8 _ _ ?_
            clear hK8 K8
            refine wpAny_ready (rs := [2]) (by kernel_rfl) (by simp) ?_
            refine AllReady.cons rfl (fun K8 hK8 => ?_) AllReady.nil
            go_simp
            refine hval.mono ?_
            rintro e W4 ⟨rfl, hB4⟩
            obtain ⟨r0, r1, r2⟩ := row3 (W' := W4) (hB4.block wr.heap.size (by show wr.heap.size < W3.heap.size; omega)) e3
            have hs4 : W3.heap.size ≤ W4.heap.size := hB4.size
            have hb4 := hb3.trans (hB4.mono hb3.size)
            have e4 := (hB4.block wr.heap.size (by show wr.heap.size < W3.heap.size; omega)).trans e3
            have hc4 : ∀ j, j < M → W4.cell? ⟨g, j, none⟩ = some (.int .i64 (nums j)) := fun j hj => (hB4.cell (p := ⟨g, j, none⟩) (by show g < W3.heap.size; omega)).trans ((hB3.cell (p := ⟨g, j, none⟩) hgl).trans (hcell j hj))
            have hlin := hli hvb W4 (.slice ca (M - 2) (vc - 2)) hb4 (hnum W4 (by omega) hc4)
            have bx4 := (hB4.block w.heap.size (by show w.heap.size < W3.heap.size; omega)).trans bx3
            refine hK8 _ _ ?_
            clear hK8 K8
            refine wpAny_take (i := 3) (v := .bool true) rfl (by kernel_rfl) (by kernel_rfl) (by kernel_rfl) (fun _ _ _ h => h) (Or.inl ⟨by rfl, by intro w; go_simp⟩) ?_
            refine wpAny_take (i := 6) (v := .string S) rfl (by kernel_rfl) (by kernel_rfl) (by kernel_rfl) (fun _ _ _ h => h) (Or.inl ⟨by rfl, by intro w; go_simp⟩) ?_
            refine wpAny_ready (rs := [4]) (by kernel_rfl) (by simp) ?_
            refine AllReady.cons rfl (fun K8 hK8 => ?_) AllReady.nil
            go_simp
            refine hK8 _ _ ?_
            clear hK8 K8
            refine wpAny_ready (rs := [5]) (by kernel_rfl) (by simp) ?_
            refine AllReady.cons rfl (fun K8 hK8 => ?_) AllReady.nil
            go_simp
            refine hlin.mono ?_
            rintro e W5 ⟨rfl, hB5⟩
            have hs5 : W4.heap.size ≤ W5.heap.size := hB5.size
            obtain ⟨r0, r1, r2⟩ := row3 (W' := W5) (hB5.block wr.heap.size (by omega)) e4
            obtain ⟨w0, w1, w2, x0, x1, x2⟩ := box3 ((hB5.block w.heap.size (by omega)).trans bx4)
            refine hK8 _ _ ?_
            clear hK8 K8
            refine wpAny_take (i := 7) (v := .bool (tx == x)) rfl (by kernel_rfl) (by kernel_rfl) (by kernel_rfl) (fun _ _ _ h => h) (Or.inl ⟨by rfl, by intro w; go_simp⟩) ?_
            refine wpAny_take (i := 8) (v := .bool (tx == x)) rfl (by kernel_rfl) (by kernel_rfl) (by kernel_rfl) (fun _ _ _ h => h) (Or.inl ⟨by rfl, by intro w; go_simp⟩) ?_
            refine wpAny_ready (rs := [9]) (by kernel_rfl) (by simp) ?_
            refine AllReady.cons rfl (fun K8 hK8 => ?_) AllReady.nil
            go_simp
            refine hK8 _ _ ?_
            clear hK8 K8
            refine wpAny_ready (rs := [10]) (by kernel_rfl) (by simp) ?_
            refine AllReady.cons rfl (fun K8 hK8 => ?_) AllReady.nil
            go_simp
            refine hK8 _ _ ?_
            clear hK8 K8
            refine wpAny_done (by kernel_rfl) ?_ _
            have fB := set3 (set3 (set3 (hb4.trans (hB5.mono hb4.size)) 0 (.int .i64 (nums 0))) 1 (.int .i64 (nums 1))) 2 (.slice ca (M - 2) (vc - 2))
            go_wp2
            refine bodyPost_ret (v := .tuple #[.agg #[.int .i64 (nums 0), .int .i64 (nums 1), .slice ca (M - 2) (vc - 2)], .bool (tx == x)]) (by simp [results, Tryz.results33, go_sem, w0, w1, w2]) rfl ⟨fB, _, rfl, hnum _ (by simp [World.setCell]; omega) fun j hj => ?_⟩
            exact (cell3 (by show g ≠ w.heap.size; omega)).trans ((hB5.cell (p := ⟨g, j, none⟩) (by show g < W4.heap.size; omega)).trans (hc4 j hj))
          · go_simp
            refine hK8 _ _ ?_
            clear hK8 K8
            refine wpAny_ready (rs := [0, 2]) (by kernel_rfl) (by simp) ?_
            refine AllReady.cons rfl (fun K8 hK8 => ?_) (AllReady.cons rfl (fun K8 hK8 => ?_) AllReady.nil)
            · go_simp
              refine hK8 _ _ ?_
              clear hK8 K8
              refine wpAny_ready (rs := [2]) (by kernel_rfl) (by simp) ?_
              refine AllReady.cons rfl (fun K8 hK8 => ?_) AllReady.nil
              go_simp
              refine hval.mono ?_
              rintro e W4 ⟨rfl, hB4⟩
              obtain ⟨r0, r1, r2⟩ := row3 (W' := W4) (hB4.block wr.heap.size (by show wr.heap.size < W3.heap.size; omega)) e3
              have hs4 : W3.heap.size ≤ W4.heap.size := hB4.size
              have hb4 := hb3.trans (hB4.mono hb3.size)
              have e4 := (hB4.block wr.heap.size (by show wr.heap.size < W3.heap.size; omega)).trans e3
              have hc4 : ∀ j, j < M → W4.cell? ⟨g, j, none⟩ = some (.int .i64 (nums j)) := fun j hj => (hB4.cell (p := ⟨g, j, none⟩) (by show g < W3.heap.size; omega)).trans ((hB3.cell (p := ⟨g, j, none⟩) hgl).trans (hcell j hj))
              have hlin := hli hvb W4 (.slice ca (M - 2) (vc - 2)) hb4 (hnum W4 (by omega) hc4)
              have bx4 := (hB4.block w.heap.size (by show w.heap.size < W3.heap.size; omega)).trans bx3
              refine hK8 _ _ ?_
              clear hK8 K8
              refine wpAny_take (i := 3) (v := .bool true) rfl (by kernel_rfl) (by kernel_rfl) (by kernel_rfl) (fun _ _ _ h => h) (Or.inl ⟨by rfl, by intro w; go_simp⟩) ?_
              refine wpAny_take (i := 6) (v := .string S) rfl (by kernel_rfl) (by kernel_rfl) (by kernel_rfl) (fun _ _ _ h => h) (Or.inl ⟨by rfl, by intro w; go_simp⟩) ?_
              refine wpAny_ready (rs := [4]) (by kernel_rfl) (by simp) ?_
              refine AllReady.cons rfl (fun K8 hK8 => ?_) AllReady.nil
              go_simp
              refine hK8 _ _ ?_
              clear hK8 K8
              refine wpAny_ready (rs := [5]) (by kernel_rfl) (by simp) ?_
              refine AllReady.cons rfl (fun K8 hK8 => ?_) AllReady.nil
              go_simp
              refine hlin.mono ?_
              rintro e W5 ⟨rfl, hB5⟩
              have hs5 : W4.heap.size ≤ W5.heap.size := hB5.size
              obtain ⟨r0, r1, r2⟩ := row3 (W' := W5) (hB5.block wr.heap.size (by omega)) e4
              obtain ⟨w0, w1, w2, x0, x1, x2⟩ := box3 ((hB5.block w.heap.size (by omega)).trans bx4)
              refine hK8 _ _ ?_
              clear hK8 K8
              refine wpAny_take (i := 7) (v := .bool (tx == x)) rfl (by kernel_rfl) (by kernel_rfl) (by kernel_rfl) (fun _ _ _ h => h) (Or.inl ⟨by rfl, by intro w; go_simp⟩) ?_
              refine wpAny_take (i := 8) (v := .bool (tx == x)) rfl (by kernel_rfl) (by kernel_rfl) (by kernel_rfl) (fun _ _ _ h => h) (Or.inl ⟨by rfl, by intro w; go_simp⟩) ?_
              refine wpAny_ready (rs := [9]) (by kernel_rfl) (by simp) ?_
              refine AllReady.cons rfl (fun K8 hK8 => ?_) AllReady.nil
              go_simp
              refine hK8 _ _ ?_
              clear hK8 K8
              refine wpAny_ready (rs := [10]) (by kernel_rfl) (by simp) ?_
              refine AllReady.cons rfl (fun K8 hK8 => ?_) AllReady.nil
              go_simp
              refine hK8 _ _ ?_
              clear hK8 K8
              refine wpAny_done (by kernel_rfl) ?_ _
              have fB := set3 (set3 (set3 (hb4.trans (hB5.mono hb4.size)) 0 (.int .i64 (nums 0))) 1 (.int .i64 (nums 1))) 2 (.slice ca (M - 2) (vc - 2))
              go_wp2
              refine bodyPost_ret (v := .tuple #[.agg #[.int .i64 (nums 0), .int .i64 (nums 1), .slice ca (M - 2) (vc - 2)], .bool (tx == x)]) (by simp [results, Tryz.results33, go_sem, w0, w1, w2]) rfl ⟨fB, _, rfl, hnum _ (by simp [World.setCell]; omega) fun j hj => ?_⟩
              exact (cell3 (by show g ≠ w.heap.size; omega)).trans ((hB5.cell (p := ⟨g, j, none⟩) (by show g < W4.heap.size; omega)).trans (hc4 j hj))
            · go_simp
              refine hval.mono ?_
              rintro e W4 ⟨rfl, hB4⟩
              obtain ⟨r0, r1, r2⟩ := row3 (W' := W4) (hB4.block wr.heap.size (by show wr.heap.size < W3.heap.size; omega)) e3
              have hs4 : W3.heap.size ≤ W4.heap.size := hB4.size
              have hb4 := hb3.trans (hB4.mono hb3.size)
              have e4 := (hB4.block wr.heap.size (by show wr.heap.size < W3.heap.size; omega)).trans e3
              have hc4 : ∀ j, j < M → W4.cell? ⟨g, j, none⟩ = some (.int .i64 (nums j)) := fun j hj => (hB4.cell (p := ⟨g, j, none⟩) (by show g < W3.heap.size; omega)).trans ((hB3.cell (p := ⟨g, j, none⟩) hgl).trans (hcell j hj))
              have hlin := hli hvb W4 (.slice ca (M - 2) (vc - 2)) hb4 (hnum W4 (by omega) hc4)
              have bx4 := (hB4.block w.heap.size (by show w.heap.size < W3.heap.size; omega)).trans bx3
              refine hK8 _ _ ?_
              clear hK8 K8
              refine wpAny_take (i := 3) (v := .bool true) rfl (by kernel_rfl) (by kernel_rfl) (by kernel_rfl) (fun _ _ _ h => h) (Or.inl ⟨by rfl, by intro w; go_simp⟩) ?_
              refine wpAny_take (i := 6) (v := .string S) rfl (by kernel_rfl) (by kernel_rfl) (by kernel_rfl) (fun _ _ _ h => h) (Or.inl ⟨by rfl, by intro w; go_simp⟩) ?_
              refine wpAny_ready (rs := [0, 4]) (by kernel_rfl) (by simp) ?_
              refine AllReady.cons rfl (fun K8 hK8 => ?_) (AllReady.cons rfl (fun K8 hK8 => ?_) AllReady.nil)
              · go_simp
                refine hK8 _ _ ?_
                clear hK8 K8
                refine wpAny_ready (rs := [4]) (by kernel_rfl) (by simp) ?_
                refine AllReady.cons rfl (fun K8 hK8 => ?_) AllReady.nil
                go_simp
                refine hK8 _ _ ?_
                clear hK8 K8
                refine wpAny_ready (rs := [5]) (by kernel_rfl) (by simp) ?_
                refine AllReady.cons rfl (fun K8 hK8 => ?_) AllReady.nil
                go_simp
                refine hlin.mono ?_
                rintro e W5 ⟨rfl, hB5⟩
                have hs5 : W4.heap.size ≤ W5.heap.size := hB5.size
                obtain ⟨r0, r1, r2⟩ := row3 (W' := W5) (hB5.block wr.heap.size (by omega)) e4
                obtain ⟨w0, w1, w2, x0, x1, x2⟩ := box3 ((hB5.block w.heap.size (by omega)).trans bx4)
                refine hK8 _ _ ?_
                clear hK8 K8
                refine wpAny_take (i := 7) (v := .bool (tx == x)) rfl (by kernel_rfl) (by kernel_rfl) (by kernel_rfl) (fun _ _ _ h => h) (Or.inl ⟨by rfl, by intro w; go_simp⟩) ?_
                refine wpAny_take (i := 8) (v := .bool (tx == x)) rfl (by kernel_rfl) (by kernel_rfl) (by kernel_rfl) (fun _ _ _ h => h) (Or.inl ⟨by rfl, by intro w; go_simp⟩) ?_
                refine wpAny_ready (rs := [9]) (by kernel_rfl) (by simp) ?_
                refine AllReady.cons rfl (fun K8 hK8 => ?_) AllReady.nil
                go_simp
                refine hK8 _ _ ?_
                clear hK8 K8
                refine wpAny_ready (rs := [10]) (by kernel_rfl) (by simp) ?_
                refine AllReady.cons rfl (fun K8 hK8 => ?_) AllReady.nil
                go_simp
                refine hK8 _ _ ?_
                clear hK8 K8
                refine wpAny_done (by kernel_rfl) ?_ _
                have fB := set3 (set3 (set3 (hb4.trans (hB5.mono hb4.size)) 0 (.int .i64 (nums 0))) 1 (.int .i64 (nums 1))) 2 (.slice ca (M - 2) (vc - 2))
                go_wp2
                refine bodyPost_ret (v := .tuple #[.agg #[.int .i64 (nums 0), .int .i64 (nums 1), .slice ca (M - 2) (vc - 2)], .bool (tx == x)]) (by simp [results, Tryz.results33, go_sem, w0, w1, w2]) rfl ⟨fB, _, rfl, hnum _ (by simp [World.setCell]; omega) fun j hj => ?_⟩
                exact (cell3 (by show g ≠ w.heap.size; omega)).trans ((hB5.cell (p := ⟨g, j, none⟩) (by show g < W4.heap.size; omega)).trans (hc4 j hj))
              · go_simp
                refine hK8 _ _ ?_
                clear hK8 K8
                refine wpAny_ready (rs := [0, 5]) (by kernel_rfl) (by simp) ?_
                refine AllReady.cons rfl (fun K8 hK8 => ?_) (AllReady.cons rfl (fun K8 hK8 => ?_) AllReady.nil)
                · go_simp
                  refine hK8 _ _ ?_
                  clear hK8 K8
                  refine wpAny_ready (rs := [5]) (by kernel_rfl) (by simp) ?_
                  refine AllReady.cons rfl (fun K8 hK8 => ?_) AllReady.nil
                  go_simp
                  refine hlin.mono ?_
                  rintro e W5 ⟨rfl, hB5⟩
                  have hs5 : W4.heap.size ≤ W5.heap.size := hB5.size
                  obtain ⟨r0, r1, r2⟩ := row3 (W' := W5) (hB5.block wr.heap.size (by omega)) e4
                  obtain ⟨w0, w1, w2, x0, x1, x2⟩ := box3 ((hB5.block w.heap.size (by omega)).trans bx4)
                  refine hK8 _ _ ?_
                  clear hK8 K8
                  refine wpAny_take (i := 7) (v := .bool (tx == x)) rfl (by kernel_rfl) (by kernel_rfl) (by kernel_rfl) (fun _ _ _ h => h) (Or.inl ⟨by rfl, by intro w; go_simp⟩) ?_
                  refine wpAny_take (i := 8) (v := .bool (tx == x)) rfl (by kernel_rfl) (by kernel_rfl) (by kernel_rfl) (fun _ _ _ h => h) (Or.inl ⟨by rfl, by intro w; go_simp⟩) ?_
                  refine wpAny_ready (rs := [9]) (by kernel_rfl) (by simp) ?_
                  refine AllReady.cons rfl (fun K8 hK8 => ?_) AllReady.nil
                  go_simp
                  refine hK8 _ _ ?_
                  clear hK8 K8
                  refine wpAny_ready (rs := [10]) (by kernel_rfl) (by simp) ?_
                  refine AllReady.cons rfl (fun K8 hK8 => ?_) AllReady.nil
                  go_simp
                  refine hK8 _ _ ?_
                  clear hK8 K8
                  refine wpAny_done (by kernel_rfl) ?_ _
                  have fB := set3 (set3 (set3 (hb4.trans (hB5.mono hb4.size)) 0 (.int .i64 (nums 0))) 1 (.int .i64 (nums 1))) 2 (.slice ca (M - 2) (vc - 2))
                  go_wp2
                  refine bodyPost_ret (v := .tuple #[.agg #[.int .i64 (nums 0), .int .i64 (nums 1), .slice ca (M - 2) (vc - 2)], .bool (tx == x)]) (by simp [results, Tryz.results33, go_sem, w0, w1, w2]) rfl ⟨fB, _, rfl, hnum _ (by simp [World.setCell]; omega) fun j hj => ?_⟩
                  exact (cell3 (by show g ≠ w.heap.size; omega)).trans ((hB5.cell (p := ⟨g, j, none⟩) (by show g < W4.heap.size; omega)).trans (hc4 j hj))
                · go_simp
                  refine hlin.mono ?_
                  rintro e W5 ⟨rfl, hB5⟩
                  have hs5 : W4.heap.size ≤ W5.heap.size := hB5.size
                  obtain ⟨r0, r1, r2⟩ := row3 (W' := W5) (hB5.block wr.heap.size (by omega)) e4
                  obtain ⟨w0, w1, w2, x0, x1, x2⟩ := box3 ((hB5.block w.heap.size (by omega)).trans bx4)
                  refine hK8 _ _ ?_
                  clear hK8 K8
                  refine wpAny_take (i := 7) (v := .bool (tx == x)) rfl (by kernel_rfl) (by kernel_rfl) (by kernel_rfl) (fun _ _ _ h => h) (Or.inl ⟨by rfl, by intro w; go_simp⟩) ?_
                  refine wpAny_take (i := 8) (v := .bool (tx == x)) rfl (by kernel_rfl) (by kernel_rfl) (by kernel_rfl) (fun _ _ _ h => h) (Or.inl ⟨by rfl, by intro w; go_simp⟩) ?_
                  refine wpAny_ready (rs := [0]) (by kernel_rfl) (by simp) ?_
                  refine AllReady.cons rfl (fun K8 hK8 => ?_) AllReady.nil
                  go_simp
                  refine hK8 _ _ ?_
                  clear hK8 K8
                  refine wpAny_ready (rs := [9]) (by kernel_rfl) (by simp) ?_
                  refine AllReady.cons rfl (fun K8 hK8 => ?_) AllReady.nil
                  go_simp
                  refine hK8 _ _ ?_
                  clear hK8 K8
                  refine wpAny_ready (rs := [10]) (by kernel_rfl) (by simp) ?_
                  refine AllReady.cons rfl (fun K8 hK8 => ?_) AllReady.nil
                  go_simp
                  refine hK8 _ _ ?_
                  clear hK8 K8
                  refine wpAny_done (by kernel_rfl) ?_ _
                  have fB := set3 (set3 (set3 (hb4.trans (hB5.mono hb4.size)) 0 (.int .i64 (nums 0))) 1 (.int .i64 (nums 1))) 2 (.slice ca (M - 2) (vc - 2))
                  go_wp2
                  refine bodyPost_ret (v := .tuple #[.agg #[.int .i64 (nums 0), .int .i64 (nums 1), .slice ca (M - 2) (vc - 2)], .bool (tx == x)]) (by simp [results, Tryz.results33, go_sem, w0, w1, w2]) rfl ⟨fB, _, rfl, hnum _ (by simp [World.setCell]; omega) fun j hj => ?_⟩
                  exact (cell3 (by show g ≠ w.heap.size; omega)).trans ((hB5.cell (p := ⟨g, j, none⟩) (by show g < W4.heap.size; omega)).trans (hc4 j hj))

end Go.Proofs.YtiijghkfinkphaaGreatDoor.Vm

/- Both parses answer what their rows say. -/
namespace Go.Proofs.YtiijghkfinkphaaGreatDoor.Vm
open Go Go.Proofs Go.RowKit
set_option linter.unusedVariables false
set_option linter.unusedSimpArgs false

def badR : List RV := [.agg [.int .i64 0, .int .i64 0, .nils], .p (.bool false)]
def numR (ws : List Int) : PV := .sl 1 (ws.map fun n => [.int .i64 n])

theorem run_badE {F : Fun} {rs : List RV} (h : badE.run F = some rs) : rs = badR := by
  simp only [badE, Ask.run, Option.some.injEq] at h
  exact h.symm

theorem run_parseEnd {F : Fun} {valid line : Nat} {x : List UInt8} {l : List Int} {rs : List RV} (h : (parseEnd valid line x l).run F = some rs) :
    (l.length < 2 ∧ rs = badR) ∨ ∃ t k ws vb tx, l = t :: k :: ws ∧ F valid [.t (.agg [.int .i64 t, .int .i64 k, numR ws])] [] = some ([.p (.bool vb)], []) ∧ (vb = true → F line [.t (.agg [.int .i64 t, .int .i64 k, numR ws])] [] = some ([.p (.str tx)], [])) ∧
      rs = [.agg [.int .i64 t, .int .i64 k, numR ws], .p (.bool (vb && (tx == x)))] := by
  unfold parseEnd at h
  split at h
  · rename_i t k ws
    obtain ⟨vb, h1, h⟩ := run_bool h
    cases vb with
    | false =>
      refine .inr ⟨t, k, ws, false, [], rfl, h1, (fun e => by cases e), ?_⟩
      simp only [cond_false, Ask.run, Option.some.injEq] at h
      exact h.symm
    | true =>
      rw [cond_true] at h
      obtain ⟨tx, h2, h⟩ := run_str h
      refine .inr ⟨t, k, ws, true, tx, rfl, h1, fun _ => h2, ?_⟩
      simp only [Ask.run, Option.some.injEq] at h
      exact h.symm
  · rename_i hl
    refine .inl ⟨?_, run_badE h⟩
    match l, hl with
    | [], _ => simp
    | [a], _ => simp
    | a :: b :: l, hl => exact absurd rfl (hl a b l)

theorem run_parseWs {F : Fun} {atoi : Nat} {K : List Int → Ask} {rs : List RV} : ∀ {ws : List (List PV)} {ns : List Int}, (parseWs atoi ws ns K).run F = some rs →
    ∃ l : List Int, l.length ≤ ws.length ∧ (∀ (i : Nat) (n : Int), l[i]? = some n → ∃ u, ws[i]? = some [.str u] ∧ F atoi [.t (.p (.str u))] [] = some ([.p (.int .i64 n), .p (.ifc true)], [])) ∧
      (l.length = ws.length ∧ (K (ns ++ l)).run F = some rs ∨ ∃ u n, ws[l.length]? = some [.str u] ∧ F atoi [.t (.p (.str u))] [] = some ([.p (.int .i64 n), .p (.ifc false)], []) ∧ rs = badR)
  | [], ns, h => ⟨[], Nat.le_refl _, fun i n hi => by simp at hi, .inl ⟨rfl, by rw [List.append_nil]; exact h⟩⟩
  | w :: ws, ns, h => by
    unfold parseWs at h
    split at h
    · rename_i ns' K' e
      cases e
    · rename_i u l' e
      cases e
      simp only [Ask.run] at h
      split at h
      · rename_i r hr
        split at h
        · rename_i n
          obtain ⟨l, h1, h2, h3⟩ := run_parseWs h
          refine ⟨n :: l, by simp; omega, fun i m hi => ?_, ?_⟩
          · cases i with
            | zero =>
              simp at hi
              subst hi
              exact ⟨u, rfl, hr⟩
            | succ i => simpa using h2 i m (by simpa using hi)
          · rcases h3 with ⟨h3, h4⟩ | ⟨v, m, h3, h4⟩
            · exact .inl ⟨by simp [h3], by simpa using h4⟩
            · exact .inr ⟨v, m, by simpa using h3, h4⟩
        · rename_i n
          exact ⟨[], by simp, fun i n hi => by simp at hi, .inr ⟨u, n, rfl, hr, run_badE h⟩⟩
        · cases h
      · cases h
    · cases h

theorem run_parseRs {F : Fun} {number : Nat} {K : List Int → Ask} {rs : List RV} : ∀ {ws : List (List UInt8)} {ns : List Int}, (parseRs number ws ns K).run F = some rs →
    ∃ l : List Int, l.length ≤ ws.length ∧ (∀ (i : Nat) (n : Int), l[i]? = some n → ∃ u, ws[i]? = some u ∧ F number [.t (.p (.str u))] [] = some ([.p (.int .i64 n), .p (.bool true)], [])) ∧
      (l.length = ws.length ∧ (K (ns ++ l)).run F = some rs ∨ ∃ u n, ws[l.length]? = some u ∧ F number [.t (.p (.str u))] [] = some ([.p (.int .i64 n), .p (.bool false)], []) ∧ rs = badR)
  | [], ns, h => ⟨[], Nat.le_refl _, fun i n hi => by simp at hi, .inl ⟨rfl, by rw [List.append_nil]; exact h⟩⟩
  | u :: ws, ns, h => by
    unfold parseRs at h
    simp only [Ask.run] at h
    split at h
    · rename_i r hr
      split at h
      · rename_i n
        obtain ⟨l, h1, h2, h3⟩ := run_parseRs h
        refine ⟨n :: l, by simp; omega, fun i m hi => ?_, ?_⟩
        · cases i with
          | zero =>
            simp at hi
            subst hi
            exact ⟨u, rfl, hr⟩
          | succ i => simpa using h2 i m (by simpa using hi)
        · rcases h3 with ⟨h3, h4⟩ | ⟨v, m, h3, h4⟩
          · exact .inl ⟨by simp [h3], by simpa using h4⟩
          · exact .inr ⟨v, m, by simpa using h3, h4⟩
      · rename_i n
        exact ⟨[], by simp, fun i n hi => by simp at hi, .inr ⟨u, n, rfl, hr, run_badE h⟩⟩
      · cases h
    · cases h

theorem nums_vp {w : World} {O : Nat → Prop} {lo : Nat} (hO : ∀ b, O b → b < lo) {c : Value} {ws : List Int} {f : Nat → Int} (hf : ∀ j n, ws[j]? = some n → f j = n) (h : NumsAt lo c ws.length f w) : VP w O (numR ws) c := by
  rcases h with ⟨a, cap, rfl, h0⟩ | ⟨b, off, cap, rfl, hb, hlo, hc, hcell⟩
  · obtain rfl : ws = [] := List.length_eq_zero_iff.1 h0
    exact .sl0 _ _ _
  · have := VP.sl 1 (ws.map fun n => [PV.int .i64 n]) b off cap (fun i _ => .int .i64 (f i)) hb (fun ho => by have := hO b ho; omega) (by simpa using hc) (w := w) (O := O) ?_ ?_ ?_
    · rw [List.length_map] at this
      exact this
    · intro e he
      obtain ⟨n, _, rfl⟩ := List.mem_map.1 he
      rfl
    · intro i j e c he hj
      rw [List.getElem?_map] at he
      obtain ⟨n, hn, rfl⟩ := Option.map_eq_some_iff.1 he
      match j, hj with
      | 0, _ => simpa using hcell i (List.getElem?_eq_some_iff.1 hn).1
      | j + 1, hj => simp at hj
    · intro i j e c he hj
      rw [List.getElem?_map] at he
      obtain ⟨n, hn, rfl⟩ := Option.map_eq_some_iff.1 he
      match j, hj with
      | 0, hj => simp at hj; subst hj; rw [hf i n hn]; exact .int _ _
      | j + 1, hj => simp at hj

theorem own_lt {C : Ctx} (hok : Ok C) (hC : C.h = []) (W : World) : ∀ b, (C.setW W).O b → b < C.w.heap.size := fun b ho => by
  rcases ho with h | h
  · exact (hok.x b h).1
  · exact absurd h (no_own (C := C.setW W) hC b)

theorem end_bool {F : Fun} (hF : FSound E F) {fn : Nat} (hfn : hasN fn E.okf = true) {t k : Int} {ws : List Int} {vb : Bool} (h : F fn [.t (.agg [.int .i64 t, .int .i64 k, numR ws])] [] = some ([.p (.bool vb)], [])) {C : Ctx} (hok : Ok C) (hC : C.h = []) {f : Nat → Int} (hf : ∀ j n, ws[j]? = some n → f j = n) :
    ∀ W c, Below C.w.heap.size C.w W → NumsAt C.w.heap.size c ws.length f W → Calls E.P fn #[.agg #[.int .i64 t, .int .i64 k, c]] W fun e w' => e = .returned (.bool vb) ∧ Below W.heap.size W w' := fun W c hW hn =>
  call_bool hF hfn (args := [.t (.agg [.int .i64 t, .int .i64 k, numR ws])]) h (C := C.setW W) (ok_grow hok (Grow.of_below hW)) hC (W := W) (Grow.refl _) (us := #[.agg #[.int .i64 t, .int .i64 k, c]]) ⟨⟨_, rfl, .int _ _, .int _ _, nums_vp (own_lt hok hC W) hf hn, trivial⟩, trivial⟩
theorem end_str {F : Fun} (hF : FSound E F) {fn : Nat} (hfn : hasN fn E.okf = true) {t k : Int} {ws : List Int} {tx : List UInt8} (h : F fn [.t (.agg [.int .i64 t, .int .i64 k, numR ws])] [] = some ([.p (.str tx)], [])) {C : Ctx} (hok : Ok C) (hC : C.h = []) {f : Nat → Int} (hf : ∀ j n, ws[j]? = some n → f j = n) :
    ∀ W c, Below C.w.heap.size C.w W → NumsAt C.w.heap.size c ws.length f W → Calls E.P fn #[.agg #[.int .i64 t, .int .i64 k, c]] W fun e w' => e = .returned (.string ⟨tx.toArray⟩) ∧ Below W.heap.size W w' := fun W c hW hn =>
  call_str hF hfn (args := [.t (.agg [.int .i64 t, .int .i64 k, numR ws])]) (by rw [h]; rfl) (C := C.setW W) (ok_grow hok (Grow.of_below hW)) hC (W := W) (Grow.refl _) (us := #[.agg #[.int .i64 t, .int .i64 k, c]]) ⟨⟨_, rfl, .int _ _, .int _ _, nums_vp (own_lt hok hC W) hf hn, trivial⟩, trivial⟩

theorem parse_ends {C : Ctx} (hok : Ok C) (hC : C.h = []) {l : List Int} {len : Nat} {vb eq : Bool} {nums : Nat → Int} (hnums : ∀ j n, l[j]? = some n → nums j = n) {rs : List RV}
    (hrs : (l.length < len ∨ len < 2) ∧ rs = badR ∨ l.length = len ∧ ∃ t k ws, l = t :: k :: ws ∧ rs = [.agg [.int .i64 t, .int .i64 k, numR ws], .p (.bool (vb && eq))]) {e : Ending} {w' : World} (hB : Below C.w.heap.size C.w w')
    (hres : if l.length < len ∨ len < 2 then e = .returned (.tuple #[.agg #[.int .i64 0, .int .i64 0, .slice none 0 0], .bool false])
      else ∃ c, e = .returned (.tuple #[.agg #[.int .i64 (nums 0), .int .i64 (nums 1), c], .bool (vb && eq)]) ∧ NumsAt C.w.heap.size c (len - 2) (fun j => nums (j + 2)) w') :
    match (generalizing := false) e with
    | .returned u => ∃ D : Ctx, D.w = w' ∧ Ext C D ∧ Ok D ∧ D.h = ([] ++ rawB rs).map Ent.blk ∧ VA D (valOf (rawT 0 rs)) u
    | _ => False := by
  have hg := Grow.of_below hB
  rcases hrs with ⟨h1, rfl⟩ | ⟨h1, t, k, ws, rfl, rfl⟩
  · rw [if_pos h1] at hres
    subst hres
    exact ⟨C.setW w', rfl, ext_grow C hg, ok_grow hok hg, hC, _, rfl, ⟨_, rfl, .int _ _, .int _ _, .nils, trivial⟩, .bool _, trivial⟩
  · subst h1
    rw [if_neg (by simp)] at hres
    obtain ⟨c, rfl, hn⟩ := hres
    rw [hnums 0 t rfl, hnums 1 k rfl]
    exact ⟨C.setW w', rfl, ext_grow C hg, ok_grow hok hg, hC, _, rfl, ⟨_, rfl, .int _ _, .int _ _, nums_vp (own_lt hok hC w') (fun j n hj => hnums (j + 2) n (by simpa using hj)) (show NumsAt C.w.heap.size c ws.length (fun j => nums (j + 2)) w' from by simpa using hn), trivial⟩, .bool _, trivial⟩

theorem okf_valid : hasN 37 E.okf = true := by kernel_rfl
theorem okf_line : hasN 21 E.okf = true := by kernel_rfl
theorem okf_trim : hasN 54 E.okf = true := by kernel_rfl
theorem okf_split : hasN 53 E.okf = true := by kernel_rfl
theorem okf_atoi : hasN 55 E.okf = true := by kernel_rfl
theorem okf_rvalid : hasN 47 E.okf = true := by kernel_rfl
theorem okf_rline : hasN 49 E.okf = true := by kernel_rfl
theorem okf_number : hasN 57 E.okf = true := by kernel_rfl

theorem two_res {C : Ctx} {a b : PV} {u : Value} (h : VA C (valOf (rawT 0 [.p a, .p b])) u) : ∃ x y, u = .tuple #[x, y] ∧ C.P a x ∧ C.P b y := by
  obtain ⟨us, rfl, h⟩ := h
  cases hl : us.toList with
  | nil => rw [hl] at h; exact h.elim
  | cons x l => cases l with
    | nil => rw [hl] at h; exact h.2.elim
    | cons y l => cases l with
      | nil => rw [hl] at h; exact ⟨x, y, by rw [arr2 hl], h.1, h.2.1⟩
      | cons => rw [hl] at h; exact h.2.2.elim

set_option maxHeartbeats 1000000 in
theorem s_hParse : ∀ F, FSound E F → ∀ args rs, (hParse 54 53 55 37 21).run F args = some rs → FOk E 29 args [] rs [] := by
  intro F hF args rs h
  replace h : (parseT 54 53 55 37 21 args).run F = some rs := h
  unfold parseT at h
  split at h
  case h_2 => cases h
  rename_i x
  cases hxl : Nat.ble x.length 100000 with
  | false => rw [hxl] at h; cases h
  | true =>
  rw [hxl, cond_true] at h
  obtain ⟨y, hy, h⟩ := run_str h
  simp only [Ask.run] at h
  split at h
  case h_2 => cases h
  rename_i r hr
  split at h
  case h_2 => cases h
  rename_i ws
  cases hwl : Nat.ble ws.length 1000000 with
  | false => rw [hwl] at h; cases h
  | true =>
  rw [hwl, cond_true] at h
  have hlen : ws.length ≤ 1000000 := Nat.le_of_ble_eq_true hwl
  obtain ⟨l, hle, hgo, hend⟩ := run_parseWs h
  clear h
  have hwd : ∀ j, j < ws.length → j ≤ l.length → ∃ u, ws[j]? = some [.str u] := by
    intro j h1 h2
    rcases Nat.lt_or_ge j l.length with h3 | h3
    · obtain ⟨u, hu, _⟩ := hgo j _ (List.getElem?_eq_getElem h3)
      exact ⟨u, hu⟩
    · obtain rfl : j = l.length := by omega
      rcases hend with ⟨h4, _⟩ | ⟨u, n, h4, _⟩
      · omega
      · exact ⟨u, h4⟩
  obtain ⟨wf, hwf⟩ : ∃ wf : Nat → List UInt8, ∀ j u, ws[j]? = some [.str u] → wf j = u := ⟨fun j => match ws[j]? with | some [.str u] => u | _ => [], fun j u h => by simp only [h]⟩
  obtain ⟨nums, hnums⟩ : ∃ nums : Nat → Int, ∀ j n, l[j]? = some n → nums j = n := ⟨fun j => l.getD j 0, fun j n h => by simp [List.getD, h]⟩
  obtain ⟨vb, tx, hrs, hends⟩ : ∃ vb tx, ((l.length < ws.length ∨ ws.length < 2) ∧ rs = badR ∨ l.length = ws.length ∧ ∃ t k us, l = t :: k :: us ∧ rs = [.agg [.int .i64 t, .int .i64 k, numR us], .p (.bool (vb && (tx == x)))]) ∧
      (l.length = ws.length → 2 ≤ ws.length → ∃ t k us, l = t :: k :: us ∧ F 37 [.t (.agg [.int .i64 t, .int .i64 k, numR us])] [] = some ([.p (.bool vb)], []) ∧ (vb = true → F 21 [.t (.agg [.int .i64 t, .int .i64 k, numR us])] [] = some ([.p (.str tx)], []))) := by
    rcases hend with ⟨h4, h5⟩ | ⟨u, n, h4, _, h5⟩
    · rcases run_parseEnd h5 with ⟨h6, h7⟩ | ⟨t, k, us, vb, tx, h6, h7, h8, h9⟩
      · have h6' : l.length < 2 := by simpa using h6
        exact ⟨false, [], .inl ⟨.inr (by omega), h7⟩, fun h1 h2 => by omega⟩
      · have h6' : l = t :: k :: us := by simpa using h6
        exact ⟨vb, tx, .inr ⟨h4, t, k, us, h6', h9⟩, fun _ _ => ⟨t, k, us, h6', h7, h8⟩⟩
    · have := (List.getElem?_eq_some_iff.1 h4).1
      exact ⟨false, [], .inl ⟨.inl this, h5⟩, fun h1 h2 => by omega⟩
  intro C hok hC us hv
  obtain ⟨u, rfl, hu⟩ := one_arg hv
  rw [vp_str hu]
  clear hu hv
  refine (parse_walk x y tx C.w ws.length l.length wf nums vb hle hlen ?_ ?_ ?_ ?_ ?_).mono fun e w' ⟨hB, hres⟩ => parse_ends hok hC hnums hrs hB hres
  · intro W hW
    exact call_str hF okf_trim (args := [.t (.p (.str x)), .t (.p (.str [10]))]) (by rw [hy]; rfl) hok hC (Grow.of_below hW) (us := #[.string ⟨x.toArray⟩, .string ⟨#[10]⟩]) ⟨.str _, .str _, trivial⟩
  · intro W hW
    refine (FOk.at (hF.fn _ _ [] _ _ hr okf_split) hok hC (Grow.of_below hW) (us := #[.string ⟨y.toArray⟩, .string ⟨#[32]⟩]) ⟨.str _, .str _, trivial⟩).mono fun e w' ⟨u, he, D, hw, hx, _, _, hu⟩ => ?_
    subst he hw
    replace hu : VP D.w D.O (.sl 1 ws) u := hu
    refine ⟨u, rfl, below_ext hx hC (Nat.le_refl _), ?_⟩
    cases hu with
    | sl0 _ a cap => exact .inl ⟨_, _, rfl, rfl⟩
    | sl _ _ b off cap f hb hO hc hz hcell hvp =>
      refine .inr ⟨b, off, cap, rfl, hb, fun j h1 h2 => ?_⟩
      obtain ⟨u, hu⟩ := hwd j h1 h2
      have a1 := hcell j 0 _ _ hu rfl
      have a2 := hvp j 0 _ _ hu rfl
      generalize f j 0 = z at a1 a2
      cases a2
      rw [hwf j u hu]
      simpa using a1
  · intro k h1 h2 W hW
    obtain ⟨u, hu⟩ := hwd k h1 h2
    rw [hwf k u hu]
    by_cases hk : k < l.length
    · obtain ⟨u', hu', hc⟩ := hgo k _ (List.getElem?_eq_getElem hk)
      obtain rfl : u' = u := by rw [hu'] at hu; simpa using hu
      refine (FOk.at (hF.fn _ _ [] _ _ hc okf_atoi) hok hC (Grow.of_below hW) (us := #[.string ⟨u'.toArray⟩]) ⟨.str _, trivial⟩).mono fun e w' ⟨u, he, D, hw, hx, _, _, hu⟩ => ?_
      subst he hw
      obtain ⟨a, b, rfl, ha, hb⟩ := two_res hu
      cases ha
      cases hb
      refine ⟨_, _, rfl, ?_, below_ext hx hC (Nat.le_refl _)⟩
      rw [if_pos hk]
      exact ⟨(hnums k _ (List.getElem?_eq_getElem hk)).symm, rfl⟩
    · obtain rfl : k = l.length := by omega
      rcases hend with ⟨h4, _⟩ | ⟨u', n, h4, hc, _⟩
      · omega
      obtain rfl : u' = u := by rw [h4] at hu; simpa using hu
      refine (FOk.at (hF.fn _ _ [] _ _ hc okf_atoi) hok hC (Grow.of_below hW) (us := #[.string ⟨u'.toArray⟩]) ⟨.str _, trivial⟩).mono fun e w' ⟨u, he, D, hw, hx, _, _, hu⟩ => ?_
      subst he hw
      obtain ⟨a, b, rfl, ha, hb⟩ := two_res hu
      cases ha
      cases hb
      refine ⟨_, _, rfl, ?_, below_ext hx hC (Nat.le_refl _)⟩
      rw [if_neg hk]
      exact ⟨_, _, rfl⟩
  · intro h1 h2
    obtain ⟨t, k, us, h3, h4, h5⟩ := hends h1 h2
    have hl : ws.length - 2 = us.length := by rw [← h1, h3]; simp
    rw [hl, hnums 0 t (by rw [h3]; rfl), hnums 1 k (by rw [h3]; rfl)]
    exact end_bool hF okf_valid h4 hok hC (fun j n hj => hnums (j + 2) n (by rw [h3]; simpa using hj))
  · intro h1 h2 hvb
    obtain ⟨t, k, us, h3, h4, h5⟩ := hends h1 h2
    have hl : ws.length - 2 = us.length := by rw [← h1, h3]; simp
    rw [hl, hnums 0 t (by rw [h3]; rfl), hnums 1 k (by rw [h3]; rfl)]
    exact end_str hF okf_line (h5 hvb) hok hC (fun j n hj => hnums (j + 2) n (by rw [h3]; simpa using hj))

theorem words_len : ∀ (x : List UInt8), (wordsB x).length ≤ x.length
  | [] => Nat.le_refl _
  | b :: l => by
    have := words_len l
    unfold wordsB
    cases (b == 32 || b == 10) with
    | true => simp; omega
    | false =>
      rw [cond_false]
      split
      · simp
      · rename_i h
        rw [h] at this
        simp at this ⊢
        omega

set_option maxHeartbeats 1000000 in
theorem s_hParseR : ∀ F, FSound E F → ∀ args rs, (hParseR 57 47 49).run F args = some rs → FOk E 33 args [] rs [] := by
  intro F hF args rs h
  replace h : (parseRT 57 47 49 args).run F = some rs := h
  unfold parseRT at h
  split at h
  case h_2 => cases h
  rename_i x
  cases hxb : Nat.ble x.length 100000 with
  | false => rw [hxb] at h; cases h
  | true =>
  rw [hxb, cond_true] at h
  have hxl : x.length ≤ 100000 := Nat.le_of_ble_eq_true hxb
  obtain ⟨l, hle, hgo, hend⟩ := run_parseRs h
  clear h
  obtain ⟨nums, hnums⟩ : ∃ nums : Nat → Int, ∀ j n, l[j]? = some n → nums j = n := ⟨fun j => l.getD j 0, fun j n h => by simp [List.getD, h]⟩
  obtain ⟨vb, tx, hrs, hends⟩ : ∃ vb tx, ((l.length < (wordsB x).length ∨ (wordsB x).length < 2) ∧ rs = badR ∨ l.length = (wordsB x).length ∧ ∃ t k us, l = t :: k :: us ∧ rs = [.agg [.int .i64 t, .int .i64 k, numR us], .p (.bool (vb && (tx == x)))]) ∧
      (l.length = (wordsB x).length → 2 ≤ (wordsB x).length → ∃ t k us, l = t :: k :: us ∧ F 47 [.t (.agg [.int .i64 t, .int .i64 k, numR us])] [] = some ([.p (.bool vb)], []) ∧ (vb = true → F 49 [.t (.agg [.int .i64 t, .int .i64 k, numR us])] [] = some ([.p (.str tx)], []))) := by
    rcases hend with ⟨h4, h5⟩ | ⟨u, n, h4, _, h5⟩
    · rcases run_parseEnd h5 with ⟨h6, h7⟩ | ⟨t, k, us, vb, tx, h6, h7, h8, h9⟩
      · have h6' : l.length < 2 := by simpa using h6
        exact ⟨false, [], .inl ⟨.inr (by omega), h7⟩, fun h1 h2 => by omega⟩
      · have h6' : l = t :: k :: us := by simpa using h6
        exact ⟨vb, tx, .inr ⟨h4, t, k, us, h6', h9⟩, fun _ _ => ⟨t, k, us, h6', h7, h8⟩⟩
    · have := (List.getElem?_eq_some_iff.1 h4).1
      exact ⟨false, [], .inl ⟨.inl this, h5⟩, fun h1 h2 => by omega⟩
  intro C hok hC us hv
  obtain ⟨u, rfl, hu⟩ := one_arg hv
  rw [vp_str hu]
  clear hu hv
  refine (parseR_walk x tx C.w (wordsB x).length l.length nums vb hxl hle rfl (by have := words_len x; omega) ?_ ?_ ?_).mono fun e w' ⟨hB, hres⟩ => parse_ends hok hC hnums hrs hB hres
  · intro k u hu h2 W hW
    by_cases hk : k < l.length
    · obtain ⟨u', hu', hc⟩ := hgo k _ (List.getElem?_eq_getElem hk)
      obtain rfl : u' = u := by rw [hu'] at hu; simpa using hu
      refine (FOk.at (hF.fn _ _ [] _ _ hc okf_number) hok hC (Grow.of_below hW) (us := #[.string ⟨u'.toArray⟩]) ⟨.str _, trivial⟩).mono fun e w' ⟨u, he, D, hw, hx, _, _, hu⟩ => ?_
      subst he hw
      obtain ⟨a, b, rfl, ha, hb⟩ := two_res hu
      cases ha
      cases hb
      refine ⟨_, by rw [decide_eq_true hk], fun _ => (hnums k _ (List.getElem?_eq_getElem hk)).symm, below_ext hx hC (Nat.le_refl _)⟩
    · obtain rfl : k = l.length := by omega
      rcases hend with ⟨h4, _⟩ | ⟨u', n, h4, hc, _⟩
      · have := (List.getElem?_eq_some_iff.1 hu).1
        omega
      obtain rfl : u' = u := by rw [h4] at hu; simpa using hu
      refine (FOk.at (hF.fn _ _ [] _ _ hc okf_number) hok hC (Grow.of_below hW) (us := #[.string ⟨u'.toArray⟩]) ⟨.str _, trivial⟩).mono fun e w' ⟨u, he, D, hw, hx, _, _, hu⟩ => ?_
      subst he hw
      obtain ⟨a, b, rfl, ha, hb⟩ := two_res hu
      cases ha
      cases hb
      refine ⟨_, by rw [decide_eq_false hk], fun h => absurd h hk, below_ext hx hC (Nat.le_refl _)⟩
  · intro h1 h2
    obtain ⟨t, k, us, h3, h4, h5⟩ := hends h1 h2
    have hl : (wordsB x).length - 2 = us.length := by rw [← h1, h3]; simp
    rw [hl, hnums 0 t (by rw [h3]; rfl), hnums 1 k (by rw [h3]; rfl)]
    exact end_bool hF okf_rvalid h4 hok hC (fun j n hj => hnums (j + 2) n (by rw [h3]; simpa using hj))
  · intro h1 h2 hvb
    obtain ⟨t, k, us, h3, h4, h5⟩ := hends h1 h2
    have hl : (wordsB x).length - 2 = us.length := by rw [← h1, h3]; simp
    rw [hl, hnums 0 t (by rw [h3]; rfl), hnums 1 k (by rw [h3]; rfl)]
    exact end_str hF okf_rline (h5 hvb) hok hC (fun j n hj => hnums (j + 2) n (by rw [h3]; simpa using hj))

end Go.Proofs.YtiijghkfinkphaaGreatDoor.Vm
