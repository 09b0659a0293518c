import Derived.Test.YtiijghkfinkphaaGreatDoorCopyS
import Derived.Test.YtiijghkfinkphaaGreatDoorParseS
import Derived.Test.YtiijghkfinkphaaGreatDoorShelf
/- logbook.Read, walked: what the calls inside come to is given. -/
namespace Go.Proofs.YtiijghkfinkphaaGreatDoor.Vm
open Go Go.Proofs Go.RowKit Go.Shelf
open Go.Proofs.YtiijghkfinkphaaGreatDoor (IterBox range_box lines_in Blind SameAt)
attribute [local go_sem] Oper.semAt_some
set_option linter.unusedVariables false
set_option linter.unusedSimpArgs false

theorem lines_call (s : List UInt8) (W : World) : Calls Tryz.prog 28 #[.string ⟨s.toArray⟩] W fun e w' => e = .returned (.func (.func 51) #[] #[.pointer (some ⟨W.heap.size, 0, none⟩)]) ∧ w' = W.alloc (.cells #[.string ⟨s.toArray⟩] 9) := by
  go_enter Tryz.func28, Tryz.ntmps28
  go_wp2
  refine bodyPost_ret (results_tmp rfl _ _ _) rfl ⟨rfl, rfl⟩

theorem wrap_64 (n : Int) : IntKind.i64.wrap n = wrap64 n := by
  unfold IntKind.wrap wrap64
  simp only [IntKind.bits, IntKind.signed, Bool.true_and, decide_eq_true_eq, Nat.reduceSub, Int.reducePow, ge_iff_le]
  split <;> omega

theorem read_to {T K : Nat → Int} {R : Nat → (Nat → Prop) → Value → World → Prop} (hR : ∀ k, KeepsC (R k)) {w W W2 W3 : World} {p k : Nat} {v : Value} {Cs : Nat → Value} {s m : Int} (h : RdG T K R w p k v Cs s m W)
    (hB2 : Below W.heap.size W W2) (hB3 : Below W2.heap.size W2 W3) (o : Obj) : RdG T K R w p k v Cs s m (W3.alloc o) ∧ Adv (p + 2) W (W3.alloc o) := by
  have hs := h.size
  have h2 := hB2.size
  have h3 := hB3.size
  exact ⟨((h.below' hR hB2).below' hR hB3).below' hR ((Below.refl _ W3).alloc (Nat.le_refl _) o), ((Adv.below hB2 (by omega)).trans (Adv.below hB3 (by omega))).trans (Adv.below ((Below.refl _ W3).alloc (Nat.le_refl _) o) (by omega))⟩

theorem read_at {T K : Nat → Int} {R P : Nat → (Nat → Prop) → Value → World → Prop} (hR : ∀ k, KeepsC (R k)) (hP : ∀ k, KeepsC (P k)) {w W W2 W3 : World} {p k : Nat} {v : Value} {Cs : Nat → Value} {s m : Int} (h : RdG T K R w p k v Cs s m W)
    (hB2 : Below W.heap.size W W2) (hB3 : Below W2.heap.size W2 W3) {a b c : Value} (hp : P k (MineR w.heap.size v p) c W3) :
    RdG T K R w p k v Cs s m (W3.alloc (.cells #[a, b, c] 51)) ∧ P k (fun b => v.ownBlock = some b) c (W3.alloc (.cells #[a, b, c] 51)) ∧ (W3.alloc (.cells #[a, b, c] 51)).cell? ⟨p, 0, none⟩ = some v ∧ (W3.alloc (.cells #[a, b, c] 51)).cell? ⟨p, 1, none⟩ = some (.int .u64 s) ∧
      (W3.alloc (.cells #[a, b, c] 51)).cell? ⟨W3.heap.size, 0, none⟩ = some a ∧ (W3.alloc (.cells #[a, b, c] 51)).cell? ⟨W3.heap.size, 1, none⟩ = some b ∧ (W3.alloc (.cells #[a, b, c] 51)).cell? ⟨W3.heap.size, 2, none⟩ = some c := by
  have h4 := ((h.below' hR hB2).below' hR hB3).below' hR ((Below.refl _ W3).alloc (Nat.le_refl _) (.cells #[a, b, c] 51))
  have hq : (W3.alloc (.cells #[a, b, c] 51)).heap[W3.heap.size]? = some (.cells #[a, b, c] 51 (0, 0)) := heap_alloc_new W3 _
  exact ⟨h4, hP k _ _ _ _ _ hp (by simp) (fun b o ho _ _ => (heap_alloc_old W3 _ (heap_lt ho)).trans ho) (fun b _ e => .inl e), cell_heap h4.bk rfl, cell_heap h4.bk rfl, cell_heap hq rfl, cell_heap hq rfl, cell_heap hq rfl⟩

set_option maxRecDepth 100000 in
set_option maxHeartbeats 8000000 in
theorem read_walk (s : List UInt8) (hs : s.length ≤ 100000) (w : World) (N : Nat) (T K sm nn : Nat → Int) (lst : Nat → List UInt8) (okk ltk : Nat → Bool) (r : Int) (R P : Nat → (Nat → Prop) → Value → World → Prop) (hR : ∀ k, KeepsC (R k)) (hP : ∀ k, KeepsC (P k))
    (hN : N ≤ (linesB s).length) (hN2 : N ≤ 200) (hnn0 : nn 0 = 0) (hnn : ∀ k x, k ≤ N → (linesB s)[k]? = some x → wrap64 (nn k + (x.length : Int)) = nn (k + 1))
    (hgo : ∀ k x, k < N → (linesB s)[k]? = some x → x ≠ lst k ∧ okk k = true ∧ ltk k = true)
    (hst : ∀ x, (linesB s)[N]? = some x → x ≠ lst N → okk N = false ∨ okk N = true ∧ (ltk N = false ∨ N = 200))
    (hr1 : ∀ x, (linesB s)[N]? = some x → x = lst N → r = nn (N + 1)) (hr2 : (∀ x, (linesB s)[N]? = some x → x ≠ lst N) → r = nn N)
    (hnew : ∀ W, Below w.heap.size w W → Calls Tryz.prog 17 #[] W fun e w' => e = .returned (.agg #[.slice none 0 0, .int .u64 (sm 0)]) ∧ Below W.heap.size W w')
    (hidx : ∀ (u : List UInt8) W, Calls Tryz.prog 52 #[.string ⟨u.toArray⟩, .int .u8 10] W fun e w' => e = .returned (.int .i64 (Lib.indexByte u 10)) ∧ w' = W)
    (hlast : ∀ k x v Cs W, k ≤ N → (linesB s)[k]? = some x → Below w.heap.size w W → W.ownsRow w.heap.size 51 3 v k (rowF T K Cs k) → (∀ j, j < k → (Cs j).oneCell' = true ∧ R j (fun b => v.ownBlock = some b) (Cs j) W) →
      Calls Tryz.prog 23 #[.agg #[v, .int .u64 (sm k)]] W fun e w' => e = .returned (.string ⟨(lst k).toArray⟩) ∧ Below W.heap.size W w')
    (hparse : ∀ k x W (Y : Nat → Prop), k ≤ N → (linesB s)[k]? = some x → x ≠ lst k → Below w.heap.size w W → (∀ b, Y b → w.heap.size ≤ b ∧ b < W.heap.size) →
      Calls Tryz.prog 29 #[.string ⟨x.toArray⟩] W fun e w' => ∃ ca cl cc, e = .returned (.tuple #[.agg #[.int .i64 (T k), .int .i64 (K k), .slice ca cl cc], .bool (okk k)]) ∧ (okk k = true → P k Y (.slice ca cl cc) w') ∧ Below W.heap.size W w')
    (hlate : ∀ k x v Cs c W, k ≤ N → (linesB s)[k]? = some x → x ≠ lst k → okk k = true → Below w.heap.size w W → W.ownsRow w.heap.size 51 3 v k (rowF T K Cs k) → (∀ j, j < k → (Cs j).oneCell' = true ∧ R j (fun b => v.ownBlock = some b) (Cs j) W) → P k (fun b => v.ownBlock = some b) c W →
      Calls Tryz.prog 30 #[.agg #[v, .int .u64 (sm k)], .agg #[.int .i64 (T k), .int .i64 (K k), c]] W fun e w' => e = .returned (.bool (ltk k)) ∧ Below W.heap.size W w')
    (hcp : ∀ k x c W (Y : Nat → Prop), k < N → (linesB s)[k]? = some x → Below w.heap.size w W → (∀ b, Y b → w.heap.size ≤ b ∧ b < W.heap.size) → P k Y c W →
      Calls Tryz.prog 31 #[.agg #[.int .i64 (T k), .int .i64 (K k), c]] W fun e w' => ∃ c', e = .returned (.agg #[.int .i64 (T k), .int .i64 (K k), c']) ∧ c'.oneCell' = true ∧ R k Y c' w' ∧ Below W.heap.size W w')
    (hsum : ∀ k x W, k < N → (linesB s)[k]? = some x → Below w.heap.size w W → Calls Tryz.prog 32 #[.int .u64 (sm k), .string ⟨x.toArray⟩] W fun e w' => e = .returned (.int .u64 (sm (k + 1))) ∧ Below W.heap.size W w') :
    Calls Tryz.prog 11 #[.string ⟨s.toArray⟩] w fun e w' => ∃ v Cs, e = .returned (.tuple #[.agg #[v, .int .u64 (sm N)], .int .i64 r]) ∧ v.oneCell' = true ∧ RdE T K R w N v Cs (sm N) r w' := by
  refine (callsIn_wide (n := 8)).1 ?_
  refine callsIn_of_wp_marks Tryz.func11 rfl trivial ?_ rfl
  simp only [Tryz.ntmps11, List.size_toArray, List.length_cons, List.length_nil, Nat.reduceAdd, Nat.reduceSub, Array.replicate_succ, Array.replicate_zero, List.push_toArray, List.append_toArray, List.nil_append, List.cons_append]
  have hF0 : Go.Fence.wide.fn 17 := trivial
  have hF1 : Go.Fence.wide.fn 28 := trivial
  have h1 : 1 ≤ 8 := by decide
  have hW0 : Below w.heap.size w ((w.alloc (.cells #[.slice none 0 0, .int .u64 0] 32)).alloc (.cells #[.int .i64 0] 3)) := ((Below.refl _ w).alloc (Nat.le_refl _) _).alloc (by simp) _
  gi_wp2_with (first
    | (gi_at_call 17; refine (callsIn_wide.2 (hnew _ hW0)).mono ?_; rintro e W1 ⟨rfl, hB1⟩)
    | (gi_at_call 28; refine (callsIn_wide.2 (lines_call s _)).mono ?_; rintro e W2 ⟨rfl, rfl⟩))
  rename_i Q' Kk hKk
  obtain ⟨p, hp⟩ : ∃ p, W1.heap.size = p := ⟨_, rfl⟩
  rw [hp]
  have hlow : w.heap.size + 2 ≤ p := by have := hB1.size; simp at this; omega
  obtain ⟨V1, hV1⟩ : ∃ V1, W1.alloc (.cells #[.slice none 0 0, .int .u64 (sm 0)] 32) = V1 := ⟨_, rfl⟩
  obtain ⟨V2, hV2⟩ : ∃ V2, V1.alloc (.cells #[.int .i64 0] 3) = V2 := ⟨_, rfl⟩
  obtain ⟨V, hV⟩ : ∃ V, V2.alloc (.cells #[.string ⟨s.toArray⟩] 9) = V := ⟨_, rfl⟩
  rw [hV1, hV2, hV]
  have s1 : V1.heap.size = p + 1 := by rw [← hV1]; simp [hp]
  have s2 : V2.heap.size = p + 2 := by rw [← hV2]; simp [s1]
  have s3 : V.heap.size = p + 3 := by rw [← hV]; simp [s2]
  have hbx : Boxed V (p + 2) 9 (.string ⟨s.toArray⟩) := by rw [← hV, ← s2]; exact Boxed.new _ _ _
  have keep : ∀ b, b < p → V.heap[b]? = W1.heap[b]? := fun b hb => by
    rw [← hV, heap_alloc_old V2 _ (by omega), ← hV2, heap_alloc_old V1 _ (by omega), ← hV1, heap_alloc_old W1 _ (by omega)]
  have hstart : RdG T K R w p 0 (.slice none 0 0) (fun _ => .slice none 0 0) (sm 0) (nn 0) V := by
    have g1 := below_grown (hW0.trans (hB1.mono (by simp; omega))) (row := none) (World.grownBy_alloc W1 (.cells #[.slice none 0 0, .int .u64 (sm 0)] 32) none) (by omega) (by simp)
    rw [hV1] at g1
    have g2 := below_grown g1 (row := none) (World.grownBy_alloc V1 (.cells #[.int .i64 0] 3) none) (by omega) (by simp)
    rw [hV2] at g2
    have g3 := below_grown g2 (row := none) (World.grownBy_alloc V2 (.cells #[.string ⟨s.toArray⟩] 9) none) (by omega) (by simp)
    rw [hV] at g3
    refine ⟨g3, hlow, by omega, ?_, ?_, ?_, ?_, World.ownsRow_nil _ _ _ _, fun j hj => absurd hj (by omega)⟩
    · rw [keep _ (by omega), hB1.block _ (by simp; omega), heap_alloc_old _ _ (by simp)]
      exact heap_alloc_new w _
    · rw [keep _ (by omega), hB1.block _ (by simp)]
      have := heap_alloc_new (w.alloc (.cells #[.slice none 0 0, .int .u64 0] 32)) (.cells #[.int .i64 0] 3)
      rw [World.size_alloc] at this
      exact this
    · rw [← hV, heap_alloc_old V2 _ (by omega), ← hV2, heap_alloc_old V1 _ (by omega), ← hV1, ← hp]
      exact heap_alloc_new W1 _
    · rw [← hV, heap_alloc_old V2 _ (by omega), ← hV2, ← s1, hnn0]
      exact heap_alloc_new V1 _
  clear keep
  clear hV hV1 hV2 s1 s2 V1 V2
  refine range_box (F := Fence.wide) rfl h1 (gf := 51) (Bs := p + 2) (lb := #[.pointer (some ⟨p + 2, 0, none⟩)]) rfl trivial (enters_of Tryz.func51 (by kernel_rfl) rfl) (lines_in 7 (by decide) (p + 2) s hs hidx) (by omega) hbx (fun _ => rfl)
    (fun pre W => pre.length ≤ N ∧ ∃ v Cs, RdG T K R w p pre.length v Cs (sm pre.length) (nn pre.length) W)
    (fun c _ W => (c = .ret ∧ ∃ v Cs, RdE T K R w N v Cs (sm N) r W) ∨ c = .exit 0 ∧ (∃ v Cs, RdG T K R w p N v Cs (sm N) (nn N) W) ∧ r = nn N)
    (fun pre A B row ⟨a1, v, Cs, a2⟩ hg hr => ⟨a1, v, Cs, a2.own hR (B := V.heap.size) (by omega) hg hr⟩)
    ⟨fun pre A u ⟨a1, v, Cs, a2⟩ => ⟨a1, v, Cs, a2.move hR (below_grown a2.below (Lib.grownBy_setCell A (p + 2) 0 u) a2.below.size (fun k hk => by cases hk; omega)) (Lib.grownBy_setCell A (p + 2) 0 u).size fun b o hb _ _ hne => (set_other u hne (heap_lt hb)).trans hb⟩, fun pre A ⟨a1, v, Cs, a2⟩ => ⟨a1, v, Cs, a2.drew hR⟩⟩
    (fun c pre A B row hs hg hr => hs.imp (fun ⟨e, v, Cs, a2⟩ => ⟨e, v, Cs, a2.own hR (B := V.heap.size) (by omega) hg hr⟩) (fun ⟨e, ⟨v, Cs, a2⟩, e2⟩ => ⟨e, ⟨v, Cs, a2.own hR (B := V.heap.size) (by omega) hg hr⟩, e2⟩))
    ⟨Nat.zero_le _, _, _, hstart⟩
    (fun x a' => a' = { tmps := #[.string ⟨s.toArray⟩, undef, .pointer (some ⟨w.heap.size, 0, none⟩), .pointer (some ⟨w.heap.size + 1, 0, none⟩), .pointer (some ⟨p, 0, none⟩), .pointer (some ⟨p + 1, 0, none⟩), .string ⟨x.toArray⟩, undef, undef, .agg #[.slice none 0 0, .int .u64 (sm 0)], .string ⟨s.toArray⟩, .func (.func 51) #[] #[.pointer (some ⟨p + 2, 0, none⟩)], .string ⟨x.toArray⟩, undef, undef, undef, undef, undef, undef, undef, undef, undef, undef, undef, undef, undef, undef, undef, undef, undef, undef, undef, undef, undef, undef, undef, undef, undef, undef, undef, undef, undef, undef, undef, undef, undef, undef, undef, undef, undef, undef, undef, undef, undef, undef, undef, undef, undef, undef], defers := [] }) ?assign ?body ?done ?stop
  case assign =>
    intro l x W Kx hKx
    gi_wp2
    exact rfl
  case body =>
    rintro l pre x a' W hl hrec ⟨post, hpost⟩ ⟨hk, v, Cs, h⟩ rfl
    have hx : (linesB s)[pre.length]? = some x := by rw [← hpost]; simp
    obtain ⟨k, hk'⟩ : ∃ k, pre.length = k := ⟨_, rfl⟩
    rw [hk'] at hk hx h
    have hF2 : Go.Fence.wide.fn 23 := trivial
    have h5 : 1 ≤ 8 - 1 - 1 := by decide
    have c0 := cell_heap (i := 0) h.bk rfl
    have c1 := cell_heap (i := 1) h.bk rfl
    have elW : ∀ {W : World}, RdG T K R w p k v Cs (sm k) (nn k) W → ∀ j, j < k → (Cs j).oneCell' = true ∧ R j (fun b => v.ownBlock = some b) (Cs j) W := fun hW j hj => ⟨(hW.el j hj).1, hR j _ _ _ _ _ (hW.el j hj).2 (Nat.le_refl _) (fun b o hb _ _ => hb) (fun b _ e => .inl e)⟩
    by_cases hxe : x = lst k
    · have hxb : (x == lst k) = true := by simpa using hxe
      obtain rfl : k = N := by
        rcases Nat.lt_or_ge k N with h' | h'
        · exact absurd hxe (hgo k x h' hx).1
        · omega
      obtain rfl : r = nn (k + 1) := hr1 x hx hxe
      gi_wp2_with (gi_at_call 23; refine (CallsIn.inRound l (callsIn_wide.2 (hlast k x v Cs _ hk hx h.below (owns_base h.row (by omega)) (elW h)))).mono ?_; rintro e W2 ⟨rfl, hB2⟩)
      have h2 := (h.below' hR hB2).drew hR
      have x0 := cell_heap (i := 0) (v := v) h2.bk rfl
      have x1 := cell_heap (i := 1) (v := .int .u64 (sm k)) h2.bk rfl
      have n0 := cell_heap (i := 0) (v := .int .i64 (nn k)) h2.num rfl
      have e0 := cell_heap (i := 0) (v := .slice none 0 0) h2.res rfl
      have e1 := cell_heap (i := 1) (v := .int .u64 0) h2.res rfl
      have e2 := cell_heap (i := 0) (v := .int .i64 0) h2.res1 rfl
      have f0 := frozen_heap (i := 0) h2.res
      have f1 := frozen_heap (i := 1) h2.res
      have f2 := frozen_heap (i := 0) h2.res1
      have g1 : W2.cell? ⟨w.heap.size, 1, none⟩ = some (.int .u64 0) := e1
      have g2 : W2.cell? ⟨w.heap.size + 1, 0, none⟩ = some (.int .i64 0) := e2
      have g3 : W2.cell? ⟨p + 1, 0, none⟩ = some (.int .i64 (nn k)) := n0
      have g4 : W2.cell? ⟨p, 0, none⟩ = some v := x0
      have g5 : W2.cell? ⟨p, 1, none⟩ = some (.int .u64 (sm k)) := x1
      have l1 : W2.frozen? ⟨w.heap.size, 1, none⟩ = false := f1
      have l2 : W2.frozen? ⟨w.heap.size + 1, 0, none⟩ = false := f2
      have hs0 := h.size
      obtain ⟨hE, aE⟩ := (h.below' hR hB2).end hR (nn (k + 1))
      have hEd := hE.drew hR
      have ad := ((Adv.below hB2 (by omega)).trans aE).trans (Adv.below (q := p + 2) (Below.refl _ _).drew (by have := hB2.size; have := aE.size; omega))
      obtain ⟨va, vc, rfl⟩ : ∃ va vc, v = .slice va k vc := by
        rcases h.row.2 with ⟨e, e0⟩ | ⟨g, cap, cur, e, _⟩
        · exact ⟨none, 0, by rw [e, e0]⟩
        · exact ⟨_, _, e⟩
      refine wpIn_region_round (by decide) (by kernel_rfl) ?_ (fun ⟨a, w, e⟩ => e) ?_
      · intro i o ho c e
        have hm := Array.mem_of_getElem? ho
        simp only [List.mem_toArray, List.mem_cons, List.not_mem_nil, or_false] at hm
        rcases hm with rfl | rfl | rfl | rfl | rfl | rfl | rfl <;> cases e
      refine wpAny_take (i := 2) (v := .string ⟨x.toArray⟩) rfl (by kernel_rfl) (by kernel_rfl) (by kernel_rfl) (fun _ _ _ h => h) (Or.inl ⟨by rfl, by intro w; go_simp⟩) ?_
      refine wpAny_take (i := 3) (v := .int .i64 (x.length : Nat)) rfl (by kernel_rfl) (by kernel_rfl) (by kernel_rfl) (fun _ _ _ h => h) (Or.inl ⟨by rfl, by intro w; go_simp⟩) ?_
      refine wpAny_ready (rs := [0, 1]) (by kernel_rfl) (by simp) ?_
      refine AllReady.cons rfl (fun K8 hK8 => ?_) (AllReady.cons rfl (fun K8 hK8 => ?_) AllReady.nil)
      · go_simp
        refine hK8 _ _ ?_
        clear hK8 K8
        refine wpAny_ready (rs := [1, 5]) (by kernel_rfl) (by simp) ?_
        refine AllReady.cons rfl (fun K8 hK8 => ?_) (AllReady.cons rfl (fun K8 hK8 => ?_) AllReady.nil)
        · go_simp
          refine hK8 _ _ ?_
          clear hK8 K8
          refine wpAny_take (i := 4) (v := .int .i64 (nn (k + 1))) rfl (by kernel_rfl) (by kernel_rfl) (by kernel_rfl) (fun _ _ _ h => h) (Or.inl ⟨by rfl, by intro w; go_simp; rw [← hxe, wrap_64]; exact hnn k x hk hx⟩) ?_
          refine wpAny_ready (rs := [5]) (by kernel_rfl) (by simp) ?_
          refine AllReady.cons rfl (fun K8 hK8 => ?_) AllReady.nil
          go_simp
          refine hK8 _ _ ?_
          clear hK8 K8
          refine wpAny_ready (rs := [6]) (by kernel_rfl) (by simp) ?_
          refine AllReady.cons rfl (fun K8 hK8 => ?_) AllReady.nil
          go_simp
          refine hK8 _ _ ?_
          clear hK8 K8
          refine wpAny_done (by kernel_rfl) ?_ _
          gi_wp2
          exact ⟨ad.keeps, .inl ⟨rfl, _, _, hEd⟩⟩
        · go_simp
          refine hK8 _ _ ?_
          clear hK8 K8
          refine wpAny_ready (rs := [1]) (by kernel_rfl) (by simp) ?_
          refine AllReady.cons rfl (fun K8 hK8 => ?_) AllReady.nil
          go_simp
          refine hK8 _ _ ?_
          clear hK8 K8
          refine wpAny_take (i := 4) (v := .int .i64 (nn (k + 1))) rfl (by kernel_rfl) (by kernel_rfl) (by kernel_rfl) (fun _ _ _ h => h) (Or.inl ⟨by rfl, by intro w; go_simp; rw [← hxe, wrap_64]; exact hnn k x hk hx⟩) ?_
          refine wpAny_ready (rs := [6]) (by kernel_rfl) (by simp) ?_
          refine AllReady.cons rfl (fun K8 hK8 => ?_) AllReady.nil
          go_simp
          refine hK8 _ _ ?_
          clear hK8 K8
          refine wpAny_done (by kernel_rfl) ?_ _
          gi_wp2
          exact ⟨ad.keeps, .inl ⟨rfl, _, _, hEd⟩⟩
      · go_simp
        refine hK8 _ _ ?_
        clear hK8 K8
        refine wpAny_take (i := 4) (v := .int .i64 (nn (k + 1))) rfl (by kernel_rfl) (by kernel_rfl) (by kernel_rfl) (fun _ _ _ h => h) (Or.inl ⟨by rfl, by intro w; go_simp; rw [← hxe, wrap_64]; exact hnn k x hk hx⟩) ?_
        refine wpAny_ready (rs := [0]) (by kernel_rfl) (by simp) ?_
        refine AllReady.cons rfl (fun K8 hK8 => ?_) AllReady.nil
        go_simp
        refine hK8 _ _ ?_
        clear hK8 K8
        refine wpAny_ready (rs := [5]) (by kernel_rfl) (by simp) ?_
        refine AllReady.cons rfl (fun K8 hK8 => ?_) AllReady.nil
        go_simp
        refine hK8 _ _ ?_
        clear hK8 K8
        refine wpAny_ready (rs := [6]) (by kernel_rfl) (by simp) ?_
        refine AllReady.cons rfl (fun K8 hK8 => ?_) AllReady.nil
        go_simp
        refine hK8 _ _ ?_
        clear hK8 K8
        refine wpAny_done (by kernel_rfl) ?_ _
        gi_wp2
        exact ⟨ad.keeps, .inl ⟨rfl, _, _, hEd⟩⟩
    have hxb : (x == lst k) = false := by simpa using hxe
    have hF3 : Go.Fence.wide.fn 29 := trivial
    have hF4 : Go.Fence.wide.fn 30 := trivial
    obtain ⟨va, vc, rfl⟩ : ∃ va vc, v = .slice va k vc := by
      rcases h.row.2 with ⟨e, e0⟩ | ⟨g, cap, cur, e, _⟩
      · exact ⟨none, 0, by rw [e, e0]⟩
      · exact ⟨_, _, e⟩
    cases hok : okk k with
    | false =>
      gi_wp2_with (first
        | (gi_at_call 23; refine (CallsIn.inRound l (callsIn_wide.2 (hlast k x _ Cs _ hk hx h.below (owns_base h.row (by omega)) (elW h)))).mono ?_; rintro e W2 ⟨rfl, hB2⟩)
        | (gi_at_call 29; refine (CallsIn.inRound l (callsIn_wide.2 (hparse k x W2 (MineR w.heap.size (.slice va k vc) p) hk hx hxe (h.below.trans (hB2.mono h.below.size)) (fun b hb => mineR_lt h hB2.size hb)))).mono ?_; rintro e W3 ⟨ca, cl, cc, he, hPk, hB3⟩; rw [hok] at he; subst he))
      obtain rfl : k = N := by
        rcases Nat.lt_or_ge k N with h' | h'
        · have := (hgo k x h' hx).2.1; rw [hok] at this; cases this
        · omega
      obtain ⟨h4, ha⟩ := read_to hR h hB2 hB3 (.cells #[.int .i64 (T k), .int .i64 (K k), .slice ca cl cc] 51)
      exact ⟨ha.keeps, .inr ⟨rfl, ⟨_, _, h4⟩, hr2 fun x' hx' => by rw [hx] at hx'; cases hx'; exact hxe⟩⟩
    | true =>
      cases hlt : ltk k with
      | false =>
        gi_wp2_with (first
          | (gi_at_call 23; refine (CallsIn.inRound l (callsIn_wide.2 (hlast k x _ Cs _ hk hx h.below (owns_base h.row (by omega)) (elW h)))).mono ?_; rintro e W2 ⟨rfl, hB2⟩)
          | (gi_at_call 29; refine (CallsIn.inRound l (callsIn_wide.2 (hparse k x W2 (MineR w.heap.size (.slice va k vc) p) hk hx hxe (h.below.trans (hB2.mono h.below.size)) (fun b hb => mineR_lt h hB2.size hb)))).mono ?_; rintro e W3 ⟨ca, cl, cc, he, hPk, hB3⟩; rw [hok] at he; subst he; obtain ⟨h4, hP4, d0, d1, q0, q1, q2⟩ := read_at (a := .int .i64 (T k)) (b := .int .i64 (K k)) (c := .slice ca cl cc) hR hP h hB2 hB3 (hPk hok))
          | (gi_at_call 30; refine (CallsIn.inRound l (callsIn_wide.2 (hlate k x _ Cs _ _ hk hx hxe hok h4.below (owns_base h4.row (by omega)) (elW h4) hP4))).mono ?_; rintro e W5 ⟨he, hB5⟩; rw [hlt] at he; subst he))
        obtain rfl : k = N := by
          rcases Nat.lt_or_ge k N with h' | h'
          · have := (hgo k x h' hx).2.2; rw [hlt] at this; cases this
          · omega
        have hs4 := h4.size
        obtain ⟨_, ha⟩ := read_to hR h hB2 hB3 (.cells #[.int .i64 (T k), .int .i64 (K k), .slice ca cl cc] 51)
        exact ⟨(ha.trans (Adv.below hB5 (by omega))).keeps, .inr ⟨rfl, ⟨_, _, h4.below' hR hB5⟩, hr2 fun x' hx' => by rw [hx] at hx'; cases hx'; exact hxe⟩⟩
      | true =>
        by_cases h200 : k = 200
        · have h20 : ((k : Nat) : Int) = 200 := by omega
          clear h200
          gi_wp2_with (first
            | (gi_at_call 23; refine (CallsIn.inRound l (callsIn_wide.2 (hlast k x _ Cs _ hk hx h.below (owns_base h.row (by omega)) (elW h)))).mono ?_; rintro e W2 ⟨rfl, hB2⟩)
            | (gi_at_call 29; refine (CallsIn.inRound l (callsIn_wide.2 (hparse k x W2 (MineR w.heap.size (.slice va k vc) p) hk hx hxe (h.below.trans (hB2.mono h.below.size)) (fun b hb => mineR_lt h hB2.size hb)))).mono ?_; rintro e W3 ⟨ca, cl, cc, he, hPk, hB3⟩; rw [hok] at he; subst he; obtain ⟨h4, hP4, d0, d1, q0, q1, q2⟩ := read_at (a := .int .i64 (T k)) (b := .int .i64 (K k)) (c := .slice ca cl cc) hR hP h hB2 hB3 (hPk hok))
            | (gi_at_call 30; refine (CallsIn.inRound l (callsIn_wide.2 (hlate k x _ Cs _ _ hk hx hxe hok h4.below (owns_base h4.row (by omega)) (elW h4) hP4))).mono ?_; rintro e W5 ⟨he, hB5⟩; rw [hlt] at he; subst he; have e0 := (hB5.cell (p := ⟨p, 0, none⟩) (by have := h4.size; show p < _; omega)).trans d0))
          have k200 : k = 200 := by omega
          obtain rfl : k = N := by omega
          have hs4 := h4.size
          obtain ⟨_, ha⟩ := read_to hR h hB2 hB3 (.cells #[.int .i64 (T k), .int .i64 (K k), .slice ca cl cc] 51)
          exact ⟨(ha.trans (Adv.below hB5 (by omega))).keeps, .inr ⟨rfl, ⟨_, _, h4.below' hR hB5⟩, hr2 fun x' hx' => by rw [hx] at hx'; cases hx'; exact hxe⟩⟩
        · have h20 : ¬ ((k : Nat) : Int) = 200 := by omega
          gi_wp2_with (first
            | (gi_at_call 23; refine (CallsIn.inRound l (callsIn_wide.2 (hlast k x _ Cs _ hk hx h.below (owns_base h.row (by omega)) (elW h)))).mono ?_; rintro e W2 ⟨rfl, hB2⟩)
            | (gi_at_call 29; refine (CallsIn.inRound l (callsIn_wide.2 (hparse k x W2 (MineR w.heap.size (.slice va k vc) p) hk hx hxe (h.below.trans (hB2.mono h.below.size)) (fun b hb => mineR_lt h hB2.size hb)))).mono ?_; rintro e W3 ⟨ca, cl, cc, he, hPk, hB3⟩; rw [hok] at he; subst he; obtain ⟨h4, hP4, d0, d1, q0, q1, q2⟩ := read_at (a := .int .i64 (T k)) (b := .int .i64 (K k)) (c := .slice ca cl cc) hR hP h hB2 hB3 (hPk hok))
            | (gi_at_call 30; refine (CallsIn.inRound l (callsIn_wide.2 (hlate k x _ Cs _ _ hk hx hxe hok h4.below (owns_base h4.row (by omega)) (elW h4) hP4))).mono ?_; rintro e W5 ⟨he, hB5⟩; rw [hlt] at he; subst he; have e0 := (hB5.cell (p := ⟨p, 0, none⟩) (by have := h4.size; show p < _; omega)).trans d0))
          have hkN : k < N := by
            rcases Nat.lt_or_ge k N with h' | h'
            · exact h'
            · obtain rfl : k = N := by omega
              rcases hst x hx hxe with e | ⟨_, e | e⟩
              · rw [hok] at e; cases e
              · rw [hlt] at e; cases e
              · exact absurd (by omega) h20
          have hs3 : W3.heap.size + 1 ≤ W5.heap.size := by have := hB5.size; simpa using this
          have hs4 := h4.size
          have hF6 : Go.Fence.wide.fn 32 := trivial
          obtain ⟨_, ha⟩ := read_to hR h hB2 hB3 (.cells #[.int .i64 (T k), .int .i64 (K k), .slice ca cl cc] 51)
          have ha5 := (ha.trans (Adv.below hB5 (by omega))).trans (Adv.below (Below.refl _ W5).drew (by have := hB5.size; omega))
          have h5 := (h4.below' hR hB5).drew hR
          have hs5 : p + 3 ≤ W5.heap.size := h5.size
          have eln : (pre ++ [x]).length = k + 1 := by simp [hk']
          have x0 := cell_heap (i := 0) h5.bk rfl
          have f0 := frozen_heap (i := 0) h5.bk
          have r0 : W5.drew.cell? ⟨W3.heap.size, 0, none⟩ = some (.int .i64 (T k)) := (hB5.cell (p := ⟨W3.heap.size, 0, none⟩) (by simp)).trans q0
          have r1 : W5.drew.cell? ⟨W3.heap.size, 1, none⟩ = some (.int .i64 (K k)) := (hB5.cell (p := ⟨W3.heap.size, 1, none⟩) (by simp)).trans q1
          have r2 : W5.drew.cell? ⟨W3.heap.size, 2, none⟩ = some (.slice ca cl cc) := (hB5.cell (p := ⟨W3.heap.size, 2, none⟩) (by simp)).trans q2
          have hP5 : P k (MineR w.heap.size (.slice va k vc) p) (.slice ca cl cc) W5.drew := hP k _ _ _ _ _ (hPk hok) (by show _ ≤ W5.heap.size; omega) (fun b o ho _ _ => (hB5.block b (by have := heap_lt ho; simp; omega)).trans ((heap_alloc_old W3 _ (heap_lt ho)).trans ho)) (fun b _ e => e)
          have hcall := hcp k x (.slice ca cl cc) W5.drew (MineR w.heap.size (.slice va k vc) p) hkN hx h5.below (fun b hb => mineR_lt h5 (Nat.le_refl _) hb) hP5
          have hown1 := h5.row
          refine wpIn_region_round (by decide) (by kernel_rfl) ?_ (fun ⟨a, w, e⟩ => e) ?_
          · intro i o ho c e
            have hm := Array.mem_of_getElem? ho
            simp only [List.mem_toArray, List.mem_cons, List.not_mem_nil, or_false] at hm
            rcases hm with rfl | rfl | rfl | rfl | rfl | rfl | rfl | rfl <;> cases e
          refine wpAny_take (i := 0) (v := .pointer (some ⟨p, 0, none⟩)) rfl (by kernel_rfl) (by kernel_rfl) (by kernel_rfl) (fun _ _ _ h => h) (Or.inl ⟨by rfl, by intro w; go_simp⟩) ?_
          refine wpAny_ready (rs := [1, 2]) (by kernel_rfl) (by simp) ?_
          refine AllReady.cons rfl (fun K8 hK8 => ?_) (AllReady.cons rfl (fun K8 hK8 => ?_) AllReady.nil)
          · go_simp
            refine hK8 _ _ ?_
            clear hK8 K8
            refine wpAny_ready (rs := [2]) (by kernel_rfl) (by simp) ?_
            refine AllReady.cons rfl (fun K8 hK8 => ?_) AllReady.nil
            go_simp
            refine hK8 _ _ ?_
            clear hK8 K8
            refine wpAny_ready (rs := [3]) (by kernel_rfl) (by simp) ?_
            refine AllReady.cons rfl (fun K8 hK8 => ?_) AllReady.nil
            go_simp
            refine hcall.mono ?_
            rintro e w' ⟨c', rfl, hc1, hRk, hB6⟩
            have hs6 : W5.heap.size ≤ w'.heap.size := hB6.size
            have y0 := (hB6.cell (p := ⟨p, 0, none⟩) (by show p < W5.heap.size; omega)).trans x0
            have y1 : (w'.alloc (.cells #[.int .i64 (T k), .int .i64 (K k), c'] 51)).cell? ⟨p, 0, none⟩ = some (.slice va k vc) := (World.cell?_of_block (a := ⟨p, 0, none⟩) (heap_alloc_old w' _ (by show p < w'.heap.size; omega))).trans y0
            refine hK8 _ _ ?_
            clear hK8 K8
            refine wpAny_ready (rs := [4]) (by kernel_rfl) (by simp) ?_
            refine AllReady.cons rfl (fun K8 hK8 => ?_) AllReady.nil
            go_simp
            refine hK8 _ _ ?_
            clear hK8 K8
            obtain ⟨i0, hi, hz0, hz1, hz2⟩ := info_parts info51
            refine wpAny_ready (rs := [5]) (by kernel_rfl) (by simp) ?_
            refine AllReady.cons rfl (fun K8 hK8 => ?_) AllReady.nil
            refine step_append_lies _ (by rfl) _ _ _ (by rfl) (p + 3) 51 i0 _ 3 40 Tryz.underlying29 hi hz0 hz1 hz2 rfl (by omega) (.slice va k vc) k (rowF T K Cs k) (by rfl) ((owns_same hown1 fun b o hb ho _ => (hB6.block b (heap_lt ho)).trans ho).alloc _) ⟨w'.heap.size, 0, none⟩ 1 1 [.int .i64 (T k), .int .i64 (K k), c'] (by rfl) (by rfl) (World.news_of_block (cs := #[.int .i64 (T k), .int .i64 (K k), c']) (t := 51) (fr := (0, 0)) (heap_alloc_new w' _)) (by intro u hu; simp only [List.mem_cons, List.not_mem_nil, or_false] at hu; rcases hu with rfl | rfl | rfl; rfl; rfl; exact hc1) (by omega) (by unfold maxLen; omega) (by omega) (by simp; omega) (w'.heap.size + 1) (by simp) ?_
            intro gg cap w1 hown2 hgrow hat hltg
            obtain ⟨h8, a8⟩ := h5.next hR hB6 hc1 hRk hgrow hown2 hat
            have ad8 := ha5.trans a8
            have xb : w1.heap[p]? = W5.drew.heap[p]? := (hgrow.block p (by simp; omega) (fun e => by have := h5.row.lt p e.symm; omega)).trans ((heap_alloc_old w' _ (by omega)).trans (hB6.block p (by show p < W5.heap.size; omega)))
            have xz := (World.cell?_of_block (a := ⟨p, 0, none⟩) xb).trans x0
            have fz := (World.frozen?_of_block (a := ⟨p, 0, none⟩) xb).trans f0
            clear hgrow hown2 xb y0 y1 hRk a8 ha5 hat hltg
            refine hK8 _ _ ?_
            clear hK8 K8
            refine wpAny_ready (rs := [6]) (by kernel_rfl) (by simp) ?_
            refine AllReady.cons rfl (fun K8 hK8 => ?_) AllReady.nil
            go_simp
            refine hK8 _ _ ?_
            clear hK8 K8
            refine wpAny_ready (rs := [7]) (by kernel_rfl) (by simp) ?_
            refine AllReady.cons rfl (fun K8 hK8 => ?_) AllReady.nil
            go_simp
            refine hK8 _ _ ?_
            clear hK8 K8 xz fz
            refine wpAny_done (by kernel_rfl) ?_ _
            obtain ⟨W8, hW8⟩ : ∃ W8, w1.setCell ⟨p, 0, none⟩ (.slice (some ⟨gg, 0, none⟩) (k + 1) cap) = W8 := ⟨_, rfl⟩
            rw [hW8] at h8 ad8 ⊢
            have hs8 := h8.size
            have z1 := cell_heap (i := 1) h8.bk rfl
            gi_wp2_with (gi_at_call 32; refine (CallsIn.inRound l (callsIn_wide.2 (hsum k x _ hkN hx h8.below))).mono ?_; rintro e W9 ⟨rfl, hB9⟩; have h9 := h8.below' hR hB9; have z9 := cell_heap (i := 1) h9.bk rfl; have f9 := frozen_heap (i := 1) h9.bk; obtain ⟨h10, a10⟩ := h9.book hR 1 (.int .u64 (sm (k + 1))) rfl h9.row (fun j hj => (h9.el j hj).2); have n10 := cell_heap (i := 0) (v := .int .i64 (nn k)) h10.num rfl; have fn10 := frozen_heap (i := 0) h10.num)
            have hs9 := hB9.size
            obtain ⟨h11, a11⟩ := h10.number hR (nn (k + 1))
            have ad11 := ((ad8.trans (Adv.below hB9 (by omega))).trans a10).trans a11
            rw [hnn k x hk hx]
            refine ⟨ad11.keeps, ad11.box, ?_⟩
            show (pre ++ [x]).length ≤ N ∧ ∃ v Cs, RdG T K R w p (pre ++ [x]).length v Cs (sm (pre ++ [x]).length) (nn (pre ++ [x]).length) _
            rw [eln]
            exact ⟨hkN, _, _, h11⟩
          · go_simp
            refine hK8 _ _ ?_
            clear hK8 K8
            refine wpAny_ready (rs := [1, 3]) (by kernel_rfl) (by simp) ?_
            refine AllReady.cons rfl (fun K8 hK8 => ?_) (AllReady.cons rfl (fun K8 hK8 => ?_) AllReady.nil)
            · go_simp
              refine hK8 _ _ ?_
              clear hK8 K8
              refine wpAny_ready (rs := [3]) (by kernel_rfl) (by simp) ?_
              refine AllReady.cons rfl (fun K8 hK8 => ?_) AllReady.nil
              go_simp
              refine hcall.mono ?_
              rintro e w' ⟨c', rfl, hc1, hRk, hB6⟩
              have hs6 : W5.heap.size ≤ w'.heap.size := hB6.size
              have y0 := (hB6.cell (p := ⟨p, 0, none⟩) (by show p < W5.heap.size; omega)).trans x0
              have y1 : (w'.alloc (.cells #[.int .i64 (T k), .int .i64 (K k), c'] 51)).cell? ⟨p, 0, none⟩ = some (.slice va k vc) := (World.cell?_of_block (a := ⟨p, 0, none⟩) (heap_alloc_old w' _ (by show p < w'.heap.size; omega))).trans y0
              refine hK8 _ _ ?_
              clear hK8 K8
              refine wpAny_ready (rs := [4]) (by kernel_rfl) (by simp) ?_
              refine AllReady.cons rfl (fun K8 hK8 => ?_) AllReady.nil
              go_simp
              refine hK8 _ _ ?_
              clear hK8 K8
              obtain ⟨i0, hi, hz0, hz1, hz2⟩ := info_parts info51
              refine wpAny_ready (rs := [5]) (by kernel_rfl) (by simp) ?_
              refine AllReady.cons rfl (fun K8 hK8 => ?_) AllReady.nil
              refine step_append_lies _ (by rfl) _ _ _ (by rfl) (p + 3) 51 i0 _ 3 40 Tryz.underlying29 hi hz0 hz1 hz2 rfl (by omega) (.slice va k vc) k (rowF T K Cs k) (by rfl) ((owns_same hown1 fun b o hb ho _ => (hB6.block b (heap_lt ho)).trans ho).alloc _) ⟨w'.heap.size, 0, none⟩ 1 1 [.int .i64 (T k), .int .i64 (K k), c'] (by rfl) (by rfl) (World.news_of_block (cs := #[.int .i64 (T k), .int .i64 (K k), c']) (t := 51) (fr := (0, 0)) (heap_alloc_new w' _)) (by intro u hu; simp only [List.mem_cons, List.not_mem_nil, or_false] at hu; rcases hu with rfl | rfl | rfl; rfl; rfl; exact hc1) (by omega) (by unfold maxLen; omega) (by omega) (by simp; omega) (w'.heap.size + 1) (by simp) ?_
              intro gg cap w1 hown2 hgrow hat hltg
              obtain ⟨h8, a8⟩ := h5.next hR hB6 hc1 hRk hgrow hown2 hat
              have ad8 := ha5.trans a8
              have xb : w1.heap[p]? = W5.drew.heap[p]? := (hgrow.block p (by simp; omega) (fun e => by have := h5.row.lt p e.symm; omega)).trans ((heap_alloc_old w' _ (by omega)).trans (hB6.block p (by show p < W5.heap.size; omega)))
              have xz := (World.cell?_of_block (a := ⟨p, 0, none⟩) xb).trans x0
              have fz := (World.frozen?_of_block (a := ⟨p, 0, none⟩) xb).trans f0
              clear hgrow hown2 xb y0 y1 hRk a8 ha5 hat hltg
              refine hK8 _ _ ?_
              clear hK8 K8
              refine wpAny_ready (rs := [6]) (by kernel_rfl) (by simp) ?_
              refine AllReady.cons rfl (fun K8 hK8 => ?_) AllReady.nil
              go_simp
              refine hK8 _ _ ?_
              clear hK8 K8
              refine wpAny_ready (rs := [7]) (by kernel_rfl) (by simp) ?_
              refine AllReady.cons rfl (fun K8 hK8 => ?_) AllReady.nil
              go_simp
              refine hK8 _ _ ?_
              clear hK8 K8 xz fz
              refine wpAny_done (by kernel_rfl) ?_ _
              obtain ⟨W8, hW8⟩ : ∃ W8, w1.setCell ⟨p, 0, none⟩ (.slice (some ⟨gg, 0, none⟩) (k + 1) cap) = W8 := ⟨_, rfl⟩
              rw [hW8] at h8 ad8 ⊢
              have hs8 := h8.size
              have z1 := cell_heap (i := 1) h8.bk rfl
              gi_wp2_with (gi_at_call 32; refine (CallsIn.inRound l (callsIn_wide.2 (hsum k x _ hkN hx h8.below))).mono ?_; rintro e W9 ⟨rfl, hB9⟩; have h9 := h8.below' hR hB9; have z9 := cell_heap (i := 1) h9.bk rfl; have f9 := frozen_heap (i := 1) h9.bk; obtain ⟨h10, a10⟩ := h9.book hR 1 (.int .u64 (sm (k + 1))) rfl h9.row (fun j hj => (h9.el j hj).2); have n10 := cell_heap (i := 0) (v := .int .i64 (nn k)) h10.num rfl; have fn10 := frozen_heap (i := 0) h10.num)
              have hs9 := hB9.size
              obtain ⟨h11, a11⟩ := h10.number hR (nn (k + 1))
              have ad11 := ((ad8.trans (Adv.below hB9 (by omega))).trans a10).trans a11
              rw [hnn k x hk hx]
              refine ⟨ad11.keeps, ad11.box, ?_⟩
              show (pre ++ [x]).length ≤ N ∧ ∃ v Cs, RdG T K R w p (pre ++ [x]).length v Cs (sm (pre ++ [x]).length) (nn (pre ++ [x]).length) _
              rw [eln]
              exact ⟨hkN, _, _, h11⟩
            · go_simp
              refine hcall.mono ?_
              rintro e w' ⟨c', rfl, hc1, hRk, hB6⟩
              have hs6 : W5.heap.size ≤ w'.heap.size := hB6.size
              have y0 := (hB6.cell (p := ⟨p, 0, none⟩) (by show p < W5.heap.size; omega)).trans x0
              have y1 : (w'.alloc (.cells #[.int .i64 (T k), .int .i64 (K k), c'] 51)).cell? ⟨p, 0, none⟩ = some (.slice va k vc) := (World.cell?_of_block (a := ⟨p, 0, none⟩) (heap_alloc_old w' _ (by show p < w'.heap.size; omega))).trans y0
              refine hK8 _ _ ?_
              clear hK8 K8
              refine wpAny_ready (rs := [1, 4]) (by kernel_rfl) (by simp) ?_
              refine AllReady.cons rfl (fun K8 hK8 => ?_) (AllReady.cons rfl (fun K8 hK8 => ?_) AllReady.nil)
              · go_simp
                refine hK8 _ _ ?_
                clear hK8 K8
                refine wpAny_ready (rs := [4]) (by kernel_rfl) (by simp) ?_
                refine AllReady.cons rfl (fun K8 hK8 => ?_) AllReady.nil
                go_simp
                refine hK8 _ _ ?_
                clear hK8 K8
                obtain ⟨i0, hi, hz0, hz1, hz2⟩ := info_parts info51
                refine wpAny_ready (rs := [5]) (by kernel_rfl) (by simp) ?_
                refine AllReady.cons rfl (fun K8 hK8 => ?_) AllReady.nil
                refine step_append_lies _ (by rfl) _ _ _ (by rfl) (p + 3) 51 i0 _ 3 40 Tryz.underlying29 hi hz0 hz1 hz2 rfl (by omega) (.slice va k vc) k (rowF T K Cs k) (by rfl) ((owns_same hown1 fun b o hb ho _ => (hB6.block b (heap_lt ho)).trans ho).alloc _) ⟨w'.heap.size, 0, none⟩ 1 1 [.int .i64 (T k), .int .i64 (K k), c'] (by rfl) (by rfl) (World.news_of_block (cs := #[.int .i64 (T k), .int .i64 (K k), c']) (t := 51) (fr := (0, 0)) (heap_alloc_new w' _)) (by intro u hu; simp only [List.mem_cons, List.not_mem_nil, or_false] at hu; rcases hu with rfl | rfl | rfl; rfl; rfl; exact hc1) (by omega) (by unfold maxLen; omega) (by omega) (by simp; omega) (w'.heap.size + 1) (by simp) ?_
                intro gg cap w1 hown2 hgrow hat hltg
                obtain ⟨h8, a8⟩ := h5.next hR hB6 hc1 hRk hgrow hown2 hat
                have ad8 := ha5.trans a8
                have xb : w1.heap[p]? = W5.drew.heap[p]? := (hgrow.block p (by simp; omega) (fun e => by have := h5.row.lt p e.symm; omega)).trans ((heap_alloc_old w' _ (by omega)).trans (hB6.block p (by show p < W5.heap.size; omega)))
                have xz := (World.cell?_of_block (a := ⟨p, 0, none⟩) xb).trans x0
                have fz := (World.frozen?_of_block (a := ⟨p, 0, none⟩) xb).trans f0
                clear hgrow hown2 xb y0 y1 hRk a8 ha5 hat hltg
                refine hK8 _ _ ?_
                clear hK8 K8
                refine wpAny_ready (rs := [6]) (by kernel_rfl) (by simp) ?_
                refine AllReady.cons rfl (fun K8 hK8 => ?_) AllReady.nil
                go_simp
                refine hK8 _ _ ?_
                clear hK8 K8
                refine wpAny_ready (rs := [7]) (by kernel_rfl) (by simp) ?_
                refine AllReady.cons rfl (fun K8 hK8 => ?_) AllReady.nil
                go_simp
                refine hK8 _ _ ?_
                clear hK8 K8 xz fz
                refine wpAny_done (by kernel_rfl) ?_ _
                obtain ⟨W8, hW8⟩ : ∃ W8, w1.setCell ⟨p, 0, none⟩ (.slice (some ⟨gg, 0, none⟩) (k + 1) cap) = W8 := ⟨_, rfl⟩
                rw [hW8] at h8 ad8 ⊢
                have hs8 := h8.size
                have z1 := cell_heap (i := 1) h8.bk rfl
                gi_wp2_with (gi_at_call 32; refine (CallsIn.inRound l (callsIn_wide.2 (hsum k x _ hkN hx h8.below))).mono ?_; rintro e W9 ⟨rfl, hB9⟩; have h9 := h8.below' hR hB9; have z9 := cell_heap (i := 1) h9.bk rfl; have f9 := frozen_heap (i := 1) h9.bk; obtain ⟨h10, a10⟩ := h9.book hR 1 (.int .u64 (sm (k + 1))) rfl h9.row (fun j hj => (h9.el j hj).2); have n10 := cell_heap (i := 0) (v := .int .i64 (nn k)) h10.num rfl; have fn10 := frozen_heap (i := 0) h10.num)
                have hs9 := hB9.size
                obtain ⟨h11, a11⟩ := h10.number hR (nn (k + 1))
                have ad11 := ((ad8.trans (Adv.below hB9 (by omega))).trans a10).trans a11
                rw [hnn k x hk hx]
                refine ⟨ad11.keeps, ad11.box, ?_⟩
                show (pre ++ [x]).length ≤ N ∧ ∃ v Cs, RdG T K R w p (pre ++ [x]).length v Cs (sm (pre ++ [x]).length) (nn (pre ++ [x]).length) _
                rw [eln]
                exact ⟨hkN, _, _, h11⟩
              · go_simp
                refine hK8 _ _ ?_
                clear hK8 K8
                refine wpAny_ready (rs := [1]) (by kernel_rfl) (by simp) ?_
                refine AllReady.cons rfl (fun K8 hK8 => ?_) AllReady.nil
                go_simp
                refine hK8 _ _ ?_
                clear hK8 K8
                obtain ⟨i0, hi, hz0, hz1, hz2⟩ := info_parts info51
                refine wpAny_ready (rs := [5]) (by kernel_rfl) (by simp) ?_
                refine AllReady.cons rfl (fun K8 hK8 => ?_) AllReady.nil
                refine step_append_lies _ (by rfl) _ _ _ (by rfl) (p + 3) 51 i0 _ 3 40 Tryz.underlying29 hi hz0 hz1 hz2 rfl (by omega) (.slice va k vc) k (rowF T K Cs k) (by rfl) ((owns_same hown1 fun b o hb ho _ => (hB6.block b (heap_lt ho)).trans ho).alloc _) ⟨w'.heap.size, 0, none⟩ 1 1 [.int .i64 (T k), .int .i64 (K k), c'] (by rfl) (by rfl) (World.news_of_block (cs := #[.int .i64 (T k), .int .i64 (K k), c']) (t := 51) (fr := (0, 0)) (heap_alloc_new w' _)) (by intro u hu; simp only [List.mem_cons, List.not_mem_nil, or_false] at hu; rcases hu with rfl | rfl | rfl; rfl; rfl; exact hc1) (by omega) (by unfold maxLen; omega) (by omega) (by simp; omega) (w'.heap.size + 1) (by simp) ?_
                intro gg cap w1 hown2 hgrow hat hltg
                obtain ⟨h8, a8⟩ := h5.next hR hB6 hc1 hRk hgrow hown2 hat
                have ad8 := ha5.trans a8
                have xb : w1.heap[p]? = W5.drew.heap[p]? := (hgrow.block p (by simp; omega) (fun e => by have := h5.row.lt p e.symm; omega)).trans ((heap_alloc_old w' _ (by omega)).trans (hB6.block p (by show p < W5.heap.size; omega)))
                have xz := (World.cell?_of_block (a := ⟨p, 0, none⟩) xb).trans x0
                have fz := (World.frozen?_of_block (a := ⟨p, 0, none⟩) xb).trans f0
                clear hgrow hown2 xb y0 y1 hRk a8 ha5 hat hltg
                refine hK8 _ _ ?_
                clear hK8 K8
                refine wpAny_ready (rs := [6]) (by kernel_rfl) (by simp) ?_
                refine AllReady.cons rfl (fun K8 hK8 => ?_) AllReady.nil
                go_simp
                refine hK8 _ _ ?_
                clear hK8 K8
                refine wpAny_ready (rs := [7]) (by kernel_rfl) (by simp) ?_
                refine AllReady.cons rfl (fun K8 hK8 => ?_) AllReady.nil
                go_simp
                refine hK8 _ _ ?_
                clear hK8 K8 xz fz
                refine wpAny_done (by kernel_rfl) ?_ _
                obtain ⟨W8, hW8⟩ : ∃ W8, w1.setCell ⟨p, 0, none⟩ (.slice (some ⟨gg, 0, none⟩) (k + 1) cap) = W8 := ⟨_, rfl⟩
                rw [hW8] at h8 ad8 ⊢
                have hs8 := h8.size
                have z1 := cell_heap (i := 1) h8.bk rfl
                gi_wp2_with (gi_at_call 32; refine (CallsIn.inRound l (callsIn_wide.2 (hsum k x _ hkN hx h8.below))).mono ?_; rintro e W9 ⟨rfl, hB9⟩; have h9 := h8.below' hR hB9; have z9 := cell_heap (i := 1) h9.bk rfl; have f9 := frozen_heap (i := 1) h9.bk; obtain ⟨h10, a10⟩ := h9.book hR 1 (.int .u64 (sm (k + 1))) rfl h9.row (fun j hj => (h9.el j hj).2); have n10 := cell_heap (i := 0) (v := .int .i64 (nn k)) h10.num rfl; have fn10 := frozen_heap (i := 0) h10.num)
                have hs9 := hB9.size
                obtain ⟨h11, a11⟩ := h10.number hR (nn (k + 1))
                have ad11 := ((ad8.trans (Adv.below hB9 (by omega))).trans a10).trans a11
                rw [hnn k x hk hx]
                refine ⟨ad11.keeps, ad11.box, ?_⟩
                show (pre ++ [x]).length ≤ N ∧ ∃ v Cs, RdG T K R w p (pre ++ [x]).length v Cs (sm (pre ++ [x]).length) (nn (pre ++ [x]).length) _
                rw [eln]
                exact ⟨hkN, _, _, h11⟩
  case done =>
    rintro D xs W hD rfl ⟨hl, v, Cs, h⟩ hK2
    have hlen : (linesB s).length = N := by omega
    rw [hlen] at h
    obtain rfl : r = nn N := hr2 (fun x hx => by rw [List.getElem?_eq_none (by omega)] at hx; cases hx)
    have h2 := h
    have x0 := cell_heap (i := 0) (v := v) h2.bk rfl
    have x1 := cell_heap (i := 1) (v := .int .u64 (sm N)) h2.bk rfl
    have n0 := cell_heap (i := 0) (v := .int .i64 (nn N)) h2.num rfl
    have e0 := cell_heap (i := 0) (v := .slice none 0 0) h2.res rfl
    have e1 := cell_heap (i := 1) (v := .int .u64 0) h2.res rfl
    have e2 := cell_heap (i := 0) (v := .int .i64 0) h2.res1 rfl
    have f0 := frozen_heap (i := 0) h2.res
    have f1 := frozen_heap (i := 1) h2.res
    have f2 := frozen_heap (i := 0) h2.res1
    have x0d : W.drew.cell? ⟨p, 0, none⟩ = some v := x0
    have x1d : W.drew.cell? ⟨p, 1, none⟩ = some (.int .u64 (sm N)) := x1
    have n0d : W.drew.cell? ⟨p + 1, 0, none⟩ = some (.int .i64 (nn N)) := n0
    have e0d : W.drew.cell? ⟨w.heap.size, 0, none⟩ = some (.slice none 0 0) := e0
    have f0d : W.drew.frozen? ⟨w.heap.size, 0, none⟩ = false := f0
    obtain ⟨hE, aE⟩ := h2.end hR (nn N)
    have hEd := hE.drew hR
    have kd := aE.non D _ hK2 rfl
    obtain ⟨va, vc, rfl⟩ : ∃ va vc, v = .slice va N vc := by
      rcases h.row.2 with ⟨e, e0⟩ | ⟨g, cap, cur, e, _⟩
      · exact ⟨none, 0, by rw [e, e0]⟩
      · exact ⟨_, _, e⟩
    gi_wp2
    gi_region
    gi_wp2
    refine ⟨by simp, .inl ⟨_, _, rfl, run_takeDeferred (show _ = _ from kd), ?_⟩⟩
    obtain ⟨W9, hW9⟩ : ∃ W9, World.putObj ((((W.setCell ⟨w.heap.size, 0, none⟩ (.slice va N vc)).setCell ⟨w.heap.size, 1, none⟩ (.int .u64 (sm N))).setCell ⟨w.heap.size + 1, 0, none⟩ (.int .i64 (nn N))).drew) D (.deferred none) = W9 := ⟨_, rfl⟩
    rw [hW9]
    have hE9 : RdE T K R w N (.slice va N vc) Cs (sm N) (nn N) W9 := by rw [← hW9]; exact hEd.own hR (B := D) (by omega) (grownBy_putObj' _ D _) (fun r e => by cases e; exact ⟨Nat.le_refl _, _, (show _ = _ from kd), rfl⟩)
    have y0 := cell_heap (i := 0) (v := .slice va N vc) hE9.res rfl
    have y1 := cell_heap (i := 1) (v := .int .u64 (sm N)) hE9.res rfl
    have y2 := cell_heap (i := 0) (v := .int .i64 (nn N)) hE9.res1 rfl
    exact ⟨.tuple #[.agg #[.slice va N vc, .int .u64 (sm N)], .int .i64 (nn N)], by simp [results, Tryz.results11, go_sem, y0, y1, y2], _, Cs, rfl, rfl, hE9⟩
  case stop =>
    rintro D c pre W hD ⟨post, hpost⟩ hix hK2
    rcases hix with ⟨rfl, v, Cs, hE⟩ | ⟨rfl, ⟨v, Cs, h⟩, hr⟩
    · obtain ⟨va, vc, rfl⟩ : ∃ va vc, v = .slice va N vc := by
        rcases hE.row.2 with ⟨e, e0⟩ | ⟨g, cap, cur, e, _⟩
        · exact ⟨none, 0, by rw [e, e0]⟩
        · exact ⟨_, _, e⟩
      gi_wp2
      refine ⟨by simp, .inl ⟨_, _, rfl, run_takeDeferred hK2, ?_⟩⟩
      obtain ⟨W9, hW9⟩ : ∃ W9, World.putObj W D (.deferred none) = W9 := ⟨_, rfl⟩
      rw [hW9]
      have hE9 : RdE T K R w N (.slice va N vc) Cs (sm N) r W9 := by rw [← hW9]; exact hE.own hR (B := D) (by omega) (grownBy_putObj' _ D _) (fun r e => by cases e; exact ⟨Nat.le_refl _, _, hK2, rfl⟩)
      have y0 := cell_heap (i := 0) (v := .slice va N vc) hE9.res rfl
      have y1 := cell_heap (i := 1) (v := .int .u64 (sm N)) hE9.res rfl
      have y2 := cell_heap (i := 0) (v := .int .i64 r) hE9.res1 rfl
      exact ⟨.tuple #[.agg #[.slice va N vc, .int .u64 (sm N)], .int .i64 r], by simp [results, Tryz.results11, go_sem, y0, y1, y2], _, Cs, rfl, rfl, hE9⟩
    · obtain rfl : r = nn N := hr
      have h2 := h
      have x0 := cell_heap (i := 0) (v := v) h2.bk rfl
      have x1 := cell_heap (i := 1) (v := .int .u64 (sm N)) h2.bk rfl
      have n0 := cell_heap (i := 0) (v := .int .i64 (nn N)) h2.num rfl
      have e0 := cell_heap (i := 0) (v := .slice none 0 0) h2.res rfl
      have e1 := cell_heap (i := 1) (v := .int .u64 0) h2.res rfl
      have e2 := cell_heap (i := 0) (v := .int .i64 0) h2.res1 rfl
      have f0 := frozen_heap (i := 0) h2.res
      have f1 := frozen_heap (i := 1) h2.res
      have f2 := frozen_heap (i := 0) h2.res1
      have x0d : W.drew.cell? ⟨p, 0, none⟩ = some v := x0
      have x1d : W.drew.cell? ⟨p, 1, none⟩ = some (.int .u64 (sm N)) := x1
      have n0d : W.drew.cell? ⟨p + 1, 0, none⟩ = some (.int .i64 (nn N)) := n0
      have e0d : W.drew.cell? ⟨w.heap.size, 0, none⟩ = some (.slice none 0 0) := e0
      have f0d : W.drew.frozen? ⟨w.heap.size, 0, none⟩ = false := f0
      obtain ⟨hE, aE⟩ := h2.end hR (nn N)
      have hEd := hE.drew hR
      have kd := aE.non D _ hK2 rfl
      obtain ⟨va, vc, rfl⟩ : ∃ va vc, v = .slice va N vc := by
        rcases h.row.2 with ⟨e, e0⟩ | ⟨g, cap, cur, e, _⟩
        · exact ⟨none, 0, by rw [e, e0]⟩
        · exact ⟨_, _, e⟩
      gi_wp2
      gi_region
      gi_wp2
      refine ⟨by simp, .inl ⟨_, _, rfl, run_takeDeferred (show _ = _ from kd), ?_⟩⟩
      obtain ⟨W9, hW9⟩ : ∃ W9, World.putObj ((((W.setCell ⟨w.heap.size, 0, none⟩ (.slice va N vc)).setCell ⟨w.heap.size, 1, none⟩ (.int .u64 (sm N))).setCell ⟨w.heap.size + 1, 0, none⟩ (.int .i64 (nn N))).drew) D (.deferred none) = W9 := ⟨_, rfl⟩
      rw [hW9]
      have hE9 : RdE T K R w N (.slice va N vc) Cs (sm N) (nn N) W9 := by rw [← hW9]; exact hEd.own hR (B := D) (by omega) (grownBy_putObj' _ D _) (fun r e => by cases e; exact ⟨Nat.le_refl _, _, (show _ = _ from kd), rfl⟩)
      have y0 := cell_heap (i := 0) (v := .slice va N vc) hE9.res rfl
      have y1 := cell_heap (i := 1) (v := .int .u64 (sm N)) hE9.res rfl
      have y2 := cell_heap (i := 0) (v := .int .i64 (nn N)) hE9.res1 rfl
      exact ⟨.tuple #[.agg #[.slice va N vc, .int .u64 (sm N)], .int .i64 (nn N)], by simp [results, Tryz.results11, go_sem, y0, y1, y2], _, Cs, rfl, rfl, hE9⟩

end Go.Proofs.YtiijghkfinkphaaGreatDoor.Vm

/- logbook.Read answers what its row says. -/
namespace Go.Proofs.YtiijghkfinkphaaGreatDoor.Vm
open Go Go.Proofs Go.RowKit
set_option linter.unusedVariables false
set_option linter.unusedSimpArgs false

def fcons {α : Type} (a : α) (f : Nat → α) : Nat → α
  | 0 => a
  | i + 1 => f i

structure RdF (F : Fun) (last parse late cp sum : Nat) (xs : List (List UInt8)) (es : List (List PV)) (n : Int) (rs : List RV) (N : Nat) (cs : List (List PV)) (T K : Nat → Int) (Pf Rf : Nat → PV) (sm : Nat → Int) (lst : Nat → List UInt8) (okk ltk : Nat → Bool) (r : Int) : Prop where
  len : cs.length = N
  le : N ≤ xs.length
  two : es.length ≤ 200 → es.length + N ≤ 200
  ent : ∀ i, i < N → cs[i]? = some [.int .i64 (T i), .int .i64 (K i), Rf i] ∧ ∃ m ws, Rf i = .sl m ws
  lastq : ∀ i x, i ≤ N → xs[i]? = some x → F last [.t (.agg [.sl 3 (es ++ cs.take i), .int .u64 (sm i)])] [] = some ([.p (.str (lst i))], [])
  go : ∀ i x, i < N → xs[i]? = some x → x ≠ lst i ∧ okk i = true ∧ ltk i = true
  stop : ∀ x, xs[N]? = some x → x ≠ lst N → okk N = false ∨ okk N = true ∧ (ltk N = false ∨ es.length + N = 200)
  parse : ∀ i x, i ≤ N → xs[i]? = some x → x ≠ lst i → (okk i = true → ∃ m ws, Pf i = .sl m ws) ∧ (Pf i = .nils ∨ ∃ m ws, Pf i = .sl m ws) ∧ F parse [.t (.p (.str x))] [] = some ([.agg [.int .i64 (T i), .int .i64 (K i), Pf i], .p (.bool (okk i))], [])
  late : ∀ i x, i ≤ N → xs[i]? = some x → x ≠ lst i → okk i = true → F late [.t (.agg [.sl 3 (es ++ cs.take i), .int .u64 (sm i)]), .t (.agg [.int .i64 (T i), .int .i64 (K i), Pf i])] [] = some ([.p (.bool (ltk i))], [])
  copy : ∀ i, i < N → F cp [.t (.agg [.int .i64 (T i), .int .i64 (K i), Pf i])] [] = some ([.agg [.int .i64 (T i), .int .i64 (K i), Rf i]], [])
  sum : ∀ i x, i < N → xs[i]? = some x → F sum [.t (.p (.int .u64 (sm i))), .t (.p (.str x))] [] = some ([.p (.int .u64 (sm (i + 1)))], [])
  ends : rs = [.agg [.sl 3 (es ++ cs), .int .u64 (sm N)], .p (.int .i64 r)]
  r1 : ∀ x, xs[N]? = some x → x = lst N → r = n + ((xs.take N).flatten.length : Nat) + (x.length : Nat)
  r2 : (∀ x, xs[N]? = some x → x ≠ lst N) → r = n + ((xs.take N).flatten.length : Nat)

theorem run_readEnd {F : Fun} {es : List (List PV)} {s n : Int} {rs : List RV} (h : (readEnd es s n).run F = some rs) : rs = [.agg [.sl 3 es, .int .u64 s], .p (.int .i64 n)] := by
  simp only [readEnd, Ask.run, Option.some.injEq] at h
  exact h.symm

theorem run_readA {F : Fun} {last parse late cp sum : Nat} {rs : List RV} : ∀ {xs : List (List UInt8)} {es : List (List PV)} {s n : Int}, (readA last parse late cp sum xs es s n).run F = some rs →
    ∃ N cs T K Pf Rf sm lst okk ltk r, sm 0 = s ∧ RdF F last parse late cp sum xs es n rs N cs T K Pf Rf sm lst okk ltk r
  | [], es, s, n, h => ⟨0, [], fun _ => 0, fun _ => 0, fun _ => .nils, fun _ => .nils, fun _ => s, fun _ => [], fun _ => false, fun _ => false, n, rfl,
      ⟨rfl, Nat.le_refl _, fun h => h, fun i hi => absurd hi (by omega), fun i x _ hx => by simp at hx, fun i x hi => absurd hi (by omega), fun x hx => by simp at hx, fun i x _ hx => by simp at hx, fun i x _ hx => by simp at hx, fun i hi => absurd hi (by omega), fun i x hi => absurd hi (by omega),
        by rw [List.append_nil]; exact run_readEnd h, fun x hx => by simp at hx, fun _ => by simp⟩⟩
  | x :: xs, es, s, n, h => by
    unfold readA at h
    obtain ⟨t, hlast, h⟩ := run_str h
    -- nothing of the first line is taken
    have base : ∀ (T K : Int) (Pf : PV) (okk ltk : Bool) (r : Int), (x ≠ t → okk = false ∨ okk = true ∧ (ltk = false ∨ es.length = 200)) →
        (x ≠ t → (okk = true → ∃ m ws, Pf = .sl m ws) ∧ (Pf = .nils ∨ ∃ m ws, Pf = .sl m ws) ∧ F parse [.t (.p (.str x))] [] = some ([.agg [.int .i64 T, .int .i64 K, Pf], .p (.bool okk)], [])) →
        (x ≠ t → okk = true → F late [.t (.agg [.sl 3 es, .int .u64 s]), .t (.agg [.int .i64 T, .int .i64 K, Pf])] [] = some ([.p (.bool ltk)], [])) →
        rs = [.agg [.sl 3 es, .int .u64 s], .p (.int .i64 r)] → (x = t → r = n + (x.length : Nat)) → (x ≠ t → r = n) →
        ∃ N cs T K Pf Rf sm lst okk ltk r, sm 0 = s ∧ RdF F last parse late cp sum (x :: xs) es n rs N cs T K Pf Rf sm lst okk ltk r := by
      intro T K Pf okk ltk r h1 h2 h3 h4 h5 h6
      have zero : ∀ {i : Nat} {y : List UInt8}, i ≤ 0 → (x :: xs)[i]? = some y → i = 0 ∧ y = x := fun {i y} hi hy => by
        obtain rfl : i = 0 := by omega
        simp at hy
        exact ⟨rfl, hy.symm⟩
      refine ⟨0, [], fun _ => T, fun _ => K, fun _ => Pf, fun _ => .nils, fun _ => s, fun _ => t, fun _ => okk, fun _ => ltk, r, rfl, ⟨rfl, Nat.zero_le _, fun h => h, fun i hi => absurd hi (by omega), ?_, fun i x hi => absurd hi (by omega), ?_, ?_, ?_, fun i hi => absurd hi (by omega), fun i x hi => absurd hi (by omega), ?_, ?_, ?_⟩⟩
      · intro i y hi hy
        obtain ⟨rfl, rfl⟩ := zero hi hy
        simpa using hlast
      · intro y hy hne
        obtain ⟨_, rfl⟩ := zero (Nat.le_refl _) hy
        simpa using h1 hne
      · intro i y hi hy hne
        obtain ⟨rfl, rfl⟩ := zero hi hy
        exact h2 hne
      · intro i y hi hy hne hok
        obtain ⟨rfl, rfl⟩ := zero hi hy
        simpa using h3 hne hok
      · simpa using h4
      · intro y hy he
        obtain ⟨_, rfl⟩ := zero (Nat.le_refl _) hy
        simpa using h5 he
      · intro hne
        simpa using h6 (hne x rfl)
    cases hxt : x == t with
    | true =>
      rw [hxt, cond_true] at h
      have e : x = t := by simpa using hxt
      exact base 0 0 .nils false false _ (fun hne => absurd e hne) (fun hne => absurd e hne) (fun hne => absurd e hne) (run_readEnd h) (fun _ => rfl) (fun hne => absurd e hne)
    | false =>
      rw [hxt, cond_false] at h
      have hne : x ≠ t := by simpa using hxt
      simp only [Ask.run] at h
      split at h
      case h_2 => cases h
      rename_i r hr
      split at h
      · rename_i t0 k0 m ws
        obtain ⟨l, hl, h⟩ := run_bool h
        cases l with
        | false =>
          rw [cond_false] at h
          exact base t0 k0 (.sl m ws) true false _ (fun _ => .inr ⟨rfl, .inl rfl⟩) (fun _ => ⟨fun _ => ⟨_, _, rfl⟩, .inr ⟨_, _, rfl⟩, hr⟩) (fun _ _ => hl) (run_readEnd h) (fun e => absurd e hne) (fun _ => rfl)
        | true =>
          rw [cond_true] at h
          cases h200 : Nat.beq es.length 200 with
          | true =>
            rw [h200, cond_true] at h
            exact base t0 k0 (.sl m ws) true true _ (fun _ => .inr ⟨rfl, .inr (Nat.eq_of_beq_eq_true h200)⟩) (fun _ => ⟨fun _ => ⟨_, _, rfl⟩, .inr ⟨_, _, rfl⟩, hr⟩) (fun _ _ => hl) (run_readEnd h) (fun e => absurd e hne) (fun _ => rfl)
          | false =>
            rw [h200, cond_false] at h
            have h2 : es.length ≠ 200 := Nat.ne_of_beq_eq_false h200
            clear base
            obtain ⟨m', ws', hcp, h⟩ := run_entry h
            obtain ⟨s', hs', h⟩ := run_u64 h
            obtain ⟨N, cs, T, K, Pf, Rf, sm, lst, okk, ltk, r, hsm, R⟩ := run_readA h
            refine ⟨N + 1, [.int .i64 t0, .int .i64 k0, .sl m' ws'] :: cs, fcons t0 T, fcons k0 K, fcons (.sl m ws) Pf, fcons (.sl m' ws') Rf, fcons s sm, fcons t lst, fcons true okk, fcons true ltk, r, rfl, ⟨by simp [R.len], by simpa using R.le, fun h => ?_, ?_, ?_, ?_, ?_, ?_, ?_, ?_, ?_, ?_, ?_, ?_⟩⟩
            · have := R.two (by simp; omega)
              simp at this
              omega
            · intro i hi
              cases i with
              | zero => exact ⟨rfl, _, _, rfl⟩
              | succ i => exact R.ent i (by omega)
            · intro i y hi hy
              cases i with
              | zero => simpa [fcons] using hlast
              | succ i => simpa [fcons] using R.lastq i y (by omega) (by simpa using hy)
            · intro i y hi hy
              cases i with
              | zero =>
                simp at hy
                subst hy
                exact ⟨hne, rfl, rfl⟩
              | succ i => exact R.go i y (by omega) (by simpa using hy)
            · intro y hy hn
              have := R.stop y (by simpa using hy) hn
              simp at this
              rcases this with h | ⟨h, h'⟩
              · exact .inl h
              · exact .inr ⟨h, h'.imp id fun h => by omega⟩
            · intro i y hi hy hn
              cases i with
              | zero =>
                simp at hy
                subst hy
                exact ⟨fun _ => ⟨_, _, rfl⟩, .inr ⟨_, _, rfl⟩, hr⟩
              | succ i => exact R.parse i y (by omega) (by simpa using hy) hn
            · intro i y hi hy hn hok
              cases i with
              | zero => simpa [fcons] using hl
              | succ i => simpa [fcons] using R.late i y (by omega) (by simpa using hy) hn hok
            · intro i hi
              cases i with
              | zero => exact hcp
              | succ i => exact R.copy i (by omega)
            · intro i y hi hy
              cases i with
              | zero =>
                simp at hy
                subst hy
                show F sum [.t (.p (.int .u64 s)), _] [] = some ([.p (.int .u64 (sm 0))], [])
                rw [hsm]
                exact hs'
              | succ i => exact R.sum i y (by omega) (by simpa using hy)
            · simpa [fcons] using R.ends
            · intro y hy he
              rw [R.r1 y (by simpa using hy) he]
              simp
              omega
            · intro hn
              rw [R.r2 fun y hy => hn y (by simpa using hy)]
              simp
              omega
      · rename_i t0 k0
        exact base t0 k0 .nils false false _ (fun _ => .inl rfl) (fun _ => ⟨(fun e => by cases e), .inl rfl, hr⟩) (fun _ e => by cases e) (run_readEnd h) (fun e => absurd e hne) (fun _ => rfl)
      · rename_i t0 k0 m ws
        exact base t0 k0 (.sl m ws) false false _ (fun _ => .inl rfl) (fun _ => ⟨fun _ => ⟨_, _, rfl⟩, .inr ⟨_, _, rfl⟩, hr⟩) (fun _ e => by cases e) (run_readEnd h) (fun e => absurd e hne) (fun _ => rfl)
      · cases h

theorem lines_flat : ∀ (x : List UInt8), (linesB x).flatten = x
  | [] => rfl
  | b :: l => by
    have := lines_flat l
    unfold linesB
    cases hb : b == 10 with
    | true => simp [this]
    | false =>
      rw [cond_false]
      split
      · rename_i h
        rw [h] at this
        simp at this
        subst this
        rfl
      · rename_i h
        rw [h] at this
        simpa using this

theorem cell_cells {W : World} {b i : Nat} {v : Value} (h : W.cell? ⟨b, i, none⟩ = some v) : ∃ o : Obj, W.heap[b]? = some o ∧ o.isCells = true := by
  unfold World.cell? at h
  cases hb : W.heap[b]? with
  | none => simp [hb] at h
  | some o => cases o <;> simp_all [Obj.isCells]

theorem VP.extC {w w' : World} {O O' : Nat → Prop} (hs : w.heap.size ≤ w'.heap.size) (hk : ∀ b o, w.heap[b]? = some o → o.isCells = true → ¬ O b → w'.heap[b]? = some o)
    (ho : ∀ b, b < w.heap.size → O' b → O b) {v : PV} {u : Value} (h : VP w O v u) : VP w' O' v u := by
  induction h with
  | int k n => exact .int k n
  | bool b => exact .bool b
  | str s => exact .str s
  | nils => exact .nils
  | nilp => exact .nilp
  | nilf => exact .nilf
  | fn f => exact .fn f
  | anyb b => exact .anyb b
  | ifcN => exact .ifcN
  | ifc t v => exact .ifc t v
  | sl0 sz a cap => exact .sl0 sz a cap
  | sl sz es b off cap f hb hO hc hz hcell _ ih =>
    refine .sl sz es b off cap f (by omega) (fun h => hO (ho b hb h)) hc hz (fun i j e c he hj => ?_) ih
    have h1 := hcell i j e c he hj
    obtain ⟨o, ho1, ho2⟩ := cell_cells h1
    rw [World.cell?_of_block (w := w) (a := ⟨b, off + i * sz + j, none⟩) ((hk b o ho1 ho2 hO).trans ho1.symm)]
    exact h1

theorem cells2 {β : Type} {P : β → Value → Prop} {a b : β} {us : Array Value} (h : All2 P [a, b] us.toList) : ∃ x y, us = #[x, y] ∧ P a x ∧ P b y := by
  cases hl : us.toList with
  | nil => rw [hl] at h; exact h.elim
  | cons x l => cases l with
    | nil => rw [hl] at h; exact h.2.elim
    | cons y l => cases l with
      | nil => rw [hl] at h; exact ⟨x, y, arr2 hl, h.1, h.2.1⟩
      | cons => rw [hl] at h; exact h.2.2.elim

theorem okf_new : hasN 17 E.okf = true := by kernel_rfl
theorem okf_last : hasN 23 E.okf = true := by kernel_rfl
theorem okf_parse : hasN 29 E.okf = true := by kernel_rfl
theorem okf_late : hasN 30 E.okf = true := by kernel_rfl
theorem okf_copy : hasN 31 E.okf = true := by kernel_rfl
theorem okf_sum : hasN 32 E.okf = true := by kernel_rfl

set_option maxHeartbeats 2000000 in
theorem s_hRead : ∀ F, FSound E F → ∀ args rs, (hRead 17 23 29 30 31 32).run F args = some rs → FOk E 11 args [] rs [] := by
  intro F hF args rs h
  replace h : (readT 17 23 29 30 31 32 args).run F = some rs := h
  unfold readT at h
  split at h
  case h_2 => cases h
  rename_i x
  cases hxb : Nat.ble x.length 100000 with
  | false => rw [hxb] at h; cases h
  | true =>
  rw [hxb, cond_true] at h
  have hxl : x.length ≤ 100000 := Nat.le_of_ble_eq_true hxb
  simp only [Ask.run] at h
  split at h
  case h_2 => cases h
  rename_i r0 hnew
  split at h
  case h_2 => cases h
  rename_i s
  obtain ⟨N, cs, T, K, Pf, Rf, sm, lst, okk, ltk, r, hsm, R⟩ := run_readA h
  clear h
  obtain ⟨nn, hnn⟩ : ∃ nn : Nat → Int, ∀ k, nn k = ((((linesB x).take k).flatten.length : Nat) : Int) := ⟨_, fun _ => rfl⟩
  have hstep : ∀ k y, (linesB x)[k]? = some y → nn (k + 1) = nn k + (y.length : Nat) := fun k y hy => by
    rw [hnn, hnn, List.take_add_one, hy]
    simp
  have hcap : ∀ k, nn k ≤ 100000 := fun k => by
    rw [hnn]
    have h1 : ((linesB x).take k).flatten.length + ((linesB x).drop k).flatten.length = x.length := by
      rw [← List.length_append, ← List.flatten_append, List.take_append_drop, lines_flat]
    omega
  have hpos : ∀ k, 0 ≤ nn k := fun k => by rw [hnn]; omega
  intro C hok hC us hv
  obtain ⟨u, rfl, hu⟩ := one_arg hv
  rw [vp_str hu]
  clear hu hv
  -- the book as it stands in a round
  have book : ∀ (k : Nat) (v : Value) (Cs : Nat → Value) (W : World), k ≤ N → Below C.w.heap.size C.w W → W.ownsRow C.w.heap.size 51 3 v k (rowF T K Cs k) → (∀ j, j < k → (Cs j).oneCell' = true ∧ VP W (fun b => C.X b ∨ v.ownBlock = some b) (Rf j) (Cs j)) →
      VP W (C.setW W).O (.sl 3 (cs.take k)) v := by
    intro k v Cs W hk hW hrow hel
    rcases Nat.eq_zero_or_pos k with rfl | h0
    · rcases hrow.2 with ⟨rfl, _⟩ | ⟨g, cap, cur, rfl, _⟩
      · exact .sl0 _ _ _
      · exact .sl0 _ _ _
    · refine row_vp (n := k) (by rw [List.length_take, R.len]; omega) h0 hrow (own_lt hok hC W) (fun j hj => ?_)
      obtain ⟨h1, m, ws, h2⟩ := R.ent j (by omega)
      refine ⟨m, ws, by rw [List.getElem?_take_of_lt hj, h1, h2], ?_⟩
      rw [← h2]
      exact VP.ext (Nat.le_refl _) (fun _ _ _ => rfl) (fun b _ ho => by
        rcases ho with h | h
        · exact .inl h
        · exact absurd h (no_own (C := C.setW W) hC b)) (hel j hj).2
  have hR0 : ∀ (Q : Nat → PV) (k : Nat), KeepsC (fun Y c W => VP W (fun b => C.X b ∨ Y b) (Q k) c) := fun Q k Y Y' c W W' h hs hk hy =>
    VP.extC hs (fun b o hb hc ho => hk b o hb hc (fun h => ho (.inr h))) (fun b hb ho => ho.imp id (hy b hb)) h
  refine (read_walk x hxl C.w N T K sm nn lst okk ltk r (fun k Y c W => VP W (fun b => C.X b ∨ Y b) (Rf k) c) (fun k Y c W => VP W (fun b => C.X b ∨ Y b) (Pf k) c) (hR0 Rf) (hR0 Pf) R.le (by have := R.two (by simp); simpa using this)
    (by rw [hnn]; rfl) ?_ R.go ?_ ?_ ?_ ?_ ?_ ?_ ?_ ?_ ?_ ?_).mono ?_
  · intro k y _ hy
    rw [hstep k y hy]
    have h1 := hcap (k + 1)
    have h2 := hpos k
    rw [hstep k y hy] at h1
    unfold wrap64
    omega
  · intro y hy hne
    simpa using R.stop y hy hne
  · intro y hy he
    rw [R.r1 y hy he, hstep N y hy, hnn]
    omega
  · intro hne
    rw [R.r2 hne, hnn]
    omega
  · intro W hW
    refine (FOk.at (hF.fn _ _ [] _ _ hnew okf_new) hok hC (Grow.of_below hW) (us := #[]) trivial).mono fun e w' ⟨u, he, D, hw, hx, _, _, hu⟩ => ?_
    subst he hw
    refine ⟨?_, below_ext hx hC (Nat.le_refl _)⟩
    obtain ⟨us, rfl, ht⟩ := hu
    obtain ⟨a, b, rfl, ha, hb⟩ := cells2 ht
    cases ha
    cases hb
    rw [hsm]
  · intro u W
    exact (Any.strings_IndexByte Tryz.lays137 ⟨u.toArray⟩ 10 W).mono fun e w' ⟨he, hw⟩ => ⟨he, hw⟩
  · intro k y v Cs W hk hy hW hrow hel
    exact call_str hF okf_last (args := [.t (.agg [.sl 3 (cs.take k), .int .u64 (sm k)])]) (by rw [show cs.take k = [] ++ cs.take k from rfl, R.lastq k y hk hy]; rfl) (C := C.setW W) (ok_grow hok (Grow.of_below hW)) hC (W := W) (Grow.refl _) (us := #[.agg #[v, .int .u64 (sm k)]])
      ⟨⟨_, rfl, book k v Cs W hk hW hrow hel, .int _ _, trivial⟩, trivial⟩
  · intro k y W Y hk hy hne hW hY
    obtain ⟨h1, h2, h3⟩ := R.parse k y hk hy hne
    refine (FOk.atX (hF.fn _ _ [] _ _ h3 okf_parse) hok hC (Grow.of_below hW) (Y := Y) (us := #[.string ⟨y.toArray⟩]) (fun b hb => (hY b hb).2) ⟨.str _, trivial⟩).mono fun e w' ⟨u, he, D, hw, hx, _, _, hu⟩ => ?_
    subst he hw
    obtain ⟨us, rfl, ht⟩ := hu
    obtain ⟨a, b, rfl, ⟨us2, rfl, ht2⟩, hb⟩ := cells2 ht
    cases hb
    obtain ⟨c, rfl, hc⟩ := cells3 vp_int64 ht2
    have hc2 : VP D.w (fun b => C.X b ∨ Y b) (Pf k) c := VP.ext (Nat.le_refl _) (fun _ _ _ => rfl) (fun b hb ho => .inl (by rw [hx.X]; exact ho)) hc
    have hs : ∃ ca cl cc, c = .slice ca cl cc := by
      rcases h2 with h | ⟨m, ws, h⟩
      · rw [h] at hc2
        cases hc2
        exact ⟨_, _, _, rfl⟩
      · rw [h] at hc2
        cases hc2 <;> exact ⟨_, _, _, rfl⟩
    obtain ⟨ca, cl, cc, rfl⟩ := hs
    exact ⟨ca, cl, cc, rfl, fun _ => hc2, below_ext hx hC (Nat.le_refl _)⟩
  · intro k y v Cs c W hk hy hne hkk hW hrow hel hp
    refine call_bool hF okf_late (args := [.t (.agg [.sl 3 (cs.take k), .int .u64 (sm k)]), .t (.agg [.int .i64 (T k), .int .i64 (K k), Pf k])]) (by have := R.late k y hk hy hne hkk; simpa using this) (C := C.setW W) (ok_grow hok (Grow.of_below hW)) hC (W := W) (Grow.refl _) (us := #[.agg #[v, .int .u64 (sm k)], .agg #[.int .i64 (T k), .int .i64 (K k), c]])
      ⟨⟨_, rfl, book k v Cs W hk hW hrow hel, .int _ _, trivial⟩, ⟨_, rfl, .int _ _, .int _ _, VP.ext (Nat.le_refl _) (fun _ _ _ => rfl) (fun b _ ho => ?_) hp, trivial⟩, trivial⟩
    rcases ho with h | h
    · exact .inl h
    · exact absurd h (no_own (C := C.setW W) hC b)
  · intro k y c W Y hk hy hW hY hp
    have hcp := R.copy k hk
    refine (FOk.atX (hF.fn _ _ [] _ _ hcp okf_copy) hok hC (Grow.of_below hW) (Y := Y) (us := #[.agg #[.int .i64 (T k), .int .i64 (K k), c]]) (fun b hb => (hY b hb).2) ⟨⟨_, rfl, .int _ _, .int _ _, VP.ext (Nat.le_refl _) (fun _ _ _ => rfl) (fun b _ ho => ?_) hp, trivial⟩, trivial⟩).mono fun e w' ⟨u, he, D, hw, hx, _, hDh, hu⟩ => ?_
    · rcases ho with h | h
      · exact h
      · exact absurd h (no_own (C := C.hide W Y) hC b)
    · subst he
      obtain ⟨us, rfl, ht⟩ := hu
      obtain ⟨c', rfl, hc⟩ := cells3 vp_int64 ht
      subst hw
      refine ⟨c', rfl, hc.oneCell, VP.ext (Nat.le_refl _) (fun _ _ _ => rfl) (fun b hb ho => .inl ?_) hc, below_ext hx hC (Nat.le_refl _)⟩
      rw [hx.X]
      exact ho
  · intro k y W hk hy hW
    exact call_u64 hF okf_sum (R.sum k y hk hy) hok hC (Grow.of_below hW) (us := #[.int .u64 (sm k), .string ⟨y.toArray⟩]) ⟨.int _ _, .str _, trivial⟩
  · rintro e w' ⟨v, Cs, rfl, hv1, hE⟩
    have hg := Grow.of_below hE.below
    have hb := book N v Cs w' (Nat.le_refl _) hE.below hE.row hE.el
    rw [List.take_of_length_le (by rw [R.len]; exact Nat.le_refl _)] at hb
    rw [R.ends]
    exact ⟨C.setW w', rfl, ext_grow C hg, ok_grow hok hg, hC, _, rfl, ⟨_, rfl, hb, .int _ _, trivial⟩, .int _ _, trivial⟩

end Go.Proofs.YtiijghkfinkphaaGreatDoor.Vm
