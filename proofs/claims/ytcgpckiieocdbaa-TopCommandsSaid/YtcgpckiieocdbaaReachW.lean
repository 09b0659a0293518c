/- network.Reach, walked: what the calls inside come to is given. -/
import Derived.Test.YtcgpckiieocdbaaAskS
import Derived.WalkKit
import Derived.OwnWalk
import Derived.WalkMore
import Derived.ScopeJumps
import Derived.Tactics
import Derived.Tactics2
import Derived.Laws.MakeOwn
import Derived.Deep.RegionLaw
import Derived.Lib.BufferWrite
import Derived.KernelRfl
import Derived.Below
namespace Go.Proofs.Ytcgpckiieocdbaa.Vm
open Go Go.Proofs Go.RowKit
set_option linter.unusedVariables false
set_option linter.unusedSimpArgs false

theorem wp_scope_back {P : Program} {a : Act} {w : World} {Q : Exit → Act → World → Prop} {c rest : Code} (l : Nat) (J : Act → World → Prop) (μ : Act → World → Nat) (hf : findLabel c l = some (Code.seq .skip rest))
    (pass : ∀ a w, J a w → rest.wp P (Exit.jump l (fun a' w' => J a' w' ∧ μ a' w' < μ a w) Q) a w)
    (first : (∀ a w, J a w → rest.wp P (Exit.jump l J Q) a w) → c.wp P (Exit.jump l J Q) a w) : (Code.scope c).wp P Q a w := by
  refine wp_scope_jumps l J μ hf (first fun a w h => wp_mono (pass a w h) fun e a' w' hq => ?_) fun a w h => wp_seq (wp_skip (pass a w h))
  cases e with
  | goto l' => exact ⟨hq.1, hq.2.1⟩
  | _ => exact hq

/-! ### Truths in memory -/
def bls (l : List Bool) : Array Value := (l.map Value.bool).toArray
theorem bls_get {l : List Bool} {k : Nat} (h : k < l.length) : (bls l)[k]? = some (.bool (l.getD k false)) := by simp [bls, List.getD, h]
theorem bls_set (l : List Bool) (k : Nat) (b : Bool) : (bls l).setIfInBounds k (.bool b) = bls (l.set k b) := by
  apply Array.ext'
  simp [bls, List.map_set]
def unb : Value → Bool | .bool b => b | _ => true
def rdB (W : World) (s : Nat) : List Bool := match W.heap[s]? with | some (.cells c _ _) => c.toList.map unb | _ => []
def cntF (l : List Bool) : Nat := (l.filter fun b => !b).length
def blkOf : Value → Nat | .slice (some a) _ _ => a.block | _ => 0

/-- The box of the net, the seen nodes, and what stood at V. -/
structure Rch (w V W : World) (sv : Value) (n : Int) (s : Nat) (seen : List Bool) : Prop where
  below : Below w.heap.size w W
  bx : W.heap[w.heap.size]? = some (.cells #[.int .i64 n, sv] 28 (0, 0))
  sn : W.heap[s]? = some (.cells (bls seen) 4 (0, 0))
  lo : w.heap.size < s
  hi : s < V.heap.size
  size : V.heap.size ≤ W.heap.size
  keep : ∀ k, k < V.heap.size → k ≠ s → W.heap[k]? = V.heap[k]?
section
variable {w V W W' : World} {sv : Value} {n : Int} {s : Nat} {seen : List Bool}
theorem Rch.step (h : Rch w V W sv n s seen) (hB : Below W.heap.size W W') : Rch w V W' sv n s seen := by
  have h1 := (Array.getElem?_eq_some_iff.1 h.bx).1
  have h2 := (Array.getElem?_eq_some_iff.1 h.sn).1
  exact ⟨h.below.trans (hB.mono h.below.size), (hB.block _ h1).trans h.bx, (hB.block _ h2).trans h.sn, h.lo, h.hi, Nat.le_trans h.size hB.size, fun k hk hs => (hB.block k (Nat.lt_of_lt_of_le hk h.size)).trans (h.keep k hk hs)⟩
theorem Rch.cell (h : Rch w V W sv n s seen) {k : Nat} (hk : k < seen.length) : W.cell? ⟨s, k, none⟩ = some (.bool (seen.getD k false)) := by
  simp only [World.cell?, h.sn]
  exact bls_get hk
theorem Rch.fz (h : Rch w V W sv n s seen) (k : Nat) : W.frozen? ⟨s, k, none⟩ = false := by simp [World.frozen?, h.sn]
theorem Rch.set (h : Rch w V W sv n s seen) (k : Nat) (b : Bool) : Rch w V (W.setCell ⟨s, k, none⟩ (.bool b)) sv n s (seen.set k b) := by
  have g := Lib.grownBy_setCell W s k (.bool b)
  have h1 := (Array.getElem?_eq_some_iff.1 h.bx).1
  have hl := h.lo
  refine ⟨⟨g.os.trans h.below.os, g.tape.trans h.below.tape, g.output.trans h.below.output, Nat.le_trans h.below.size g.size, fun k' hk => (g.block k' (by have := h.below.size; omega) (by simp only [ne_eq, Option.some.injEq]; omega)).trans (h.below.block k' hk)⟩, (g.block _ h1 (by simp only [ne_eq, Option.some.injEq]; omega)).trans h.bx, ?_, h.lo, h.hi, Nat.le_trans h.size g.size, fun k' hk hs => (g.block k' (Nat.lt_of_lt_of_le hk h.size) (by simp only [ne_eq, Option.some.injEq]; omega)).trans (h.keep k' hk hs)⟩
  rw [Lib.heap_setCell_same h.sn, bls_set]
theorem Rch.rd (h : Rch w V W sv n s seen) : rdB W s = seen := by
  unfold rdB
  rw [h.sn]
  simp [bls, unb, Function.comp_def]
end

theorem no_walk (n : Int) (sa : Option Addr) (len sc : Nat) (bv : Value) (net a b : Int) (w : World)
    (hright : ∀ W s, Below w.heap.size w W → w.heap.size ≤ s → W.heap[s]? = some (.cells #[.int .i64 a, .int .i64 b] 3 (0, 0)) → Calls Try.prog 26 #[.agg #[.int .i64 n, .slice sa len sc], .int .i64 net, .slice (some ⟨s, 0, none⟩) 2 2] W fun e w' => e = .returned (.bool false) ∧ Below W.heap.size W w') :
    Calls Try.prog 17 #[.agg #[.int .i64 n, .slice sa len sc], bv, .int .i64 net, .int .i64 a, .int .i64 b] w fun e w' => e = .returned (.bool false) ∧ Below w.heap.size w w' := by
  have hB0 : Below w.heap.size w ((w.alloc (.cells #[.int .i64 n, .slice sa len sc] 28)).alloc (.cells #[.int .i64 a, .int .i64 b] 3)) := ((Below.refl _ w).alloc (Nat.le_refl _) _).alloc (by simp) _
  have hs : ((w.alloc (.cells #[.int .i64 n, .slice sa len sc] 28)).alloc (.cells #[.int .i64 a, .int .i64 b] 3)).heap[w.heap.size + 1]? = some (.cells #[.int .i64 a, .int .i64 b] 3 (0, 0)) := by
    have := heap_alloc_new (w.alloc (.cells #[.int .i64 n, .slice sa len sc] 28)) (.cells #[.int .i64 a, .int .i64 b] 3)
    simpa using this
  go_enter Try.func17, Try.ntmps17
  go_wp2
  go_step3
  go_wp2_with (go_at_call 26; refine (hright _ _ hB0 (Nat.le_succ _) hs).mono ?_)
  rintro u V ⟨rfl, hBV⟩
  go_wp2
  rw [Exit.noGoto_ret]
  go_ret
  exact ⟨rfl, hB0.trans (hBV.mono hB0.size)⟩

/-! ### The search -/
def Cbl (V : World) (s : Nat) (ca : Option Addr) (cs : List (Nat × Nat)) : Prop := ∀ (j : Nat) x, cs[j]? = some x → ∃ B off z, ca = some ⟨B, off, none⟩ ∧ B < V.heap.size ∧ B ≠ s ∧ V.cell? ⟨B, off + j * 3, none⟩ = some (.int .i64 z) ∧ V.cell? ⟨B, off + j * 3 + 1, none⟩ = some (.int .i64 (x.1 : Int)) ∧ V.cell? ⟨B, off + j * 3 + 2, none⟩ = some (.int .i64 (x.2 : Int))
def ReJ (w : World) (sv bv : Value) (n net a b : Int) (cs : List (Nat × Nat)) (R : List Bool) (a' : Act) (W : World) : Prop :=
  ∃ (V : World) (s : Nat) (seen : List Bool) (fuel : Nat) (ca : Option Addr) (cc : Nat), Rch w V W sv n s seen ∧ seen.length = n.toNat ∧ cntF seen ≤ fuel ∧ sprd cs fuel seen = R ∧ Cbl V s ca cs ∧
    ∃ (u6 u7 u8 u9 u13 u14 u15 u16 u17 u18 u19 u20 u21 u22 u23 u24 u25 u26 u27 u28 u29 u30 u31 u32 u33 u34 u35 u36 u37 u38 u39 u40 u41 u42 u43 u44 u45 u46 u47 u48 u49 u50 u51 u52 u53 u54 u55 u56 u57 u58 u59 u60 u61 : Value), a' = { tmps := #[.agg #[.int .i64 n, sv], bv, .int .i64 net, .int .i64 a, .int .i64 b, .pointer (some ⟨w.heap.size, 0, none⟩), u6, u7, u8, u9, .bool false, .slice (some ⟨s, 0, none⟩) n.toNat n.toNat, .slice ca cs.length cc, u13, u14, u15, u16, u17, u18, u19, u20, u21, u22, u23, u24, u25, u26, u27, u28, u29, u30, u31, u32, u33, u34, u35, u36, u37, u38, u39, u40, u41, u42, u43, u44, u45, u46, u47, u48, u49, u50, u51, u52, u53, u54, u55, u56, u57, u58, u59, u60, u61], defers := [] }
def ReM (a' : Act) (W : World) : Nat := cntF (rdB W (blkOf (a'.tmps.getD 11 undef)))
def intV : Value → Int | .int _ q => q | _ => 0

theorem srch_drop {seen : List Bool} {cs : List (Nat × Nat)} {k : Nat} {x : Nat × Nat} (hx : cs[k]? = some x) (h : (seen.getD x.1 false != seen.getD x.2 false) = false) (hs : srch seen (cs.drop k) = srch seen cs) : srch seen (cs.drop (k + 1)) = srch seen cs := by
  have hlt : k < cs.length := (List.getElem?_eq_some_iff.1 hx).1
  have he : cs[k] = x := (List.getElem?_eq_some_iff.1 hx).2
  rw [List.drop_eq_getElem_cons hlt, he] at hs
  simp only [srch, h, cond_false] at hs
  exact hs
theorem srch_hit {seen : List Bool} {cs : List (Nat × Nat)} {k : Nat} {x : Nat × Nat} (hx : cs[k]? = some x) (h : (seen.getD x.1 false != seen.getD x.2 false) = true) (hs : srch seen (cs.drop k) = srch seen cs) : srch seen cs = some x := by
  have hlt : k < cs.length := (List.getElem?_eq_some_iff.1 hx).1
  have he : cs[k] = x := (List.getElem?_eq_some_iff.1 hx).2
  rw [List.drop_eq_getElem_cons hlt, he] at hs
  simp only [srch, h, cond_true] at hs
  exact hs.symm
theorem cntF_set : ∀ (l : List Bool) (k : Nat), cntF (l.set k true) ≤ cntF l
  | [], k => by simp
  | b :: l, 0 => by cases b <;> simp [cntF, List.filter]
  | b :: l, k + 1 => by
    have := cntF_set l k
    cases b <;> simp [cntF, List.filter] at this ⊢ <;> omega
theorem cntF_set_lt : ∀ (l : List Bool) (k : Nat), k < l.length → l.getD k false = false → cntF (l.set k true) < cntF l
  | [], k, h, _ => by simp at h
  | b :: l, 0, _, h => by
    simp at h
    subst h
    simp [cntF, List.filter]
  | b :: l, k + 1, h, h2 => by
    have := cntF_set_lt l k (by simpa using h) (by simpa using h2)
    cases b <;> simp [cntF, List.filter] at this ⊢ <;> omega
theorem cnt_next {seen : List Bool} {x : Nat × Nat} (h1 : x.1 < seen.length) (h2 : x.2 < seen.length) (h : (seen.getD x.1 false != seen.getD x.2 false) = true) : cntF ((seen.set x.1 true).set x.2 true) < cntF seen := by
  cases ha : seen.getD x.1 false with
  | false =>
    have := cntF_set_lt seen x.1 h1 ha
    have := cntF_set (seen.set x.1 true) x.2
    omega
  | true =>
    cases hb : seen.getD x.2 false with
    | true => rw [ha, hb] at h; cases h
    | false =>
      have he : seen.set x.1 true = seen := by
        apply List.ext_getElem (by simp)
        intro i hi _
        rw [List.getElem_set]
        split
        · rename_i hxi
          subst hxi
          simpa [List.getD, h1] using ha.symm
        · rfl
      rw [he]
      exact cntF_set_lt seen x.2 h2 hb

theorem make_seen (n : Int) (hn : 0 ≤ n ∧ n ≤ 1000) (W : World) : (Instr.makeSlice 39 (.int .i64 n) (.int .i64 n)).run Try.prog W = .ok (.slice (some ⟨W.heap.size, 0, none⟩) n.toNat n.toNat) (W.alloc (.cells (bls (List.replicate n.toNat false)) 4)) := by
  have hi : (Try.prog.info? 4).map (fun i => (i.zero, i.size, i.bytes)) = some (some (.bool false), 1, 1) := by kernel_rfl
  cases h : Try.prog.info? 4 with
  | none => rw [h] at hi; cases hi
  | some i =>
    rw [h] at hi
    simp only [Option.map_some, Option.some.injEq, Prod.mk.injEq] at hi
    obtain ⟨hz, hsz, hby⟩ := hi
    rw [run_make W 39 4 i (.bool false) Try.underlying39 h hz .i64 .i64 n n hn.1 (Int.le_refl _) (by rw [hby]; omega) (by omega)]
    congr 2
    rw [hsz, Nat.mul_one]
    congr 1
    apply Array.ext'
    rw [show (Value.bool false).cells = #[Value.bool false] from rfl, toList_madeCells_one]
    simp [bls]

set_option maxRecDepth 100000 in
set_option maxHeartbeats 8000000 in
theorem yes_walk (n : Int) (sa : Option Addr) (len sc : Nat) (bv : Value) (net a b : Int) (cs : List (Nat × Nat)) (w : World) (hn : 0 ≤ n ∧ n ≤ 1000) (ha : 0 ≤ a ∧ a < n) (hb : 0 ≤ b ∧ b < n) (hcs : cs.length ≤ 1000) (hok : ∀ x ∈ cs, x.1 < n.toNat ∧ x.2 < n.toNat)
    (hright : ∀ W s, Below w.heap.size w W → w.heap.size ≤ s → W.heap[s]? = some (.cells #[.int .i64 a, .int .i64 b] 3 (0, 0)) → Calls Try.prog 26 #[.agg #[.int .i64 n, .slice sa len sc], .int .i64 net, .slice (some ⟨s, 0, none⟩) 2 2] W fun e w' => e = .returned (.bool true) ∧ Below W.heap.size W w')
    (hwhole : ∀ W s, Below w.heap.size w W → w.heap.size ≤ s → s < W.heap.size → Calls Try.prog 27 #[.agg #[.int .i64 n, .slice sa len sc], bv, .int .i64 net] W fun e w' => ∃ ca cc, e = .returned (.slice ca cs.length cc) ∧ Below W.heap.size W w' ∧ Cbl w' s ca cs) :
    Calls Try.prog 17 #[.agg #[.int .i64 n, .slice sa len sc], bv, .int .i64 net, .int .i64 a, .int .i64 b] w fun e w' => e = .returned (.bool (reachB n.toNat a.toNat b.toNat cs)) ∧ Below w.heap.size w w' := by
  have hB0 : Below w.heap.size w ((w.alloc (.cells #[.int .i64 n, .slice sa len sc] 28)).alloc (.cells #[.int .i64 a, .int .i64 b] 3)) := ((Below.refl _ w).alloc (Nat.le_refl _) _).alloc (by simp) _
  have hs : ((w.alloc (.cells #[.int .i64 n, .slice sa len sc] 28)).alloc (.cells #[.int .i64 a, .int .i64 b] 3)).heap[w.heap.size + 1]? = some (.cells #[.int .i64 a, .int .i64 b] 3 (0, 0)) := by
    have := heap_alloc_new (w.alloc (.cells #[.int .i64 n, .slice sa len sc] 28)) (.cells #[.int .i64 a, .int .i64 b] 3)
    simpa using this
  go_enter Try.func17, Try.ntmps17
  go_wp2
  refine wp_scope_back 0 (ReJ w (.slice sa len sc) bv n net a b cs (sprd cs n.toNat (seen0 n.toNat a.toNat))) ReM rfl ?pass ?first
  case pass =>
    rintro a' W ⟨V, s, seen, fuel, ca, cc, hR, hlen, hcnt, hspr, hC, u6, u7, u8, u9, u13, u14, u15, u16, u17, u18, u19, u20, u21, u22, u23, u24, u25, u26, u27, u28, u29, u30, u31, u32, u33, u34, u35, u36, u37, u38, u39, u40, u41, u42, u43, u44, u45, u46, u47, u48, u49, u50, u51, u52, u53, u54, u55, u56, u57, u58, u59, u60, u61, rfl⟩
    go_wp2
    go_loopw [34] (fun i wr => ∃ k : Nat, k ≤ cs.length ∧ i = .int .i64 (k : Nat) ∧ Rch w V wr (.slice sa len sc) n s seen ∧ srch seen (cs.drop k) = srch seen cs)
      (fun i _ => cs.length - (intV i).toNat)
    case atStart => exact ⟨0, Nat.zero_le _, rfl, hR, by rw [List.drop_zero]⟩
    case round =>
      obtain ⟨k, hk, rfl, hR', hsr⟩ := hrel
      by_cases hlt : k < cs.length
      · obtain ⟨⟨x1, x2⟩, hx⟩ : ∃ x, cs[k]? = some x := ⟨_, List.getElem?_eq_getElem hlt⟩
        obtain ⟨B, off, z, rfl, hBV, hBs, y0, y1, y2⟩ := hC k _ hx
        obtain ⟨ho1, ho2⟩ := hok _ (List.mem_of_getElem? hx)
        dsimp only at y1 y2 ho1 ho2
        have hkp := hR'.keep B hBV hBs
        replace y0 := (World.cell?_of_block (a := ⟨B, off + k * 3, none⟩) hkp).trans y0
        replace y1 := (World.cell?_of_block (a := ⟨B, off + k * 3 + 1, none⟩) hkp).trans y1
        replace y2 := (World.cell?_of_block (a := ⟨B, off + k * 3 + 2, none⟩) hkp).trans y2
        have hX := hR'.step (W' := wr.alloc (.cells #[.int .i64 z, .int .i64 (x1 : Int), .int .i64 (x2 : Int)] 53)) ((Below.refl _ wr).alloc (Nat.le_refl _) _)
        have hXd := hX.step (W' := (wr.alloc (.cells #[.int .i64 z, .int .i64 (x1 : Int), .int .i64 (x2 : Int)] 53)).drew) ((Below.refl _ _).drew)
        have c1 := hXd.cell (k := x1) (by omega)
        have c2 := hXd.cell (k := x2) (by omega)
        have f1 := hXd.fz x1
        have g1 := hX.cell (k := x1) (by omega)
        have g2 := hX.fz x1
        have hX2 := (((hX.set x1 true).step (Below.refl _ _).drew).step (Below.refl _ _).drew)
        have c3 := hX2.cell (k := x2) (by rw [List.length_set]; omega)
        have f3 := hX2.fz x2
        obtain ⟨p1, hp1⟩ : ∃ p, seen.getD x1 false = p := ⟨_, rfl⟩
        obtain ⟨p2, hp2⟩ : ∃ p, seen.getD x2 false = p := ⟨_, rfl⟩
        obtain ⟨p3, hp3⟩ : ∃ p, (seen.set x1 true).getD x2 false = p := ⟨_, rfl⟩
        have hsw : wr.heap.size ≠ s := by have := hR'.hi; have := hR'.size; omega
        have c4 : ((((wr.alloc (.cells #[.int .i64 z, .int .i64 (x1 : Int), .int .i64 (x2 : Int)] 53)).setCell ⟨s, x1, none⟩ (.bool true)).drew).drew).cell? ⟨wr.heap.size, 2, none⟩ = some (.int .i64 (x2 : Int)) := by
          show ((wr.alloc (.cells #[.int .i64 z, .int .i64 (x1 : Int), .int .i64 (x2 : Int)] 53)).setCell ⟨s, x1, none⟩ (.bool true)).cell? ⟨wr.heap.size, 2, none⟩ = _
          rw [World.cell?_setCell_other _ _ _ _ (by simp only [ne_eq, Addr.mk.injEq]; omega)]
          have h0 := heap_alloc_new wr (.cells #[.int .i64 z, .int .i64 (x1 : Int), .int .i64 (x2 : Int)] 53)
          simp only [World.cell?, h0]
          rfl
        rw [hp1] at c1 g1
        rw [hp2] at c2
        rw [hp3] at c3
        by_cases hd : p1 = p2
        · subst hd
          go_wp2
          go_region
          go_wp2
          have hd' : (seen.getD x1 false != seen.getD x2 false) = false := by rw [hp1, hp2]; simp
          refine ⟨⟨k + 1, by omega, by simp, hXd, srch_drop hx hd' hsr⟩, ?_⟩
          simp [intV] <;> omega
        · have hd' : (seen.getD x1 false != seen.getD x2 false) = true := by rw [hp1, hp2]; simpa using hd
          have hpp : (!p1 == p2) = true := by revert hd; cases p1 <;> cases p2 <;> simp
          go_wp2
          go_region
          go_wp2
          go_region
          go_wp2
          go_step3
          have hX3 := (((hX.set x1 true).set x2 true).step (Below.refl _ _).drew).step (Below.refl _ _).drew
          have hlt2 := cnt_next (seen := seen) (x := (x1, x2)) (by dsimp only; omega) (by dsimp only; omega) hd'
          dsimp only at hlt2
          obtain ⟨f, rfl⟩ : ∃ f, fuel = f + 1 := ⟨fuel - 1, by omega⟩
          have hhit := srch_hit hx hd' hsr
          simp only [sprd, hhit] at hspr
          refine ⟨rfl, ⟨V, s, _, f, _, cc, hX3, by simpa using hlen, by omega, hspr, hC, ?_⟩, ?_⟩
          · iterate 53 apply Exists.intro
            rfl
          have q1 := hX3.rd
          have q2 := hR.rd
          refine Nat.lt_of_le_of_lt (Nat.le_of_eq (congrArg cntF q1)) (Nat.lt_of_lt_of_le hlt2 (Nat.le_of_eq (congrArg cntF q2.symm)))
      · obtain rfl : k = cs.length := by omega
        have cb := hR'.cell (k := b.toNat) (by omega)
        go_wp2
        simp only [Exit.jump]
        go_ret
        refine ⟨?_, hR'.below⟩
        congr 2
        unfold reachB
        rw [← hspr]
        have hnone : srch seen cs = none := by
          rw [← hsr, List.drop_length]
          rfl
        have : sprd cs fuel seen = seen := by
          cases fuel with
          | zero => rfl
          | succ f => simp only [sprd, hnone]
        rw [this]
        simp
  case first =>
    intro hrest
    go_wp2_with (go_at_call 26; refine (hright _ _ hB0 (Nat.le_succ _) hs).mono ?_)
    rintro u V1 ⟨rfl, hBV⟩
    have hBw := hB0.trans (hBV.mono hB0.size)
    have hsz : w.heap.size + 2 ≤ V1.heap.size := by have := hBV.size; simpa using this
    have hb1 : V1.heap[w.heap.size]? = some (.cells #[.int .i64 n, .slice sa len sc] 28 (0, 0)) := by
      rw [hBV.block _ (by simp; omega), ((Below.refl _ (w.alloc (.cells #[.int .i64 n, .slice sa len sc] 28))).alloc (Nat.le_refl _) (.cells #[.int .i64 a, .int .i64 b] 3)).block _ (by simp)]
      exact heap_alloc_new _ _
    have k0 : V1.cell? ⟨w.heap.size, 0, none⟩ = some (.int .i64 n) := by simp [World.cell?, hb1]
    have k1 : V1.cell? ⟨w.heap.size, 1, none⟩ = some (.slice sa len sc) := by simp [World.cell?, hb1]
    have mk := make_seen n hn V1
    obtain ⟨V2, hV2⟩ : ∃ V2, V2 = V1.alloc (.cells ((bls (List.replicate n.toNat false)).setIfInBounds a.toNat (.bool true)) 4) := ⟨_, rfl⟩
    have hB2 : Below V1.heap.size V1 V2 := by rw [hV2]; exact (Below.refl _ V1).alloc (Nat.le_refl _) _
    have hb2 : V2.heap[w.heap.size]? = some (.cells #[.int .i64 n, .slice sa len sc] 28 (0, 0)) := (hB2.block _ (by omega)).trans hb1
    have hs2 : V2.heap[V1.heap.size]? = some (.cells (bls (seen0 n.toNat a.toNat)) 4 (0, 0)) := by
      rw [hV2, bls_set]
      exact heap_alloc_new _ _
    have hz2 : V2.heap.size = V1.heap.size + 1 := by rw [hV2]; simp
    have m0 : V2.cell? ⟨w.heap.size, 0, none⟩ = some (.int .i64 n) := by simp [World.cell?, hb2]
    have m1 : V2.cell? ⟨w.heap.size, 1, none⟩ = some (.slice sa len sc) := by simp [World.cell?, hb2]
    have hW := hwhole V2 V1.heap.size (hBw.trans (hB2.mono hBw.size)) (by omega) (by omega)
    rw [hV2] at m0 m1 hW
    have hg : (bls (List.replicate n.toNat false))[a.toNat]? = some (.bool false) := by
      rw [bls_get (by rw [List.length_replicate]; omega)]
      simp only [List.getD, List.getElem?_replicate]
      split <;> rfl
    go_wp2_with (go_at_call 27; refine hW.mono ?_)
    rintro u V3 ⟨ca, cc, rfl, hB3, hC⟩
    rw [← hV2] at hB3
    have hR : Rch w V3 V3 (.slice sa len sc) n V1.heap.size (seen0 n.toNat a.toNat) :=
      ⟨(hBw.trans (hB2.mono hBw.size)).trans (hB3.mono (by have := (hBw.trans (hB2.mono hBw.size)).size; omega)), (hB3.block _ (by omega)).trans hb2, (hB3.block _ (by omega)).trans hs2, by omega, by have := hB3.size; omega, Nat.le_refl _, fun _ _ _ => rfl⟩
    have hl0 : (seen0 n.toNat a.toNat).length = n.toNat := by simp [seen0]
    have hc0 : cntF (seen0 n.toNat a.toNat) ≤ n.toNat := by
      have h := List.length_filter_le (fun b => !b) (seen0 n.toNat a.toNat)
      rw [hl0] at h
      exact h
    go_wp2
    go_step3
    rename_i hK
    refine hK _ _ (hrest _ _ ⟨V3, V1.heap.size, _, n.toNat, ca, cc, hR, hl0, hc0, rfl, hC, ?_⟩)
    iterate 53 apply Exists.intro
    rfl

end Go.Proofs.Ytcgpckiieocdbaa.Vm
