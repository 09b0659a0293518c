/- logbook.Text answers what its row says. -/
import Derived.RangeFuncBox
import Derived.Shelf.Abstract
import Derived.WalkKit
import Derived.OwnWalkIn
import Derived.TacticsInMore
import Derived.LoopNIn
import Derived.LoopIn
import Derived.Stop.RegionWithIn
import Derived.Test.YtdbajagnhanpfaaDoorShelf
import Derived.Test.YtdbajagnhanpfaaDoorEnv
import Derived.Test.YtdbajagnhanpfaaDoorVm35
import Derived.KernelRfl
import Derived.Below
namespace Go.Proofs.YtdbajagnhanpfaaDoor.Vm
open Go Go.Proofs Go.RowKit Go.Shelf
set_option linter.unusedVariables false
set_option linter.unusedSimpArgs false

theorem bld_kept {T e : TypeId} {B b : Nat} {bs : List Value} {w w' : World} (h : Lib.IsBuilder T e B b bs w) (hg : Below w.heap.size w w') : Lib.IsBuilder T e B b bs w' := by
  have hg' : w.grownBy w' none := ⟨hg.os, hg.tape, hg.output, hg.size, fun k hk _ => hg.block k hk⟩
  have one : ∀ p, Lib.BuilderAt T e B b p bs w → Lib.BuilderAt T e B b p bs w' := fun p ⟨hB, v, hb, hown, hne⟩ =>
    ⟨hB, v, (hg.block b (Array.getElem?_eq_some_iff.1 hb).1).trans hb, hown.kept hg' (by
      cases v.ownBlock with
      | none => exact .inl rfl
      | some x => exact .inr (by simp)), hne⟩
  exact h.imp (one _) (one _)

theorem strR_some {r : Option Res} {s : List UInt8} (h : strR r = some s) : r = some ([.p (.str s)], []) := by
  unfold strR at h
  split at h
  · cases h; rfl
  · cases h
theorem intR_some {r : Option Res} {e : Int} (h : intR r = some e) : r = some ([.p (.int .i64 e)], []) := by
  unfold intR at h
  split at h
  · cases h; rfl
  · cases h

/-- A call of a function of the machine's that hands back one text. -/
theorem call_str {F : Fun} (hF : FSound E F) {f : Nat} (hf : hasN f E.okf = true) {args : List AV} {s : List UInt8} (h : strR (F f args []) = some s) {C : Ctx} (hok : Ok C) (hC : C.h = []) {W : World} (hg : Grow C.w W) {us : Array Value} (hv : All2 (VA C) args us.toList) :
    Calls E.P f us W fun e w' => e = .returned (.string ⟨s.toArray⟩) ∧ Below W.heap.size W w' := by
  refine (FOk.at (hF.fn f args [] _ _ (strR_some h) hf) hok hC hg hv).mono fun e w' ⟨u, he, D, hw, hx, _, _, hu⟩ => ?_
  subst he
  refine ⟨congrArg _ (by cases hu; rfl), ?_⟩
  rw [← hw]
  exact below_ext hx hC (Nat.le_refl _)
theorem call_int {F : Fun} (hF : FSound E F) {f : Nat} (hf : hasN f E.okf = true) {args : List AV} {s : Int} (h : intR (F f args []) = some s) {C : Ctx} (hok : Ok C) (hC : C.h = []) {W : World} (hg : Grow C.w W) {us : Array Value} (hv : All2 (VA C) args us.toList) :
    Calls E.P f us W fun e w' => e = .returned (.int .i64 s) ∧ Below W.heap.size W w' := by
  refine (FOk.at (hF.fn f args [] _ _ (intR_some h) hf) hok hC hg hv).mono fun e w' ⟨u, he, D, hw, hx, _, _, hu⟩ => ?_
  subst he
  refine ⟨congrArg _ (by cases hu; rfl), ?_⟩
  rw [← hw]
  exact below_ext hx hC (Nat.le_refl _)

theorem L166 : Go.Proofs.Lays.n166 Tryd.prog Tryd.lays156_ren := { Tryd.lays156 with }
theorem L169 : Go.Proofs.Lays.n169 Tryd.prog Tryd.lays156_ren := { Tryd.lays156 with }

set_option maxRecDepth 100000 in
set_option maxHeartbeats 4000000 in
/-- The walk: what the calls inside come to is given. -/
theorem book_walk (sv sum : Value) (hs1 : sv.oneCell' = true) (hs2 : sum.oneCell' = true) (len : Nat) (T K : Nat → Int) (SA : Nat → Option Addr) (SL SC : Nat → Nat) (w : World) (err : Int) (tx : Nat → List UInt8) (last : List UInt8) (hlen : err = 0 → len ≤ 100000)
    (hI : err = 0 → (∃ a cap, sv = .slice a 0 cap ∧ len = 0) ∨ ∃ b off cap, sv = .slice (some ⟨b, off, none⟩) len cap ∧ b < w.heap.size ∧ ∀ j, j < len → w.cell? ⟨b, off + j * 3, none⟩ = some (.int .i64 (T j)) ∧ w.cell? ⟨b, off + j * 3 + 1, none⟩ = some (.int .i64 (K j)) ∧ w.cell? ⟨b, off + j * 3 + 2, none⟩ = some (.slice (SA j) (SL j) (SC j)))
    (hcheck : ∀ W, Below w.heap.size w W → Calls Tryd.prog 19 #[.agg #[sv, sum]] W fun e w' => e = .returned (.int .i64 err) ∧ Below W.heap.size W w')
    (hline : err = 0 → ∀ k, k < len → ∀ W, Below w.heap.size w W → Calls Tryd.prog 40 #[.agg #[.int .i64 (T k), .int .i64 (K k), .slice (SA k) (SL k) (SC k)]] W fun e w' => e = .returned (.string ⟨(tx k).toArray⟩) ∧ Below W.heap.size W w')
    (hlast : err = 0 → ∀ W, Below w.heap.size w W → Calls Tryd.prog 52 #[.agg #[sv, sum]] W fun e w' => e = .returned (.string ⟨last.toArray⟩) ∧ Below W.heap.size W w')
    (hsz : err = 0 → (((List.range len).map tx).flatten).length + last.length ≤ 140737488355328) :
    CallsIn Fence.wide 6 Tryd.prog 27 #[.agg #[sv, sum]] w fun e w' =>
      e = .returned (.tuple (if err = 0 then #[.string ⟨(((List.range len).map tx).flatten ++ last).toArray⟩, .int .i64 0] else #[.string ⟨#[]⟩, .int .i64 err])) ∧ Below w.heap.size w w' := by
  refine callsIn_of_wp Tryd.func27 rfl trivial ?_ rfl
  simp only [Tryd.ntmps27, List.size_toArray, List.length_cons, List.length_nil, Nat.reduceAdd, Nat.reduceSub, Array.replicate_succ, Array.replicate_zero, List.push_toArray, List.append_toArray, List.nil_append, List.cons_append]
  have hB0 : Below w.heap.size w (w.alloc (.cells #[sv, sum] 25)) := (Below.refl _ w).alloc (Nat.le_refl _) _
  gi_wp2_with (refine ⟨trivial, ?_⟩; gi_at_call 19; refine (callsIn_wide.2 (hcheck _ hB0)).mono ?_)
  rintro e W1 ⟨rfl, hB1⟩
  have hW1 := hB0.trans (hB1.mono hB0.size)
  by_cases h0 : err = 0
  · subst h0
    have hl := hline rfl
    replace hlen := hlen rfl
    replace hI := hI rfl
    replace hsz := hsz rfl
    have hla := hlast rfl
    clear hline hlast hcheck
    have hbx : W1.heap[w.heap.size]? = some (.cells #[sv, sum] 25 (0, 0)) := (hB1.block _ (by simp)).trans (World.alloc_heap_new w _)
    have hbl : w.heap.size < W1.heap.size := (Array.getElem?_eq_some_iff.1 hbx).1
    obtain ⟨W2, hW2⟩ : ∃ W2, W1.alloc (.cells #[.pointer none, .slice none 0 0] 79) = W2 := ⟨_, rfl⟩
    have hI2 : Lib.IsBuilder 79 5 W1.heap.size W1.heap.size [] W2 := by rw [← hW2]; exact Lib.fresh_isBuilder 79 5 W1
    have hB2 : Below W1.heap.size W1 W2 := by rw [← hW2]; exact (Below.refl _ W1).alloc (Nat.le_refl _) _
    have hbx0 : W2.cell? ⟨w.heap.size, 0, none⟩ = some sv := (hB2.cell (p := ⟨w.heap.size, 0, none⟩) hbl).trans (by simp [World.cell?, hbx])
    have hbx1 : W2.cell? ⟨w.heap.size, 1, none⟩ = some sum := (hB2.cell (p := ⟨w.heap.size, 1, none⟩) hbl).trans (by simp [World.cell?, hbx])
    obtain ⟨acc, hacc⟩ : ∃ acc : Nat → List UInt8, acc = fun k => ((List.range k).map tx).flatten := ⟨_, rfl⟩
    have acc0 : acc 0 = [] := by rw [hacc]; rfl
    have accS : ∀ k, acc (k + 1) = acc k ++ tx k := fun k => by simp [hacc, List.range_succ]
    have accL : ∀ k, k ≤ len → (acc k).length ≤ 140737488355328 := fun k hk => by
      have h1 : ∀ d k, (acc k).length ≤ (acc (k + d)).length := fun d => by
        induction d with
        | zero => exact fun k => Nat.le_refl _
        | succ d ih => exact fun k => Nat.le_trans (ih k) (by rw [← Nat.add_assoc, accS]; simp)
      have h2 := h1 (len - k) k
      have e : k + (len - k) = len := by omega
      rw [e] at h2
      rw [hacc] at h2 ⊢
      exact Nat.le_trans h2 (Nat.le_trans (Nat.le_add_right _ _) hsz)
    have hsum : (acc len).length + last.length ≤ 140737488355328 := by rw [hacc]; exact hsz
    have hI' : (∃ a cap, sv = .slice a 0 cap ∧ len = 0) ∨ ∃ b off cap, sv = .slice (some ⟨b, off, none⟩) len cap ∧ b < w.heap.size ∧ ∀ j, j < len → w.cell? ⟨b, off + j * 3, none⟩ = some (.int .i64 (T j)) ∧ w.cell? ⟨b, off + j * 3 + 1, none⟩ = some (.int .i64 (K j)) ∧ w.cell? ⟨b, off + j * 3 + 2, none⟩ = some (.slice (SA j) (SL j) (SC j)) := hI
    obtain ⟨sa, sc, rfl⟩ : ∃ sa sc, sv = .slice sa len sc := by
      rcases hI with ⟨a, cap, e, e2⟩ | ⟨b, off, cap, e, _⟩
      · exact ⟨a, cap, by rw [e, e2]⟩
      · exact ⟨_, _, e⟩
    gi_wp2
    gi_loopw [16] (fun i wr => ∃ k : Nat, k ≤ len ∧ i = .int .i64 (k : Nat) ∧ Lib.IsBuilder 79 5 W1.heap.size W1.heap.size (Lib.byteCells (acc k)) wr ∧ Below W1.heap.size W1 wr)
      (fun i _ => len - (intOf i).toNat)
    case atStart => exact ⟨0, Nat.zero_le _, rfl, by rw [acc0]; exact hI2, hB2⟩
    case round =>
      obtain ⟨k, hk, rfl, hIb, hBb⟩ := hrel
      by_cases hlt : k < len
      · rcases hI' with ⟨a, cap, e, e2⟩ | ⟨b, off, cap, e, hb, hc⟩
        · omega
        obtain rfl : sa = some ⟨b, off, none⟩ := by cases e; rfl
        have hBw := hW1.trans (hBb.mono hW1.size)
        obtain ⟨c0', c1', c2'⟩ := hc k hlt
        have c0 := (hBw.cell (p := ⟨b, off + k * 3, none⟩) hb).trans c0'
        have c1 := (hBw.cell (p := ⟨b, off + k * 3 + 1, none⟩) hb).trans c1'
        have c2 := (hBw.cell (p := ⟨b, off + k * 3 + 2, none⟩) hb).trans c2'
        have hBa : Below wr.heap.size wr (wr.alloc (.cells #[.int .i64 (T k), .int .i64 (K k), .slice (SA k) (SL k) (SC k)] 29)) := (Below.refl _ wr).alloc (Nat.le_refl _) _
        gi_wp2
        refine ⟨trivial, ?_⟩
        refine (callsIn_wide.2 (hl k hlt _ (hBw.trans (hBa.mono hBw.size)))).mono ?_
        rintro e W3 ⟨rfl, hB3⟩
        have hIc := bld_kept (bld_kept hIb hBa) hB3
        have hBc : Below W1.heap.size W1 W3 := hBb.trans ((hBa.mono hBb.size).trans (hB3.mono (by have := hBb.size; simp; omega)))
        have hlen' : (Lib.byteCells (acc k)).length + (⟨(tx k).toArray⟩ : ByteArray).size ≤ 140737488355328 := by
          have := accL (k + 1) (by omega)
          rw [accS, List.length_append] at this
          rw [Lib.byteCells_length]
          exact this
        gi_wp2
        refine ⟨trivial, ?_⟩
        refine (callsIn_wide.2 (Any.Builder_WriteString L166 Tryd.extra156 W1.heap.size W1.heap.size _ ⟨(tx k).toArray⟩ W3 hIc hlen' hBc.size)).mono ?_
        rintro e W4 ⟨rfl, hI4, hB4⟩
        gi_wp2
        go_roundw
        case rel =>
          refine ⟨k + 1, by omega, by simp, ?_, hBc.trans hB4⟩
          rw [accS, Lib.byteCells_append]
          exact Or.inr hI4
        case measure => simp [intOf] <;> omega
      · obtain rfl : k = len := by omega
        have hx : ∀ W, Below W1.heap.size wr W → W.cell? ⟨w.heap.size, 0, none⟩ = some (.slice sa k sc) ∧ W.cell? ⟨w.heap.size, 1, none⟩ = some sum := fun W h => by
          have h1 := (hBb.trans h)
          exact ⟨(h1.cell (p := ⟨w.heap.size, 0, none⟩) hbl).trans (by simp [World.cell?, hbx]), (h1.cell (p := ⟨w.heap.size, 1, none⟩) hbl).trans (by simp [World.cell?, hbx])⟩
        have hx5' : ∀ W, Below W1.heap.size wr W → W.cell? ⟨w.heap.size, 0, none⟩ = some (.slice sa k sc) ∧ W.cell? ⟨w.heap.size, 1, none⟩ = some sum := hx
        obtain ⟨X, hX⟩ : ∃ X : ByteArray, (⟨(acc k).toArray⟩ : ByteArray) = X := ⟨_, rfl⟩
        obtain ⟨Y, hY⟩ : ∃ Y : ByteArray, (⟨last.toArray⟩ : ByteArray) = Y := ⟨_, rfl⟩
        have hXs : X.size = (acc k).length := by rw [← hX]; rfl
        have hYs : Y.size = last.length := by rw [← hY]; rfl
        have hXY : (X.size : Int) + (Y.size : Int) ≤ 9223372036854775807 := by omega
        have hXY' : X.size + Y.size ≤ 9223372036854775807 := by omega
        rw [hY] at hla
        have hadd : ∀ W, (Op.stringOp .add X Y).run Tryd.prog W = .ok (.string (X ++ Y)) W := fun W => by
          have h1 : ¬ (((X.size + Y.size : Nat) : Int) > IntKind.i64.max) := by
            have : IntKind.i64.max = 9223372036854775807 := rfl
            rw [this]; omega
          simp only [Op.stringOp, if_neg h1, Sem.run_pure]
        have hstr : ∀ W, Below wr.heap.size wr W → Calls Tryd.prog 51 #[.pointer (some ⟨W1.heap.size, 0, none⟩)] W fun e w' => e = .returned (.string X) ∧ Below W1.heap.size W w' := fun W h => by
          rw [← hX]; exact Any.Builder_String_any L169 Tryd.extra156 W1.heap.size W1.heap.size (acc k) W (bld_kept hIb h) (Nat.le_trans hBb.size h.size)
        gi_wp2
        obtain ⟨hxd0, hxd1⟩ := hx wr.drew ((Below.refl _ wr).drew)
        obtain ⟨hxe0, hxe1⟩ := hx wr (Below.refl _ wr)
        gi_region_with (first
          | (refine ⟨trivial, ?_⟩; gi_at_call 51; refine (callsIn_wide.2 (hstr wr.drew (Below.refl _ _).drew)).mono ?_; rintro e W5 ⟨rfl, hB5⟩
             have hw5 := hW1.trans ((hBb.trans ((Below.refl _ wr).drew.trans hB5)).mono hW1.size)
             have hx5 := hx5' W5 ((Below.refl _ wr).drew.trans hB5)
             obtain ⟨hx50, hx51⟩ := hx5)
          | (refine ⟨trivial, ?_⟩; gi_at_call 52; refine (callsIn_wide.2 (hla _ (by assumption))).mono ?_; rintro e W6 ⟨rfl, hB6⟩; have hadd6 := hadd W6))
        all_goals
          gi_wp2
          go_ret2
          refine ⟨?_, hw5.trans (hB6.mono hw5.size)⟩
          have hval : X ++ Y = (⟨(((List.range k).map tx).flatten ++ last).toArray⟩ : ByteArray) := by
            rw [← hX, ← hY, hacc]
            apply ByteArray.ext
            simp
          first | (rw [← hval]; rfl) | (rw [if_pos rfl, ← hval]; rfl)
  · gi_wp2
    go_ret2
    exact ⟨by first | rfl | (rw [if_neg h0]; rfl), hW1⟩

theorem linesF_get {F : Fun} {line : Nat} : ∀ {es : List (List PV)} {x : List UInt8}, linesF F line es = some x → ∃ tx : Nat → List UInt8, x = ((List.range es.length).map tx).flatten ∧
    ∀ (i : Nat) e, es[i]? = some e → ∃ t k n ws, e = [.int .i64 t, .int .i64 k, .sl n ws] ∧ strR (F line [.t (.agg e)] []) = some (tx i)
  | [], x, h => by
    simp only [linesF, Option.some.injEq] at h
    subst h
    exact ⟨fun _ => [], rfl, fun i e h => by simp at h⟩
  | e :: es, x, h => by
    unfold linesF at h
    split at h
    · rename_i he; cases he
    · rename_i t k n ws l' he
      cases he
      split at h
      · rename_i s r hs hr
        cases h
        obtain ⟨tx, hx, ht⟩ := linesF_get hr
        refine ⟨fun i => match i with | 0 => s | i + 1 => tx i, ?_, fun i e hi => ?_⟩
        · rw [List.length_cons, List.range_succ_eq_map, List.map_cons, List.flatten_cons, List.map_map, hx]
          rfl
        · cases i with
          | zero => simp at hi; subst hi; exact ⟨_, _, _, _, rfl, hs⟩
          | succ i => exact ht i e (by simpa using hi)
      · cases h
    · cases h

def slA' : Value → Option Addr | .slice a _ _ => a | _ => none
def slL' : Value → Nat | .slice _ l _ => l | _ => 0
def slC' : Value → Nat | .slice _ _ c => c | _ => 0
def inV : Value → Int | .int _ n => n | _ => 0

theorem okf_19 : hasN 19 E.okf = true := by kernel_rfl
theorem okf_40 : hasN 40 E.okf = true := by kernel_rfl
theorem okf_52 : hasN 52 E.okf = true := by kernel_rfl

theorem s_hBook : ∀ F, FSound E F → ∀ args rs, (hBook 19 40 52).run F args = some rs → FOk E 27 args [] rs [] := by
  intro F hF args rs h
  replace h : bookRun 19 40 52 F args = some rs := h
  unfold bookRun at h
  split at h
  · rename_i es n
    split at h
    · rename_i err herr
      intro C hok hC us hv
      have hv0 := hv
      obtain ⟨u, rfl, hu⟩ := one_arg hv
      obtain ⟨cs, rfl, hcs⟩ := hu
      obtain ⟨c0, c1, rfl, p0, p1⟩ : ∃ c0 c1, cs = #[c0, c1] ∧ C.P (.sl 3 es) c0 ∧ C.P (.int .u64 n) c1 := by
        cases hc : cs.toList with
        | nil => rw [hc] at hcs; exact hcs.elim
        | cons c0 r => cases r with
          | nil => rw [hc] at hcs; exact hcs.2.elim
          | cons c1 r => cases r with
            | nil => rw [hc] at hcs; exact ⟨c0, c1, by rw [← Array.toArray_toList (xs := cs), hc], hcs.1, hcs.2.1⟩
            | cons => rw [hc] at hcs; exact hcs.2.2.elim
      have hck : ∀ W, Below C.w.heap.size C.w W → Calls Tryd.prog 19 #[.agg #[c0, c1]] W fun e w' => e = .returned (.int .i64 err) ∧ Below W.heap.size W w' := fun W hW =>
        call_int hF okf_19 herr hok hC (Grow.of_below hW) hv0
      split at h
      · rename_i h0
        split at h
        · rename_i x y hx hy
          split at h
          · rename_i hb
            cases h
            obtain ⟨tx, rfl, htx⟩ := linesF_get hx
            have key : ∃ f : Nat → Nat → Value, ((∃ a cap, c0 = .slice a 0 cap ∧ es.length = 0) ∨ ∃ b off cap, c0 = .slice (some ⟨b, off, none⟩) es.length cap ∧ b < C.w.heap.size ∧ ∀ i j e c, es[i]? = some e → e[j]? = some c → C.w.cell? ⟨b, off + i * 3 + j, none⟩ = some (f i j)) ∧ ∀ i j e c, es[i]? = some e → e[j]? = some c → C.P c (f i j) := by
              cases p0 with
              | sl0 _ a cap => exact ⟨fun _ _ => Go.undef, .inl ⟨_, _, rfl, rfl⟩, fun i j e c h => by simp at h⟩
              | sl _ _ b off cap f hb hO hc hz hcell hv2 => exact ⟨f, .inr ⟨b, off, cap, rfl, hb, hcell⟩, hv2⟩
            obtain ⟨f, hE, hf⟩ := key
            have hel : ∀ i, i < es.length → f i 0 = .int .i64 (inV (f i 0)) ∧ f i 1 = .int .i64 (inV (f i 1)) ∧ f i 2 = .slice (slA' (f i 2)) (slL' (f i 2)) (slC' (f i 2)) := by
              intro i hi
              obtain ⟨t, k, m, ws, he, _⟩ := htx i _ (List.getElem?_eq_getElem hi)
              have hi' := List.getElem?_eq_getElem hi
              rw [he] at hi'
              have h0 := hf i 0 _ _ hi' rfl
              have h1 := hf i 1 _ _ hi' rfl
              have h2 := hf i 2 _ _ hi' rfl
              refine ⟨?_, ?_, ?_⟩
              · generalize f i 0 = u at h0 ⊢; cases h0; rfl
              · generalize f i 1 = u at h1 ⊢; cases h1; rfl
              · generalize f i 2 = u at h2 ⊢; cases h2 <;> rfl
            refine (callsIn_wide.1 (book_walk c0 c1 p0.oneCell p1.oneCell es.length (fun i => inV (f i 0)) (fun i => inV (f i 1)) (fun i => slA' (f i 2)) (fun i => slL' (f i 2)) (fun i => slC' (f i 2)) C.w err tx y (fun _ => hb.1) ?_ hck ?_ ?_ (fun _ => hb.2))).mono ?_
            · intro _
              rcases hE with h | ⟨b, off, cap, e, hlt, hcc⟩
              · exact .inl h
              · refine .inr ⟨b, off, cap, e, hlt, fun j hj => ?_⟩
                obtain ⟨t, k, m, ws, he, _⟩ := htx j _ (List.getElem?_eq_getElem hj)
                have hj' := List.getElem?_eq_getElem hj
                rw [he] at hj'
                obtain ⟨e0, e1, e2⟩ := hel j hj
                exact ⟨e0 ▸ hcc j 0 _ _ hj' rfl, e1 ▸ hcc j 1 _ _ hj' rfl, e2 ▸ hcc j 2 _ _ hj' rfl⟩
            · intro _ k hk W hW
              obtain ⟨t, kk, m, ws, he, hs⟩ := htx k _ (List.getElem?_eq_getElem hk)
              obtain ⟨e0, e1, e2⟩ := hel k hk
              rw [← e0, ← e1, ← e2]
              have hk' := List.getElem?_eq_getElem hk
              rw [he] at hk' hs
              exact call_str hF okf_40 hs hok hC (Grow.of_below hW) ⟨⟨_, rfl, hf k 0 _ _ hk' rfl, hf k 1 _ _ hk' rfl, hf k 2 _ _ hk' rfl, trivial⟩, trivial⟩
            · intro _ W hW
              exact call_str hF okf_52 hy hok hC (Grow.of_below hW) hv0
            · rintro e w' ⟨rfl, hB⟩
              have hg := Grow.of_below hB
              rw [if_pos h0]
              exact ⟨C.setW w', rfl, ext_grow C hg, ok_grow hok hg, hC, _, rfl, .str _, .int _ _, trivial⟩
          · cases h
        · cases h
      · rename_i h0
        cases h
        refine (callsIn_wide.1 (book_walk c0 c1 p0.oneCell p1.oneCell 0 (fun _ => 0) (fun _ => 0) (fun _ => none) (fun _ => 0) (fun _ => 0) C.w err (fun _ => []) [] (fun h => absurd h h0) (fun h => absurd h h0) hck (fun h => absurd h h0) (fun h => absurd h h0) (fun h => absurd h h0))).mono ?_
        rintro e w' ⟨rfl, hB⟩
        have hg := Grow.of_below hB
        rw [if_neg h0]
        exact ⟨C.setW w', rfl, ext_grow C hg, ok_grow hok hg, hC, _, rfl, .str _, .int _ _, trivial⟩
    · cases h
  · cases h

end Go.Proofs.YtdbajagnhanpfaaDoor.Vm
