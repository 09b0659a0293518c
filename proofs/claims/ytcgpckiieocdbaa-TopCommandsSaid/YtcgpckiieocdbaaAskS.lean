/- Functions proved by hand that ask others: the questions, the calls. -/
import Derived.Test.YtcgpckiieocdbaaEnv
import Derived.Test.YtcgpckiieocdbaaVm35
import Derived.KernelRfl
import Derived.Below
namespace Go.Proofs.Ytcgpckiieocdbaa.Vm
open Go Go.Proofs Go.RowKit
set_option linter.unusedVariables false
set_option linter.unusedSimpArgs false

/-- What others own, and the walk's own blocks, in a world that goes on. -/
def Ctx.hide (C : Ctx) (W : World) (Y : Nat → Prop) : Ctx := { w := W, ι := C.ι, h := C.h, X := fun b => C.X b ∨ Y b, κ := C.κ }
theorem no_own {C : Ctx} (hC : C.h = []) (b : Nat) : ¬ C.own b := by
  rintro ⟨id, blk, hl, _⟩
  unfold live at hl
  rw [hC] at hl
  cases hl
theorem ok_hide {C : Ctx} (hok : Ok C) (hC : C.h = []) {W : World} (hg : Grow C.w W) {Y : Nat → Prop} (hY : ∀ b, Y b → b < W.heap.size) : Ok (C.hide W Y) := by
  have h1 := ok_grow hok hg
  have hn : ∀ b, ¬ (C.hide W Y).own b := no_own (C := C.hide W Y) hC
  refine ⟨⟨fun b hb => ⟨(h1.gr.low b hb).1, hn b⟩, h1.gr.at_⟩, fun id b hl => ?_, fun id id' n b b' hl => ?_, fun id b n hl => ?_, fun n hn' => ⟨?_, hn n⟩⟩
  · exact absurd hl (by unfold live; rw [show (C.hide W Y).h = [] from hC]; intro h; cases h)
  · exact absurd hl (by unfold live; rw [show (C.hide W Y).h = [] from hC]; intro h; cases h)
  · exact absurd hl (by unfold live; rw [show (C.hide W Y).h = [] from hC]; intro h; cases h)
  · rcases hn' with h | h
    · exact (h1.x n h).1
    · exact hY n h
theorem P_hide {C : Ctx} (hC : C.h = []) {W : World} (hg : Grow C.w W) {Y : Nat → Prop} (hY : ∀ b, Y b → C.w.heap.size ≤ b) {v : PV} {u : Value} (h : C.P v u) : (C.hide W Y).P v u :=
  VP.ext hg.size (fun b hb _ => hg.keep b hb) (fun b hb ho => by
    rcases ho with (h | h) | h
    · exact .inl h
    · have := hY b h; omega
    · exact absurd h (no_own (C := C.hide W Y) hC b)) h
/-- A call of a function of the machine's, the walk's own blocks hidden from it. -/
theorem FOk.atX {f : Nat} {args : List AV} {rs : List RV} (h : FOk E f args [] rs []) {C : Ctx} (hok : Ok C) (hC : C.h = []) {W : World} (hg : Grow C.w W) {Y : Nat → Prop} (hY : ∀ b, Y b → b < W.heap.size) {us : Array Value} (hv : All2 (VA (C.hide W Y)) args us.toList) :
    Calls E.P f us W fun e w' => ∃ u, e = .returned u ∧ ∃ D : Ctx, D.w = w' ∧ Ext (C.hide W Y) D ∧ Ok D ∧ D.h = (rawB rs).map Ent.blk ∧ VA D (valOf (rawT 0 rs)) u := by
  have h1 := h (C.hide W Y) (ok_hide hok hC hg hY) hC us hv
  refine h1.mono fun e w' h => ?_
  cases e with
  | returned u =>
    obtain ⟨D, e1, e2, e3, e4, e5⟩ := h
    exact ⟨u, rfl, D, e1, e2, e3, e4, e5⟩
  | _ => exact h.elim

/-! ### The questions of the row, one after the other -/
theorem run_int {F : Fun} {f : Nat} {a : List AV} {K : Int → Ask} {rs : List RV} (h : (Ask.int f a K).run F = some rs) : ∃ n, F f a [] = some ([.p (.int .i64 n)], []) ∧ (K n).run F = some rs := by
  unfold Ask.int at h
  simp only [Ask.run] at h
  split at h
  · rename_i r hr
    split at h
    · exact ⟨_, hr, h⟩
    · cases h
  · cases h
theorem run_u64 {F : Fun} {f : Nat} {a : List AV} {K : Int → Ask} {rs : List RV} (h : (Ask.u64 f a K).run F = some rs) : ∃ n, F f a [] = some ([.p (.int .u64 n)], []) ∧ (K n).run F = some rs := by
  unfold Ask.u64 at h
  simp only [Ask.run] at h
  split at h
  · rename_i r hr
    split at h
    · exact ⟨_, hr, h⟩
    · cases h
  · cases h
theorem run_bool {F : Fun} {f : Nat} {a : List AV} {K : Bool → Ask} {rs : List RV} (h : (Ask.bool f a K).run F = some rs) : ∃ n, F f a [] = some ([.p (.bool n)], []) ∧ (K n).run F = some rs := by
  unfold Ask.bool at h
  simp only [Ask.run] at h
  split at h
  · rename_i r hr
    split at h
    · exact ⟨_, hr, h⟩
    · cases h
  · cases h
theorem run_str {F : Fun} {f : Nat} {a : List AV} {K : List UInt8 → Ask} {rs : List RV} (h : (Ask.str f a K).run F = some rs) : ∃ n, F f a [] = some ([.p (.str n)], []) ∧ (K n).run F = some rs := by
  unfold Ask.str at h
  simp only [Ask.run] at h
  split at h
  · rename_i r hr
    split at h
    · exact ⟨_, hr, h⟩
    · cases h
  · cases h
theorem run_sl {F : Fun} {sz f : Nat} {a : List AV} {K : List (List PV) → Ask} {rs : List RV} (h : (Ask.sl sz f a K).run F = some rs) : ∃ n, F f a [] = some ([.p (.sl sz n)], []) ∧ (K n).run F = some rs := by
  unfold Ask.sl at h
  simp only [Ask.run] at h
  split at h
  · rename_i r hr
    split at h
    · rename_i sz' n
      cases hb : Nat.beq sz sz' with
      | false => rw [hb] at h; cases h
      | true =>
        rw [hb] at h
        rw [← Nat.eq_of_beq_eq_true hb] at hr
        exact ⟨_, hr, h⟩
    · cases h
  · cases h

theorem call_bool {F : Fun} (hF : FSound E F) {f : Nat} (hf : hasN f E.okf = true) {args : List AV} {s : Bool} (h : F f args [] = some ([.p (.bool s)], [])) {C : Ctx} (hok : Ok C) (hC : C.h = []) {W : World} (hg : Grow C.w W) {us : Array Value} (hv : All2 (VA C) args us.toList) :
    Calls E.P f us W fun e w' => e = .returned (.bool s) ∧ Below W.heap.size W w' := by
  refine (FOk.at (hF.fn f args [] _ _ h hf) hok hC hg hv).mono fun e w' ⟨u, he, D, hw, hx, _, _, hu⟩ => ?_
  subst he
  refine ⟨congrArg _ (by cases hu; rfl), ?_⟩
  rw [← hw]
  exact below_ext hx hC (Nat.le_refl _)
theorem call_u64 {F : Fun} (hF : FSound E F) {f : Nat} (hf : hasN f E.okf = true) {args : List AV} {s : Int} (h : F f args [] = some ([.p (.int .u64 s)], [])) {C : Ctx} (hok : Ok C) (hC : C.h = []) {W : World} (hg : Grow C.w W) {us : Array Value} (hv : All2 (VA C) args us.toList) :
    Calls E.P f us W fun e w' => e = .returned (.int .u64 s) ∧ Below W.heap.size W w' := by
  refine (FOk.at (hF.fn f args [] _ _ h hf) hok hC hg hv).mono fun e w' ⟨u, he, D, hw, hx, _, _, hu⟩ => ?_
  subst he
  refine ⟨congrArg _ (by cases hu; rfl), ?_⟩
  rw [← hw]
  exact below_ext hx hC (Nat.le_refl _)

theorem vp_int64 {w : World} {O : Nat → Prop} (n : Int) (u : Value) (h : VP w O (.int .i64 n) u) : u = .int .i64 n := by cases h; rfl

end Go.Proofs.Ytcgpckiieocdbaa.Vm
