/- The two functions that hand back a closure. -/
import Derived.Test.YthmhnnppikdafaaEnv
import Derived.Test.YthmhnnppikdafaaVm35
import Derived.OwnWalkIn
import Derived.WalkKit
import Derived.Tactics
import Derived.Tactics2
import Derived.WalkSpells
import Derived.StillTactics
import Derived.OwnWalk
import Derived.Laws.Pointers
import Derived.Deep.RegionLaw
import Derived.KernelRfl
import Derived.Below
namespace Go.Proofs.Ythmhnnppikdafaa.Vm
open Go Go.Proofs Go.RowKit
set_option linter.unusedVariables false
set_option linter.unusedSimpArgs false

theorem cells_ne {v : Value} (h : ∀ cs, v = .agg cs → False) : v.cells = #[v] := by
  cases v with
  | agg cs => exact (h cs rfl).elim
  | _ => rfl

theorem clo_yields (w : World) (ua ub : Value) :
    Calls Try.prog 30 #[ua, ub] w fun e w' => ∃ e1 e2, e = .returned (.func (.func 42) #[] #[.pointer (some ⟨w.heap.size, 0, none⟩), .pointer (some ⟨w.heap.size + 1, 0, none⟩)]) ∧ w' = (w.alloc (.cells ua.cells e1)).alloc (.cells ub.cells e2) := by
  go_enter Try.func30, Try.ntmps30
  go_wp2
  · refine bodyPost_ret (v := (.func (.func 42) #[] #[.pointer (some ⟨w.heap.size, 0, none⟩), .pointer (some ⟨w.heap.size + 1, 0, none⟩)])) (by simp [results, Try.results30, go_sem]) rfl ⟨_, _, rfl, rfl⟩
  · refine bodyPost_ret (v := (.func (.func 42) #[] #[.pointer (some ⟨w.heap.size, 0, none⟩), .pointer (some ⟨w.heap.size + 1, 0, none⟩)])) (by simp [results, Try.results30, go_sem]) rfl ⟨_, _, rfl, by rw [cells_ne (v := ub) (by assumption)]; rfl⟩
  · refine bodyPost_ret (v := (.func (.func 42) #[] #[.pointer (some ⟨w.heap.size, 0, none⟩), .pointer (some ⟨w.heap.size + 1, 0, none⟩)])) (by simp [results, Try.results30, go_sem]) rfl ⟨_, _, rfl, by rw [cells_ne (v := ua) (by assumption)]; rfl⟩
  · refine bodyPost_ret (v := (.func (.func 42) #[] #[.pointer (some ⟨w.heap.size, 0, none⟩), .pointer (some ⟨w.heap.size + 1, 0, none⟩)])) (by simp [results, Try.results30, go_sem]) rfl ⟨_, _, rfl, by rw [cells_ne (v := ua) (by assumption), cells_ne (v := ub) (by assumption)]⟩

theorem clo_listens (w : World) (ua ub : Value) :
    Calls Try.prog 31 #[ua, ub] w fun e w' => ∃ e1 e2, e = .returned (.func (.func 47) #[] #[.pointer (some ⟨w.heap.size, 0, none⟩), .pointer (some ⟨w.heap.size + 1, 0, none⟩)]) ∧ w' = (w.alloc (.cells ua.cells e1)).alloc (.cells ub.cells e2) := by
  go_enter Try.func31, Try.ntmps31
  go_wp2
  · refine bodyPost_ret (v := (.func (.func 47) #[] #[.pointer (some ⟨w.heap.size, 0, none⟩), .pointer (some ⟨w.heap.size + 1, 0, none⟩)])) (by simp [results, Try.results31, go_sem]) rfl ⟨_, _, rfl, rfl⟩
  · refine bodyPost_ret (v := (.func (.func 47) #[] #[.pointer (some ⟨w.heap.size, 0, none⟩), .pointer (some ⟨w.heap.size + 1, 0, none⟩)])) (by simp [results, Try.results31, go_sem]) rfl ⟨_, _, rfl, by rw [cells_ne (v := ub) (by assumption)]; rfl⟩
  · refine bodyPost_ret (v := (.func (.func 47) #[] #[.pointer (some ⟨w.heap.size, 0, none⟩), .pointer (some ⟨w.heap.size + 1, 0, none⟩)])) (by simp [results, Try.results31, go_sem]) rfl ⟨_, _, rfl, by rw [cells_ne (v := ua) (by assumption)]; rfl⟩
  · refine bodyPost_ret (v := (.func (.func 47) #[] #[.pointer (some ⟨w.heap.size, 0, none⟩), .pointer (some ⟨w.heap.size + 1, 0, none⟩)])) (by simp [results, Try.results31, go_sem]) rfl ⟨_, _, rfl, by rw [cells_ne (v := ua) (by assumption), cells_ne (v := ub) (by assumption)]⟩

theorem hprOk : HprOk E := by
  have key : ∀ g c, hasN g E.okf = true → (∀ (w : World) (ua ub : Value), Calls E.P g #[ua, ub] w fun e w' => ∃ e1 e2, e = .returned (.func (.func c) #[] #[.pointer (some ⟨w.heap.size, 0, none⟩), .pointer (some ⟨w.heap.size + 1, 0, none⟩)]) ∧ w' = (w.alloc (.cells ua.cells e1)).alloc (.cells ub.cells e2)) →
      hasN g E.okf = true ∧ ∀ (C : Ctx) (look : Look) (nid : Nat) (args : List AV) (v : AV) (us : Ups) (uargs : Array Value), Ok C → LookOk C look →
        (nth Ent.fresh C.h nid = .fresh ∧ nth Ent.fresh C.h (nid + 1) = .fresh ∧ nid + 1 < C.h.length) → All2 (VA C) args uargs.toList → hprK (.clo c) look nid args two = some (v, us) →
          Calls E.P g uargs C.w fun e w' => match e with
            | .returned u => Gives C us v u w'
            | _ => False := by
    intro g c hg hw
    refine ⟨hg, fun C look nid args v us uargs hok hlk hn hv hk => ?_⟩
    obtain ⟨ua, ub, rfl, hG⟩ := clo_gives hok hn hv hk
    refine (hw C.w ua ub).mono fun e w' ⟨e1, e2, he, hw'⟩ => ?_
    subst he hw'
    exact hG e1 e2
  intro g k h
  have h : findP g [(30, HPrim.clo 42), (31, HPrim.clo 47)] = some k := h
  simp only [findP] at h
  cases h1 : Nat.beq g 30 with
  | true =>
    rw [h1, cond_true] at h; cases h; rw [Nat.eq_of_beq_eq_true h1]
    exact key _ _ (by kernel_rfl) clo_yields
  | false =>
    rw [h1, cond_false] at h
    cases h2 : Nat.beq g 31 with
    | true =>
      rw [h2, cond_true] at h; cases h; rw [Nat.eq_of_beq_eq_true h2]
      exact key _ _ (by kernel_rfl) clo_listens
    | false => rw [h2, cond_false] at h; cases h

theorem primsOk : PrimsOk E := ⟨(fun f p h => by cases h), hprOk⟩

end Go.Proofs.Ythmhnnppikdafaa.Vm
