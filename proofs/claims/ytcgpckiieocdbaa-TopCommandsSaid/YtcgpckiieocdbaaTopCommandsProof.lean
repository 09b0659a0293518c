/- The statement 'TopCommands' is true of the given program: for every input the call returns true, and each argument reads afterwards as it read before. No other conditions. -/
import Derived.Test.YtcgpckiieocdbaaRows
import Derived.Test.YtcgpckiieocdbaaVm33
import Derived.Test.YtcgpckiieocdbaaTopCommands
import Derived.Test.YtcgpckiieocdbaaCloT
import Derived.WalkKit
import Derived.ProofKit
import Derived.ShutString
namespace Go.Proofs.Ytcgpckiieocdbaa.topCommands
open Go.ChangeShapes Go.WideShapes Go.ChangeAt Go.RowKit
open Go.Proofs.Ytcgpckiieocdbaa.Vm (E denC law_calls args_in args_stay okFns okTy WFA All2 VA AV PV RV d_TopCommands trod_len list_cons list_nil all2_cons all2_nil wf_i64 wfa_ints)
set_option linter.unusedVariables false

theorem own : ownKnob Try.prog.godebug = none := by kernel_rfl
theorem laidOut : laidOutB Try.prog = true := by kernel_rfl
theorem fns : okFns E = true := by kernel_rfl
theorem mixed : E.P.follows .mixedOrders = true := by kernel_rfl

set_option maxRecDepth 100000 in
theorem answer (avs : List AV) (h0 : All2 (WFA Try.prog) Try.f3.params.toList avs) : denC E 3 avs [] = some ([RV.p (PV.bool true)], []) := by
  have h : All2 (WFA Try.prog) [22] avs := h0
  clear h0
  obtain ⟨a0, r0, rfl, h0, k0⟩ := all2_cons h
  obtain rfl := all2_nil k0
  obtain ⟨x0, rfl, w0, v0⟩ := wfa_ints (e := 3) (kd := .i64) (by kernel_rfl) (by kernel_rfl) h0
  exact d_TopCommands x0 w0 (fun n hn => wf_i64 (v0 n hn))

set_option maxRecDepth 100000 in
theorem lifted (os : Os) (started : os.Started) (H : Type) (enc : TypeId × Value → H) :
    ReturnsInHanded {} Try.checked os 3 .any (Rows.topCommandsSpec.pre6 enc Try.prog Try.f3 Rows.topCommandsRow.domain false) (Rows.topCommandsSpec.post enc Try.prog Try.f3 false true false false) := by
  refine returnsInHanded_of_change (C := Try.checked) own started (by kernel_rfl) Try.func3
    (ChangeSpec.witness6 (enc := enc) (C := Try.checked) false ⟨#[], #[.slice none 0 0], []⟩ 8 (by kernel_rfl) (by kernel_rfl) (by kernel_rfl) (by kernel_rfl)) ?_
  intro W base args ds gs before hval0 hW hcnd _
  have hval : ∀ (j : Nat) t v, Try.f3.params[j]? = some t → args[j]? = some v → Value.okWide Try.prog W .any base t v := hval0
  have hW' := hW
  obtain ⟨p, q, hA, hV, rfl, hfz, hnd⟩ := hW
  obtain ⟨avs, ha, hwf⟩ := args_in (P := Try.prog) (O := fun _ => False) (fun _ h => h) (ts := Try.f3.params.toList) (by kernel_rfl) hA (fun j t v ht hv => hval j t v (by simpa using ht) (by simpa using hv))
  obtain ⟨rfl, rfl⟩ := trodVars_none hV
  refine (law_calls Go.Proofs.Ytcgpckiieocdbaa.Vm.primsOk fns mixed (f := 3) (by kernel_rfl) ⟨Nat.zero_le _, trivial⟩ ha (answer avs hwf)).mono fun e W' ⟨he, bel⟩ => ?_
  subst he
  have hstay := args_stay laidOut bel (by kernel_rfl) hA
  have hlen : ds.length = 1 := trod_len hA
  obtain ⟨d0, ds0, rfl, l0⟩ := list_cons (n := 0) hlen
  obtain rfl := list_nil l0
  exact ⟨_, rfl, _, _, _, [], _, [], hW', trodAll_mk1 (shut_bool Try.underlying4 _), hstay, rfl, bel.frame _, fun h => by cases h⟩

theorem over : Rows.topCommandsRow.holds Try.pinned (OpenSpec.ofChange Rows.topCommandsSpec) :=
  OpenClaim.holds_of_wide 3 Try.f3 rfl rfl rfl rfl rfl rfl rfl ⟨rfl, rfl, rfl, rfl, rfl⟩ rfl rfl rfl rfl rfl (by kernel_rfl) Try.func3 (by kernel_rfl)
    (of_decide_eq_true (by kernel_rfl)) (by unfold Func.isWrapper; first | (rw [if_pos (by decide +kernel)]; kernel_rfl) | (rw [if_neg (by decide +kernel)]; exact ⟨rfl, rfl⟩))
    (fun os started H enc _ => lifted os started H enc)

theorem proved : Rows.TopCommandsSaid := over

end Go.Proofs.Ytcgpckiieocdbaa.topCommands
