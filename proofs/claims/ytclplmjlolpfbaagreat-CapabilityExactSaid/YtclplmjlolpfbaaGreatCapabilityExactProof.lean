/- The statement 'CapabilityExact' is true of the given program: for every input the call returns true, and each argument reads afterwards as it read before. No other conditions. -/
import Derived.Test.YtclplmjlolpfbaaGreatRows
import Derived.Test.YtclplmjlolpfbaaGreatVm33
import Derived.Test.YtclplmjlolpfbaaGreatCapabilityExact
import Derived.WalkKit
import Derived.ProofKit
import Derived.ShutString
namespace Go.Proofs.YtclplmjlolpfbaaGreat.capabilityExact
open Go.ChangeShapes Go.WideShapes Go.ChangeAt Go.RowKit
open Go.Proofs.YtclplmjlolpfbaaGreat.Vm (E denC law_calls args_in args_stay okFns okTy WFA All2 VA AV PV RV d_CapabilityExact trod_len list_cons list_nil all2_cons all2_nil wf_i64 wfa_int wfa_ints)
set_option linter.unusedVariables false

theorem own : ownKnob Tryz.prog.godebug = none := by kernel_rfl
theorem laidOut : laidOutB Tryz.prog = true := by kernel_rfl
theorem fns : okFns E = true := by kernel_rfl
theorem mixed : E.P.follows .mixedOrders = true := by kernel_rfl

set_option maxRecDepth 100000 in
theorem answer (avs : List AV) (h0 : All2 (WFA Tryz.prog) Tryz.f3.params.toList avs) : denC E 3 avs [] = some ([RV.p (PV.bool true)], []) := by
  have h : All2 (WFA Tryz.prog) [22, 25, 27, 22, 22, 3] avs := h0
  clear h0
  obtain ⟨a0, r0, rfl, h0, k0⟩ := all2_cons h
  obtain ⟨a1, r1, rfl, h1, k1⟩ := all2_cons k0
  obtain ⟨a2, r2, rfl, h2, k2⟩ := all2_cons k1
  obtain ⟨a3, r3, rfl, h3, k3⟩ := all2_cons k2
  obtain ⟨a4, r4, rfl, h4, k4⟩ := all2_cons k3
  obtain ⟨a5, r5, rfl, h5, k5⟩ := all2_cons k4
  obtain rfl := all2_nil k5
  obtain ⟨x0, rfl, w0, v0⟩ := wfa_ints (e := 3) (kd := .i64) (by kernel_rfl) (by kernel_rfl) h0
  obtain ⟨x3, rfl, w3, v3⟩ := wfa_ints (e := 3) (kd := .i64) (by kernel_rfl) (by kernel_rfl) h3
  obtain ⟨x4, rfl, w4, v4⟩ := wfa_ints (e := 3) (kd := .i64) (by kernel_rfl) (by kernel_rfl) h4
  obtain ⟨x5, rfl, w5⟩ := wfa_int (kd := .i64) (by kernel_rfl) h5
  exact d_CapabilityExact x0 w0 (fun n hn => wf_i64 (v0 n hn)) a1 h1 a2 h2 x3 w3 (fun n hn => wf_i64 (v3 n hn)) x4 w4 (fun n hn => wf_i64 (v4 n hn)) x5 (wf_i64 w5)

set_option maxRecDepth 100000 in
theorem lifted (os : Os) (started : os.Started) (H : Type) (enc : TypeId × Value → H) :
    ReturnsInHanded {} Tryz.checked os 3 .any (Rows.capabilityExactSpec.pre6 enc Tryz.prog Tryz.f3 Rows.capabilityExactRow.domain false) (Rows.capabilityExactSpec.post enc Tryz.prog Tryz.f3 false true false false) := by
  refine returnsInHanded_of_change (C := Tryz.checked) own started (by kernel_rfl) Tryz.func3
    (ChangeSpec.witness6 (enc := enc) (C := Tryz.checked) false ⟨#[], #[.slice none 0 0, .agg #[.int .i64 0, .int .i64 0, .slice none 0 0], .agg #[.int .i64 0, .int .i64 0, .int .i64 0], .slice none 0 0, .slice none 0 0, .int .i64 0], []⟩ 8 (by kernel_rfl) (by kernel_rfl) (by kernel_rfl) (by kernel_rfl)) ?_
  intro W base args ds gs before hval0 hW hcnd _
  have hval : ∀ (j : Nat) t v, Tryz.f3.params[j]? = some t → args[j]? = some v → Value.okWide Tryz.prog W .any base t v := hval0
  have hW' := hW
  obtain ⟨p, q, hA, hV, rfl, hfz, hnd⟩ := hW
  obtain ⟨avs, ha, hwf⟩ := args_in (P := Tryz.prog) (O := fun _ => False) (fun _ h => h) (ts := Tryz.f3.params.toList) (by kernel_rfl) hA (fun j t v ht hv => hval j t v (by simpa using ht) (by simpa using hv))
  obtain ⟨rfl, rfl⟩ := trodVars_none hV
  refine (law_calls ⟨(fun f p h => (by cases h)), (fun g k h => (by cases h))⟩ fns mixed (f := 3) (by kernel_rfl) ⟨Nat.zero_le _, trivial⟩ ha (answer avs hwf)).mono fun e W' ⟨he, bel⟩ => ?_
  subst he
  have hstay := args_stay laidOut bel (by kernel_rfl) hA
  have hlen : ds.length = 6 := trod_len hA
  obtain ⟨d0, ds0, rfl, l0⟩ := list_cons (n := 5) hlen
  obtain ⟨d1, ds1, rfl, l1⟩ := list_cons (n := 4) l0
  obtain ⟨d2, ds2, rfl, l2⟩ := list_cons (n := 3) l1
  obtain ⟨d3, ds3, rfl, l3⟩ := list_cons (n := 2) l2
  obtain ⟨d4, ds4, rfl, l4⟩ := list_cons (n := 1) l3
  obtain ⟨d5, ds5, rfl, l5⟩ := list_cons (n := 0) l4
  obtain rfl := list_nil l5
  exact ⟨_, rfl, _, _, _, [], _, [], hW', trodAll_mk1 (shut_bool Tryz.underlying4 _), hstay, rfl, bel.frame _, fun h => by cases h⟩

theorem over : Rows.capabilityExactRow.holds Tryz.pinned (OpenSpec.ofChange Rows.capabilityExactSpec) :=
  OpenClaim.holds_of_wide 3 Tryz.f3 rfl rfl rfl rfl rfl rfl rfl ⟨rfl, rfl, rfl, rfl, rfl⟩ rfl rfl rfl rfl rfl (by kernel_rfl) Tryz.func3 (by kernel_rfl)
    (of_decide_eq_true (by kernel_rfl)) (by unfold Func.isWrapper; first | (rw [if_pos (by decide +kernel)]; kernel_rfl) | (rw [if_neg (by decide +kernel)]; exact ⟨rfl, rfl⟩))
    (fun os started H enc _ => lifted os started H enc)

theorem proved : Rows.CapabilityExactSaid := over

end Go.Proofs.YtclplmjlolpfbaaGreat.capabilityExact
