/- The statement 'SectorExact' is true of the given program: for every input the call returns true, and each argument reads afterwards as it read before. No other conditions. -/
import Derived.Test.YtldeniedmbgnaaaRows
import Derived.Test.YtldeniedmbgnaaaVm33
import Derived.Test.YtldeniedmbgnaaaSectorExact
import Derived.WalkKit
import Derived.ProofKit
import Derived.ShutString
namespace Go.Proofs.Ytldeniedmbgnaaa.sectorExact
open Go.ChangeShapes Go.WideShapes Go.ChangeAt Go.RowKit
open Go.Proofs.Ytldeniedmbgnaaa.Vm (E denC law_calls args_in args_stay okFns okTy WFA All2 VA AV PV RV d_SectorExact trod_len list_cons list_nil all2_cons all2_nil wf_i64 wfa_int wfa_ints)
set_option linter.unusedVariables false

theorem own : ownKnob Try.prog.godebug = none := by kernel_rfl
theorem laidOut : laidOutB Try.prog = true := by kernel_rfl
theorem fns : okFns E = true := by kernel_rfl
theorem mixed : E.P.follows .mixedOrders = true := by kernel_rfl

set_option maxRecDepth 100000 in
theorem answer (avs : List AV) (h0 : All2 (WFA Try.prog) Try.f4.params.toList avs) : denC E 4 avs [] = some ([RV.p (PV.bool true)], []) := by
  have h : All2 (WFA Try.prog) [22, 27, 3, 3, 3, 3, 3, 3] avs := h0
  clear h0
  obtain ⟨a0, r0, rfl, h0, k0⟩ := all2_cons h
  obtain ⟨a1, r1, rfl, h1, k1⟩ := all2_cons k0
  obtain ⟨a2, r2, rfl, h2, k2⟩ := all2_cons k1
  obtain ⟨a3, r3, rfl, h3, k3⟩ := all2_cons k2
  obtain ⟨a4, r4, rfl, h4, k4⟩ := all2_cons k3
  obtain ⟨a5, r5, rfl, h5, k5⟩ := all2_cons k4
  obtain ⟨a6, r6, rfl, h6, k6⟩ := all2_cons k5
  obtain ⟨a7, r7, rfl, h7, k7⟩ := all2_cons k6
  obtain rfl := all2_nil k7
  obtain ⟨x0, rfl, w0, v0⟩ := wfa_ints (e := 3) (kd := .i64) (by kernel_rfl) (by kernel_rfl) h0
  obtain ⟨x2, rfl, w2⟩ := wfa_int (kd := .i64) (by kernel_rfl) h2
  obtain ⟨x3, rfl, w3⟩ := wfa_int (kd := .i64) (by kernel_rfl) h3
  obtain ⟨x4, rfl, w4⟩ := wfa_int (kd := .i64) (by kernel_rfl) h4
  obtain ⟨x5, rfl, w5⟩ := wfa_int (kd := .i64) (by kernel_rfl) h5
  obtain ⟨x6, rfl, w6⟩ := wfa_int (kd := .i64) (by kernel_rfl) h6
  obtain ⟨x7, rfl, w7⟩ := wfa_int (kd := .i64) (by kernel_rfl) h7
  exact d_SectorExact x0 w0 (fun n hn => wf_i64 (v0 n hn)) a1 h1 x2 (wf_i64 w2) x3 (wf_i64 w3) x4 (wf_i64 w4) x5 (wf_i64 w5) x6 (wf_i64 w6) x7 (wf_i64 w7)

set_option maxRecDepth 100000 in
theorem lifted (os : Os) (started : os.Started) (H : Type) (enc : TypeId × Value → H) :
    ReturnsInHanded {} Try.checked os 4 .any (Rows.sectorExactSpec.pre6 enc Try.prog Try.f4 Rows.sectorExactRow.domain false) (Rows.sectorExactSpec.post enc Try.prog Try.f4 false true false false) := by
  refine returnsInHanded_of_change (C := Try.checked) own started (by kernel_rfl) Try.func4
    (ChangeSpec.witness6 (enc := enc) (C := Try.checked) false ⟨#[], #[.slice none 0 0, .agg #[.int .i64 0, .int .i64 0, .int .i64 0, .int .i64 0, .int .i64 0, .slice none 0 0], .int .i64 0, .int .i64 0, .int .i64 0, .int .i64 0, .int .i64 0, .int .i64 0], []⟩ 8 (by kernel_rfl) (by kernel_rfl) (by kernel_rfl) (by kernel_rfl)) ?_
  intro W base args ds gs before hval0 hW hcnd _
  have hval : ∀ (j : Nat) t v, Try.f4.params[j]? = some t → args[j]? = some v → Value.okWide Try.prog W .any base t v := hval0
  have hW' := hW
  obtain ⟨p, q, hA, hV, rfl, hfz, hnd⟩ := hW
  obtain ⟨avs, ha, hwf⟩ := args_in (P := Try.prog) (O := fun _ => False) (fun _ h => h) (ts := Try.f4.params.toList) (by kernel_rfl) hA (fun j t v ht hv => hval j t v (by simpa using ht) (by simpa using hv))
  obtain ⟨rfl, rfl⟩ := trodVars_none hV
  refine (law_calls fns mixed (f := 4) (by kernel_rfl) ha (answer avs hwf)).mono fun e W' ⟨he, bel⟩ => ?_
  subst he
  have hstay := args_stay laidOut bel (by kernel_rfl) hA
  have hlen : ds.length = 8 := trod_len hA
  obtain ⟨d0, ds0, rfl, l0⟩ := list_cons (n := 7) hlen
  obtain ⟨d1, ds1, rfl, l1⟩ := list_cons (n := 6) l0
  obtain ⟨d2, ds2, rfl, l2⟩ := list_cons (n := 5) l1
  obtain ⟨d3, ds3, rfl, l3⟩ := list_cons (n := 4) l2
  obtain ⟨d4, ds4, rfl, l4⟩ := list_cons (n := 3) l3
  obtain ⟨d5, ds5, rfl, l5⟩ := list_cons (n := 2) l4
  obtain ⟨d6, ds6, rfl, l6⟩ := list_cons (n := 1) l5
  obtain ⟨d7, ds7, rfl, l7⟩ := list_cons (n := 0) l6
  obtain rfl := list_nil l7
  exact ⟨_, rfl, _, _, _, [], _, [], hW', trodAll_mk1 (shut_bool Try.underlying4 _), hstay, rfl, bel.frame _, fun h => by cases h⟩

theorem over : Rows.sectorExactRow.holds Try.pinned (OpenSpec.ofChange Rows.sectorExactSpec) :=
  OpenClaim.holds_of_wide 4 Try.f4 rfl rfl rfl rfl rfl rfl rfl ⟨rfl, rfl, rfl, rfl, rfl⟩ rfl rfl rfl rfl rfl (by kernel_rfl) Try.func4 (by kernel_rfl)
    (of_decide_eq_true (by kernel_rfl)) (by unfold Func.isWrapper; first | (rw [if_pos (by decide +kernel)]; kernel_rfl) | (rw [if_neg (by decide +kernel)]; exact ⟨rfl, rfl⟩))
    (fun os started H enc _ => lifted os started H enc)

theorem proved : Rows.SectorExactSaid := over

end Go.Proofs.Ytldeniedmbgnaaa.sectorExact
