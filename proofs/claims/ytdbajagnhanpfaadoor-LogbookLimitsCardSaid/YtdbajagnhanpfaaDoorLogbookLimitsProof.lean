/- The statement 'LogbookLimits' is true of the given program: for every input the call returns true, and each argument reads afterwards as it read before. Conditions: the listed tables of the library hold what the row lists, tied to the program's text. -/
import Derived.Test.YtdbajagnhanpfaaDoorRows
import Derived.Test.YtdbajagnhanpfaaDoorCards
import Derived.Test.YtdbajagnhanpfaaDoorTie
import Derived.Test.YtdbajagnhanpfaaDoorPrimsS
import Derived.Test.YtdbajagnhanpfaaDoorDoorW
import Derived.Test.YtdbajagnhanpfaaDoorLogbookLimits
import Derived.WalkKit
import Derived.ProofKit
import Derived.ShutString
import Derived.SevenTiedAt
import Derived.Stop.LaidErr
namespace Go.Proofs.YtdbajagnhanpfaaDoor.logbookLimits
open Go.ChangeShapes Go.WideShapes Go.ChangeAt Go.RowKit
open Go.Proofs.YtdbajagnhanpfaaDoor (returns_of_law tabled)
open Go.Proofs.YtdbajagnhanpfaaDoor.Vm (E denC law_calls args_in args_stay okFns okTy WFA All2 VA AV PV RV d_LogbookLimits trod_len list_cons list_nil all2_cons all2_nil primsOk nG gFact gOf gPow wf_u8 wfa_int)
set_option linter.unusedVariables false

theorem own : ownKnob Tryd.prog.godebug = none := by kernel_rfl
theorem laidOut : laidOutB Tryd.prog = true := by kernel_rfl
theorem fns : okFns E = true := by kernel_rfl
theorem mixed : E.P.follows .mixedOrders = true := by kernel_rfl

set_option maxRecDepth 100000 in
theorem answer (avs : List AV) (h0 : All2 (WFA Tryd.prog) Tryd.f3.params.toList avs) : denC E 3 avs [] = some ([RV.p (PV.bool true)], []) := by
  have h : All2 (WFA Tryd.prog) [5] avs := h0
  clear h0
  obtain ⟨a0, r0, rfl, h0, k0⟩ := all2_cons h
  obtain rfl := all2_nil k0
  obtain ⟨x0, rfl, w0⟩ := wfa_int (kd := .u8) (by kernel_rfl) h0
  exact d_LogbookLimits x0 (wf_u8 w0)

theorem var_heap {P : Program} {w : World} {n : String} {g : Nat} {cs : Array Value} (hg : P.globalNamed n = some g) (h : w.var? P n = some cs) : ∃ e fr, w.heap[g]? = some (.cells cs e fr) := by
  unfold World.var? at h
  rw [hg] at h
  have h : (match w.heap[g]? with | some (.cells cs _ _) => some cs | _ => none) = some cs := h
  split at h
  · rename_i c e fr hw; cases h; exact ⟨e, fr, hw⟩
  · cases h

set_option maxRecDepth 100000 in
theorem gr_of {W : World} (hsh : W.ShapedOpen Tryd.prog) (hl : laidMetH Tryd.prog Rows.logbookLimitsRow.laid W) : nG ≤ W.heap.size ∧ gFact (gOf W) := by
  have hl0 : laidMet Tryd.prog Rows.logbookLimitsRow.laid W := hl
  have hl1 := hl0.tail
  have hl2 := hl1.tail
  have hl3 := hl2.tail
  obtain ⟨egPow, frgPow, hgPow⟩ := var_heap (g := gPow) (by kernel_rfl) (Lib.tabIs_of_head (rest := Rows.logbookLimitsRow.laid.drop 3) (k := .u64) (zs := Lib.pow10Tab) (name := "internal/strconv.uint64pow10") (g := gPow) (t := 113) (e := 23) (by kernel_rfl) (by kernel_rfl) Tryd.underlying113 Tryd.underlying23 (by kernel_rfl) (by kernel_rfl) hl2)
  have atgPow : gOf W gPow = _ := (show gOf W gPow = W.heap[gPow]? from if_pos (by decide)).trans hgPow
  exact ⟨(Array.getElem?_eq_some_iff.1 hgPow).1, ⟨egPow, frgPow, atgPow⟩⟩

noncomputable def start (os : Os) : World := tabled Tryd.prog [(2, Rows.laid_math_bits_deBruijn32tab), (3, Rows.laid_math_bits_deBruijn64tab), (0, Rows.laid_internal_strconv_uint64pow10)] os

set_option maxRecDepth 1000000 in
theorem start_met (os : Os) (args : Array Value) : laidMetH Tryd.prog Rows.logbookLimitsRow.laid ((start os).forCall (fun _ _ => 0) ⟨#[], args, []⟩).memory :=
  laidMetH_of_parts3 (fuel := 8) (laidMet_of_run' 8 (by kernel_rfl) (by kernel_rfl)) (by kernel_rfl) (by kernel_rfl)

set_option maxRecDepth 1000000 in
theorem lifted (os : Os) (started : os.Started) (H : Type) (enc : TypeId × Value → H) :
    ReturnsInHanded {} Tryd.checked os 3 .any (fun w args => (Rows.logbookLimitsSpec.pre enc Tryd.prog Tryd.f3 Rows.logbookLimitsRow.domain false w args ∧ laidMetH Tryd.prog Rows.logbookLimitsRow.laid w) ∧ sizedMet enc Tryd.prog Tryd.f3 (OpenSpec.ofChange Rows.logbookLimitsSpec) false w args) (Rows.logbookLimitsSpec.post enc Tryd.prog Tryd.f3 false true false false) := by
  refine returns_of_law (C := Tryd.checked) (X := fun w _ => laidMetH Tryd.prog Rows.logbookLimitsRow.laid w) (fun _ _ _ hh h => h.of_heap hh) own started (by kernel_rfl) Tryd.func3
    (ChangeSpec.witness_shaped (enc := enc) (C := Tryd.checked) (os := os) (X := fun w _ => laidMetH Tryd.prog Rows.logbookLimitsRow.laid w) false (start os) #[.int .u8 0] 8 rfl (World.shaped_of_RefB (by kernel_rfl) (by kernel_rfl)) (by kernel_rfl) (by kernel_rfl) (by kernel_rfl) (start_met os _)) ?_
  intro W base args ds gs before hval0 hW hX hsh
  have hval : ∀ (j : Nat) t v, Tryd.f3.params[j]? = some t → args[j]? = some v → Value.okWide Tryd.prog W .any base t v := hval0
  have hW' := hW
  obtain ⟨p, q, hA, hV, rfl, hfz, hnd⟩ := hW
  obtain ⟨avs, ha, hwf⟩ := args_in (P := Tryd.prog) (O := fun _ => False) (fun _ h => h) (ts := Tryd.f3.params.toList) (by kernel_rfl) hA (fun j t v ht hv => hval j t v (by simpa using ht) (by simpa using hv))
  obtain ⟨rfl, rfl⟩ := trodVars_none hV
  refine (law_calls primsOk fns mixed (f := 3) (by kernel_rfl) (gr_of hsh hX) ha (answer avs hwf)).mono fun e W' ⟨he, bel⟩ => ?_
  subst he
  have hstay := args_stay laidOut bel (by kernel_rfl) hA
  have hlen : ds.length = 1 := trod_len hA
  obtain ⟨d0, ds0, rfl, l0⟩ := list_cons (n := 0) hlen
  obtain rfl := list_nil l0
  exact ⟨_, rfl, _, _, _, [], _, [], hW', trodAll_mk1 (shut_bool Tryd.underlying4 _), hstay, rfl, bel.frame _, fun h => by cases h⟩

theorem over : Rows.logbookLimitsRow.holds Tryd.pinned (OpenSpec.ofChange Rows.logbookLimitsSpec) :=
  OpenClaim.holds_of_wide 3 Tryd.f3 rfl rfl rfl rfl rfl rfl rfl ⟨rfl, rfl, rfl, rfl, rfl⟩ rfl rfl rfl rfl rfl (by kernel_rfl) Tryd.func3 (by kernel_rfl)
    (of_decide_eq_true (by kernel_rfl)) (by unfold Func.isWrapper; first | (rw [if_pos (by decide +kernel)]; kernel_rfl) | (rw [if_neg (by decide +kernel)]; exact ⟨rfl, rfl⟩))
    (fun os started H enc _ => lifted os started H enc)

theorem proved : Rows.LogbookLimitsCardSaid :=
  Claim7.holds_tied_plain_at .later [] [.data, .data, .data] true (true, "c7908209b62fd2a9ececf86333122b898b958d1ca406e84b4581e41cc1680e96") false
    over (fun _ h => by cases h) (by kernel_rfl) (fun _ h => by cases h) logbookLimits_row_tie rfl ⟨rfl, rfl⟩ (by kernel_rfl) rfl
    (fun f fn hf hfn => by
      obtain rfl : f = 3 := Option.some.inj ((show Tryd.prog.funcNamed "dynpos/dynposlaw36.LogbookLimits" = some 3 by kernel_rfl).symm.trans hf) |>.symm
      obtain rfl : fn = Tryd.f3 := (Option.some.inj (Tryd.func3.symm.trans hfn)).symm
      refine ⟨by kernel_rfl, fun j t ht => ?_⟩
      have hm : t ∈ [5] := by
        have : t ∈ Tryd.f3.params.toList := Array.mem_toList_iff.2 (Array.mem_of_getElem? ht)
        exact this
      have hall : ([5].all fun u => !Tryd.prog.wantsStandIn u) = true := by kernel_rfl
      exact (show Tryd.prog.wantsStandIn t = false by simpa using List.all_eq_true.1 hall t hm))
    (by kernel_rfl)

end Go.Proofs.YtdbajagnhanpfaaDoor.logbookLimits
