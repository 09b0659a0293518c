/- The statement 'SentenceExact' is true of the given program: for every input the call returns true, and each argument reads afterwards as it read before. Conditions: the listed tables of the library hold what the row lists, tied to the program's text. -/
import Derived.Test.YtclnapbghehlaaaDoorRows
import Derived.Test.YtclnapbghehlaaaDoorCards
import Derived.Test.YtclnapbghehlaaaDoorTie
import Derived.Test.YtclnapbghehlaaaDoorPrimsS
import Derived.Test.YtclnapbghehlaaaDoorDoorW
import Derived.Test.YtclnapbghehlaaaDoorSentenceExact
import Derived.WalkKit
import Derived.ProofKit
import Derived.ShutString
import Derived.SevenTiedAt
namespace Go.Proofs.YtclnapbghehlaaaDoor.sentenceExact
open Go.ChangeShapes Go.WideShapes Go.ChangeAt Go.RowKit
open Go.Proofs.YtclnapbghehlaaaDoor (returns_of_law tabled)
open Go.Proofs.YtclnapbghehlaaaDoor.Vm (E denC law_calls args_in args_stay okFns okTy WFA All2 VA AV PV RV d_SentenceExact trod_len list_cons list_nil all2_cons all2_nil primsOk gr_of_shape wf_i64 wf_u8 wfa_ints wfa_str)
set_option linter.unusedVariables false

theorem own : ownKnob Tryd.prog.godebug = none := by kernel_rfl
theorem laidOut : laidOutB Tryd.prog = true := by kernel_rfl
theorem fns : okFns E = true := by kernel_rfl
theorem mixed : E.P.follows .mixedOrders = true := by kernel_rfl

set_option maxRecDepth 100000 in
theorem answer (avs : List AV) (h0 : All2 (WFA Tryd.prog) Tryd.f4.params.toList avs) : denC E 4 avs [] = some ([RV.p (PV.bool true)], []) := by
  have h : All2 (WFA Tryd.prog) [22, 34, 23, 9] avs := h0
  clear h0
  obtain ⟨a0, r0, rfl, h0, k0⟩ := all2_cons h
  obtain ⟨a1, r1, rfl, h1, k1⟩ := all2_cons k0
  obtain ⟨a2, r2, rfl, h2, k2⟩ := all2_cons k1
  obtain ⟨a3, r3, rfl, h3, k3⟩ := all2_cons k2
  obtain rfl := all2_nil k3
  obtain ⟨x0, rfl, w0, v0⟩ := wfa_ints (e := 3) (kd := .i64) (by kernel_rfl) (by kernel_rfl) h0
  obtain ⟨x2, rfl, w2, v2⟩ := wfa_ints (e := 5) (kd := .u8) (by kernel_rfl) (by kernel_rfl) h2
  obtain ⟨x3, rfl, w3⟩ := wfa_str (by kernel_rfl) h3
  exact d_SentenceExact x0 w0 (fun n hn => wf_i64 (v0 n hn)) a1 h1 x2 w2 (fun n hn => wf_u8 (v2 n hn)) x3 w3


noncomputable def start (os : Os) : World := tabled Tryd.prog [(2, Rows.laid_unicode_utf8_acceptRanges), (1, Rows.laid_unicode_utf8_first)] os

set_option maxRecDepth 1000000 in
theorem start_met (os : Os) (args : Array Value) : laidMetH Tryd.prog Rows.sentenceExactRow.laid ((start os).forCall (fun _ _ => 0) ⟨#[], args, []⟩).memory :=
  laidMetH_of_parts3 (fuel := 8) (laidMet_of_run' 8 (by kernel_rfl) (by kernel_rfl)) (by kernel_rfl) (by kernel_rfl)

set_option maxRecDepth 1000000 in
theorem lifted (os : Os) (started : os.Started) (H : Type) (enc : TypeId × Value → H) :
    ReturnsInHanded {} Tryd.checked os 4 .any (fun w args => (Rows.sentenceExactSpec.pre enc Tryd.prog Tryd.f4 Rows.sentenceExactRow.domain false w args ∧ laidMetH Tryd.prog Rows.sentenceExactRow.laid w) ∧ sizedMet enc Tryd.prog Tryd.f4 (OpenSpec.ofChange Rows.sentenceExactSpec) false w args) (Rows.sentenceExactSpec.post enc Tryd.prog Tryd.f4 false true false false) := by
  refine returns_of_law (C := Tryd.checked) (X := fun w _ => laidMetH Tryd.prog Rows.sentenceExactRow.laid w) (fun _ _ _ hh h => h.of_heap hh) own started (by kernel_rfl) Tryd.func4
    (ChangeSpec.witness_shaped (enc := enc) (C := Tryd.checked) (os := os) (X := fun w _ => laidMetH Tryd.prog Rows.sentenceExactRow.laid w) false (start os) #[.slice none 0 0, .agg #[.slice none 0 0], .slice none 0 0, .string ByteArray.empty] 8 rfl (World.shaped_of_RefB (by kernel_rfl) (by kernel_rfl)) (by kernel_rfl) (by kernel_rfl) (by kernel_rfl) (start_met os _)) ?_
  intro W base args ds gs before hval0 hW hX hsh
  have hval : ∀ (j : Nat) t v, Tryd.f4.params[j]? = some t → args[j]? = some v → Value.okWide Tryd.prog W .any base t v := hval0
  have hW' := hW
  obtain ⟨p, q, hA, hV, rfl, hfz, hnd⟩ := hW
  obtain ⟨avs, ha, hwf⟩ := args_in (P := Tryd.prog) (O := fun _ => False) (fun _ h => h) (ts := Tryd.f4.params.toList) (by kernel_rfl) hA (fun j t v ht hv => hval j t v (by simpa using ht) (by simpa using hv))
  obtain ⟨rfl, rfl⟩ := trodVars_none hV
  refine (law_calls primsOk fns mixed (f := 4) (by kernel_rfl) (gr_of_shape hsh) ha (answer avs hwf)).mono fun e W' ⟨he, bel⟩ => ?_
  subst he
  have hstay := args_stay laidOut bel (by kernel_rfl) hA
  have hlen : ds.length = 4 := trod_len hA
  obtain ⟨d0, ds0, rfl, l0⟩ := list_cons (n := 3) hlen
  obtain ⟨d1, ds1, rfl, l1⟩ := list_cons (n := 2) l0
  obtain ⟨d2, ds2, rfl, l2⟩ := list_cons (n := 1) l1
  obtain ⟨d3, ds3, rfl, l3⟩ := list_cons (n := 0) l2
  obtain rfl := list_nil l3
  exact ⟨_, rfl, _, _, _, [], _, [], hW', trodAll_mk1 (shut_bool Tryd.underlying4 _), hstay, rfl, bel.frame _, fun h => by cases h⟩

theorem over : Rows.sentenceExactRow.holds Tryd.pinned (OpenSpec.ofChange Rows.sentenceExactSpec) :=
  OpenClaim.holds_of_wide 4 Tryd.f4 rfl rfl rfl rfl rfl rfl rfl ⟨rfl, rfl, rfl, rfl, rfl⟩ rfl rfl rfl rfl rfl (by kernel_rfl) Tryd.func4 (by kernel_rfl)
    (of_decide_eq_true (by kernel_rfl)) (by unfold Func.isWrapper; first | (rw [if_pos (by decide +kernel)]; kernel_rfl) | (rw [if_neg (by decide +kernel)]; exact ⟨rfl, rfl⟩))
    (fun os started H enc _ => lifted os started H enc)

theorem proved : Rows.SentenceExactCardSaid :=
  Claim7.holds_tied_plain_at .later [] [.data, .pinned] true (true, "02be4005ea8f50991c739c4a556a1a8f6c3b2c6d5e4c85a61290ecf33ef4b020") false
    over (fun _ h => by cases h) (by kernel_rfl) (fun _ h => by cases h) sentenceExact_row_tie rfl ⟨rfl, rfl⟩ (by kernel_rfl) rfl
    (fun f fn hf hfn => by
      obtain rfl : f = 4 := Option.some.inj ((show Tryd.prog.funcNamed "dynpos/dynposlaw04.SentenceExact" = some 4 by kernel_rfl).symm.trans hf) |>.symm
      obtain rfl : fn = Tryd.f4 := (Option.some.inj (Tryd.func4.symm.trans hfn)).symm
      refine ⟨by kernel_rfl, fun j t ht => ?_⟩
      have hm : t ∈ [22, 34, 23, 9] := by
        have : t ∈ Tryd.f4.params.toList := Array.mem_toList_iff.2 (Array.mem_of_getElem? ht)
        exact this
      have hall : ([22, 34, 23, 9].all fun u => !Tryd.prog.wantsStandIn u) = true := by kernel_rfl
      exact (show Tryd.prog.wantsStandIn t = false by simpa using List.all_eq_true.1 hall t hm))
    (by kernel_rfl)

end Go.Proofs.YtclnapbghehlaaaDoor.sentenceExact
