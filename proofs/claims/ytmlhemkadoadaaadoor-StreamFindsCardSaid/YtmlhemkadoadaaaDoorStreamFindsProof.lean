/- The statement 'StreamFinds' is true of the given program: for every input the call returns true, and each argument reads afterwards as it read before. Conditions: the listed tables of the library hold what the row lists, tied to the program's text. -/
import Derived.Test.YtmlhemkadoadaaaDoorRows
import Derived.Test.YtmlhemkadoadaaaDoorCards
import Derived.Test.YtmlhemkadoadaaaDoorTie
import Derived.Test.YtmlhemkadoadaaaDoorPrimsS
import Derived.Test.YtmlhemkadoadaaaDoorDoorW
import Derived.Test.YtmlhemkadoadaaaDoorStreamFinds
import Derived.WalkKit
import Derived.ProofKit
import Derived.ShutString
import Derived.SevenTiedAt
import Derived.Stop.LaidErr
namespace Go.Proofs.YtmlhemkadoadaaaDoor.streamFinds
open Go.ChangeShapes Go.WideShapes Go.ChangeAt Go.RowKit
open Go.Proofs.YtmlhemkadoadaaaDoor (returns_of_law tabled)
open Go.Proofs.YtmlhemkadoadaaaDoor.Vm (E denC law_calls args_in args_stay okFns okTy WFA All2 VA AV PV RV d_StreamFinds trod_len list_cons list_nil all2_cons all2_nil primsOk nG gFact gOf gMaxLen wf_i64 wfa_ints)
set_option linter.unusedVariables false

theorem own : ownKnob Tryd.prog.godebug = none := by kernel_rfl
theorem laidOut : laidOutB Tryd.prog = true := by kernel_rfl
theorem fns : okFns E = true := by kernel_rfl
theorem mixed : E.P.follows .mixedOrders = true := by kernel_rfl

set_option maxRecDepth 100000 in
theorem answer (avs : List AV) (h0 : All2 (WFA Tryd.prog) Tryd.f7.params.toList avs) : denC E 7 avs [] = some ([RV.p (PV.bool true)], []) := by
  have h : All2 (WFA Tryd.prog) [31] avs := h0
  clear h0
  obtain ⟨a0, r0, rfl, h0, k0⟩ := all2_cons h
  obtain rfl := all2_nil k0
  obtain ⟨x0, rfl, w0, v0⟩ := wfa_ints (e := 3) (kd := .i64) (by kernel_rfl) (by kernel_rfl) h0
  exact d_StreamFinds x0 w0 (fun n hn => wf_i64 (v0 n hn))

theorem var_heap {P : Program} {w : World} {n : String} {g : Nat} {cs : Array Value} (hg : P.globalNamed n = some g) (h : w.var? P n = some cs) : ∃ e fr, w.heap[g]? = some (.cells cs e fr) := by
  unfold World.var? at h
  rw [hg] at h
  have h : (match w.heap[g]? with | some (.cells cs _ _) => some cs | _ => none) = some cs := h
  split at h
  · rename_i c e fr hw; cases h; exact ⟨e, fr, hw⟩
  · cases h

set_option maxRecDepth 100000 in
theorem gr_of {W : World} (hsh : W.ShapedOpen Tryd.prog) (hl : laidMetH Tryd.prog Rows.streamFindsRow.laid W) : nG ≤ W.heap.size ∧ gFact (gOf W) := by
  have hl0 : laidMet Tryd.prog Rows.streamFindsRow.laid W := hl
  have hl1 := hl0.tail
  have hl2 := hl1.tail
  obtain ⟨mgMaxLen, hmgMaxLen⟩ := Tryd.lays146.s1_3 W hsh
  obtain ⟨cgMaxLen, egMaxLen, frgMaxLen, hgMaxLen, hcgMaxLen⟩ : ∃ c e fr, W.heap[gMaxLen]? = some (.cells c e fr) ∧ c[0]? = some (.int .i64 mgMaxLen) := by
    have hm : W.cell? ⟨gMaxLen, 0, none⟩ = some (.int .i64 mgMaxLen) := hmgMaxLen
    unfold World.cell? at hm
    split at hm
    · rename_i c e fr hw; exact ⟨c, e, fr, hw, by simpa using hm⟩
    · cases hm
  have atgMaxLen : gOf W gMaxLen = _ := (show gOf W gMaxLen = W.heap[gMaxLen]? from if_pos (by decide)).trans hgMaxLen
  exact ⟨(Array.getElem?_eq_some_iff.1 hgMaxLen).1, ⟨cgMaxLen, egMaxLen, frgMaxLen, mgMaxLen, atgMaxLen, hcgMaxLen⟩⟩

noncomputable def start (os : Os) : World := tabled Tryd.prog [(2, Rows.laid_unicode_utf8_acceptRanges), (1, Rows.laid_unicode_utf8_first)] os

set_option maxRecDepth 1000000 in
theorem start_met (os : Os) (args : Array Value) : laidMetH Tryd.prog Rows.streamFindsRow.laid ((start os).forCall (fun _ _ => 0) ⟨#[], args, []⟩).memory :=
  laidMetH_of_parts3 (fuel := 8) (laidMet_of_run' 8 (by kernel_rfl) (by kernel_rfl)) (by kernel_rfl) (by kernel_rfl)

set_option maxRecDepth 1000000 in
theorem lifted (os : Os) (started : os.Started) (H : Type) (enc : TypeId × Value → H) :
    ReturnsInHanded {} Tryd.checked os 7 .any (fun w args => (Rows.streamFindsSpec.pre enc Tryd.prog Tryd.f7 Rows.streamFindsRow.domain false w args ∧ laidMetH Tryd.prog Rows.streamFindsRow.laid w) ∧ sizedMet enc Tryd.prog Tryd.f7 (OpenSpec.ofChange Rows.streamFindsSpec) false w args) (Rows.streamFindsSpec.post enc Tryd.prog Tryd.f7 false true false false) := by
  refine returns_of_law (C := Tryd.checked) (X := fun w _ => laidMetH Tryd.prog Rows.streamFindsRow.laid w) (fun _ _ _ hh h => h.of_heap hh) own started (by kernel_rfl) Tryd.func7
    (ChangeSpec.witness_shaped (enc := enc) (C := Tryd.checked) (os := os) (X := fun w _ => laidMetH Tryd.prog Rows.streamFindsRow.laid w) false (start os) #[.slice none 0 0] 8 rfl (World.shaped_of_RefB (by kernel_rfl) (by kernel_rfl)) (by kernel_rfl) (by kernel_rfl) (by kernel_rfl) (start_met os _)) ?_
  intro W base args ds gs before hval0 hW hX hsh
  have hval : ∀ (j : Nat) t v, Tryd.f7.params[j]? = some t → args[j]? = some v → Value.okWide Tryd.prog W .any base t v := hval0
  have hW' := hW
  obtain ⟨p, q, hA, hV, rfl, hfz, hnd⟩ := hW
  obtain ⟨avs, ha, hwf⟩ := args_in (P := Tryd.prog) (O := fun _ => False) (fun _ h => h) (ts := Tryd.f7.params.toList) (by kernel_rfl) hA (fun j t v ht hv => hval j t v (by simpa using ht) (by simpa using hv))
  obtain ⟨rfl, rfl⟩ := trodVars_none hV
  refine (law_calls primsOk fns mixed (f := 7) (by kernel_rfl) (gr_of hsh hX) ha (answer avs hwf)).mono fun e W' ⟨he, bel⟩ => ?_
  subst he
  have hstay := args_stay laidOut bel (by kernel_rfl) hA
  have hlen : ds.length = 1 := trod_len hA
  obtain ⟨d0, ds0, rfl, l0⟩ := list_cons (n := 0) hlen
  obtain rfl := list_nil l0
  exact ⟨_, rfl, _, _, _, [], _, [], hW', trodAll_mk1 (shut_bool Tryd.underlying4 _), hstay, rfl, bel.frame _, fun h => by cases h⟩

theorem over : Rows.streamFindsRow.holds Tryd.pinned (OpenSpec.ofChange Rows.streamFindsSpec) :=
  OpenClaim.holds_of_wide 7 Tryd.f7 rfl rfl rfl rfl rfl rfl rfl ⟨rfl, rfl, rfl, rfl, rfl⟩ rfl rfl rfl rfl rfl (by kernel_rfl) Tryd.func7 (by kernel_rfl)
    (of_decide_eq_true (by kernel_rfl)) (by unfold Func.isWrapper; first | (rw [if_pos (by decide +kernel)]; kernel_rfl) | (rw [if_neg (by decide +kernel)]; exact ⟨rfl, rfl⟩))
    (fun os started H enc _ => lifted os started H enc)

theorem proved : Rows.StreamFindsCardSaid :=
  Claim7.holds_tied_plain_at .later [] [.data, .pinned] true (true, "0f1dccffccb7b8a1ae8505e134a49f1025fd689412b42062e01ecb1626288f6e") false
    over (fun _ h => by cases h) (by kernel_rfl) (fun _ h => by cases h) streamFinds_row_tie rfl ⟨rfl, rfl⟩ (by kernel_rfl) rfl
    (fun f fn hf hfn => by
      obtain rfl : f = 7 := Option.some.inj ((show Tryd.prog.funcNamed "dynpos/dynposlaw05.StreamFinds" = some 7 by kernel_rfl).symm.trans hf) |>.symm
      obtain rfl : fn = Tryd.f7 := (Option.some.inj (Tryd.func7.symm.trans hfn)).symm
      refine ⟨by kernel_rfl, fun j t ht => ?_⟩
      have hm : t ∈ [31] := by
        have : t ∈ Tryd.f7.params.toList := Array.mem_toList_iff.2 (Array.mem_of_getElem? ht)
        exact this
      have hall : ([31].all fun u => !Tryd.prog.wantsStandIn u) = true := by kernel_rfl
      exact (show Tryd.prog.wantsStandIn t = false by simpa using List.all_eq_true.1 hall t hm))
    (by kernel_rfl)

end Go.Proofs.YtmlhemkadoadaaaDoor.streamFinds
