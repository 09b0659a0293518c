/- The statement 'ReportBack' is true of the given program: for every input the call returns true, and each argument reads afterwards as it read before. Conditions: the listed tables of the library hold what the row lists, tied to the program's text. -/
import Derived.Test.YtgdeaamklodkkaaDoorRows
import Derived.Test.YtgdeaamklodkkaaDoorCards
import Derived.Test.YtgdeaamklodkkaaDoorTie
import Derived.Test.YtgdeaamklodkkaaDoorPrimsS
import Derived.Test.YtgdeaamklodkkaaDoorDoorW
import Derived.Test.YtgdeaamklodkkaaDoorReportBack
import Derived.WalkKit
import Derived.ProofKit
import Derived.ShutString
import Derived.SevenTiedAt
import Derived.Stop.LaidErr
namespace Go.Proofs.YtgdeaamklodkkaaDoor.reportBack
open Go.ChangeShapes Go.WideShapes Go.ChangeAt Go.RowKit
open Go.Proofs.YtgdeaamklodkkaaDoor (returns_of_law tabled)
open Go.Proofs.YtgdeaamklodkkaaDoor.Vm (E denC law_calls args_in args_stay okFns okTy WFA All2 VA AV PV RV d_ReportBack trod_len list_cons list_nil all2_cons all2_nil primsOk nG gFact gOf gPow gSyn gRng wf_i64 wf_u8 wfa_int wfa_ints)
set_option linter.unusedVariables false

theorem own : ownKnob Tryd.prog.godebug = none := by kernel_rfl
theorem laidOut : laidOutB Tryd.prog = true := by kernel_rfl
theorem fns : okFns E = true := by kernel_rfl
theorem mixed : E.P.follows .mixedOrders = true := by kernel_rfl

set_option maxRecDepth 100000 in
theorem answer (avs : List AV) (h0 : All2 (WFA Tryd.prog) Tryd.f7.params.toList avs) : denC E 7 avs [] = some ([RV.p (PV.bool true)], []) := by
  have h : All2 (WFA Tryd.prog) [22, 3, 5] avs := h0
  clear h0
  obtain ⟨a0, r0, rfl, h0, k0⟩ := all2_cons h
  obtain ⟨a1, r1, rfl, h1, k1⟩ := all2_cons k0
  obtain ⟨a2, r2, rfl, h2, k2⟩ := all2_cons k1
  obtain rfl := all2_nil k2
  obtain ⟨x0, rfl, w0, v0⟩ := wfa_ints (e := 3) (kd := .i64) (by kernel_rfl) (by kernel_rfl) h0
  obtain ⟨x1, rfl, w1⟩ := wfa_int (kd := .i64) (by kernel_rfl) h1
  obtain ⟨x2, rfl, w2⟩ := wfa_int (kd := .u8) (by kernel_rfl) h2
  exact d_ReportBack x0 w0 (fun n hn => wf_i64 (v0 n hn)) x1 (wf_i64 w1) x2 (wf_u8 w2)

theorem var_heap {P : Program} {w : World} {n : String} {g : Nat} {cs : Array Value} (hg : P.globalNamed n = some g) (h : w.var? P n = some cs) : ∃ e fr, w.heap[g]? = some (.cells cs e fr) := by
  unfold World.var? at h
  rw [hg] at h
  have h : (match w.heap[g]? with | some (.cells cs _ _) => some cs | _ => none) = some cs := h
  split at h
  · rename_i c e fr hw; cases h; exact ⟨e, fr, hw⟩
  · cases h

theorem row_sentinel (u : TypeId) (h : Tryd.prog.typeName? 3 u = some "*errors.errorString") : u = 141 :=
  typeName_ptr_named (nm := "errors.errorString") (by rw [show "*" ++ "errors.errorString" = "*errors.errorString" by decide]; kernel_rfl) (by kernel_rfl) (by decide) u (by rw [show "*" ++ "errors.errorString" = "*errors.errorString" by decide]; exact h)

set_option maxRecDepth 100000 in
theorem gr_of {W : World} (hsh : W.ShapedOpen Tryd.prog) (hl : laidMetH Tryd.prog Rows.reportBackRow.laid W) : nG ≤ W.heap.size ∧ gFact (gOf W) := by
  have hl0 : laidMet Tryd.prog Rows.reportBackRow.laid W := hl
  have hl1 := hl0.tail
  have hl2 := hl1.tail
  have hl3 := hl2.tail
  have hl4 := hl3.tail
  have hl5 := hl4.tail
  obtain ⟨egPow, frgPow, hgPow⟩ := var_heap (g := gPow) (by kernel_rfl) (Lib.tabIs_of_head (rest := Rows.reportBackRow.laid.drop 3) (k := .u64) (zs := Lib.pow10Tab) (name := "internal/strconv.uint64pow10") (g := gPow) (t := 135) (e := 27) (by kernel_rfl) (by kernel_rfl) Tryd.underlying135 Tryd.underlying27 (by kernel_rfl) (by kernel_rfl) hl2)
  have atgPow : gOf W gPow = _ := (show gOf W gPow = W.heap[gPow]? from if_pos (by decide)).trans hgPow
  obtain ⟨agSyn, sgSyn, vgSyn, _⟩ := laid_sentinel (n := "strconv.ErrSyntax") (g := gSyn) hl4 (by kernel_rfl) (by kernel_rfl) Tryd.underlying76 row_sentinel Tryd.underlying141 Tryd.underlying143 rfl rfl Tryd.underlying9 (by kernel_rfl) (by kernel_rfl)
  obtain ⟨egSyn, frgSyn, hgSyn⟩ := var_heap (g := gSyn) (by kernel_rfl) vgSyn
  have atgSyn : gOf W gSyn = _ := (show gOf W gSyn = W.heap[gSyn]? from if_pos (by decide)).trans hgSyn
  obtain ⟨agRng, sgRng, vgRng, _⟩ := laid_sentinel (n := "strconv.ErrRange") (g := gRng) hl3 (by kernel_rfl) (by kernel_rfl) Tryd.underlying76 row_sentinel Tryd.underlying141 Tryd.underlying143 rfl rfl Tryd.underlying9 (by kernel_rfl) (by kernel_rfl)
  obtain ⟨egRng, frgRng, hgRng⟩ := var_heap (g := gRng) (by kernel_rfl) vgRng
  have atgRng : gOf W gRng = _ := (show gOf W gRng = W.heap[gRng]? from if_pos (by decide)).trans hgRng
  exact ⟨(Array.getElem?_eq_some_iff.1 hgPow).1, ⟨⟨egPow, frgPow, atgPow⟩, ⟨_, _, egSyn, frgSyn, atgSyn⟩, ⟨_, _, egRng, frgRng, atgRng⟩⟩⟩

noncomputable def start (os : Os) : World := World.doorLaid Tryd.prog 200 os

set_option maxRecDepth 1000000 in
theorem start_met (os : Os) (args : Array Value) : laidMetH Tryd.prog Rows.reportBackRow.laid ((start os).forCall (fun _ _ => 0) ⟨#[], args, []⟩).memory :=
  laidMetH_of_parts3 (fuel := 8) (laidMet_of_run' 8 (by kernel_rfl) (by kernel_rfl)) (by kernel_rfl) (by kernel_rfl)

set_option maxRecDepth 1000000 in
theorem lifted (os : Os) (started : os.Started) (H : Type) (enc : TypeId × Value → H) :
    ReturnsInHanded {} Tryd.checked os 7 .any (fun w args => (Rows.reportBackSpec.pre enc Tryd.prog Tryd.f7 Rows.reportBackRow.domain false w args ∧ laidMetH Tryd.prog Rows.reportBackRow.laid w) ∧ sizedMet enc Tryd.prog Tryd.f7 (OpenSpec.ofChange Rows.reportBackSpec) false w args) (Rows.reportBackSpec.post enc Tryd.prog Tryd.f7 false true false false) := by
  refine returns_of_law (C := Tryd.checked) (X := fun w _ => laidMetH Tryd.prog Rows.reportBackRow.laid w) (fun _ _ _ hh h => h.of_heap hh) own started (by kernel_rfl) Tryd.func7
    (ChangeSpec.witness_shaped (enc := enc) (C := Tryd.checked) (os := os) (X := fun w _ => laidMetH Tryd.prog Rows.reportBackRow.laid w) false (start os) #[.slice none 0 0, .int .i64 0, .int .u8 0] 8 rfl (World.shaped_of_RefB (by kernel_rfl) (by kernel_rfl)) (by kernel_rfl) (by kernel_rfl) (by kernel_rfl) (start_met os _)) ?_
  intro W base args ds gs before hval0 hW hX hsh
  have hval : ∀ (j : Nat) t v, Tryd.f7.params[j]? = some t → args[j]? = some v → Value.okWide Tryd.prog W .any base t v := hval0
  have hW' := hW
  obtain ⟨p, q, hA, hV, rfl, hfz, hnd⟩ := hW
  obtain ⟨avs, ha, hwf⟩ := args_in (P := Tryd.prog) (O := fun _ => False) (fun _ h => h) (ts := Tryd.f7.params.toList) (by kernel_rfl) hA (fun j t v ht hv => hval j t v (by simpa using ht) (by simpa using hv))
  obtain ⟨rfl, rfl⟩ := trodVars_none hV
  refine (law_calls primsOk fns mixed (f := 7) (by kernel_rfl) (gr_of hsh hX) ha (answer avs hwf)).mono fun e W' ⟨he, bel⟩ => ?_
  subst he
  have hstay := args_stay laidOut bel (by kernel_rfl) hA
  have hlen : ds.length = 3 := trod_len hA
  obtain ⟨d0, ds0, rfl, l0⟩ := list_cons (n := 2) hlen
  obtain ⟨d1, ds1, rfl, l1⟩ := list_cons (n := 1) l0
  obtain ⟨d2, ds2, rfl, l2⟩ := list_cons (n := 0) l1
  obtain rfl := list_nil l2
  exact ⟨_, rfl, _, _, _, [], _, [], hW', trodAll_mk1 (shut_bool Tryd.underlying4 _), hstay, rfl, bel.frame _, fun h => by cases h⟩

theorem over : Rows.reportBackRow.holds Tryd.pinned (OpenSpec.ofChange Rows.reportBackSpec) :=
  OpenClaim.holds_of_wide 7 Tryd.f7 rfl rfl rfl rfl rfl rfl rfl ⟨rfl, rfl, rfl, rfl, rfl⟩ rfl rfl rfl rfl rfl (by kernel_rfl) Tryd.func7 (by kernel_rfl)
    (of_decide_eq_true (by kernel_rfl)) (by unfold Func.isWrapper; first | (rw [if_pos (by decide +kernel)]; kernel_rfl) | (rw [if_neg (by decide +kernel)]; exact ⟨rfl, rfl⟩))
    (fun os started H enc _ => lifted os started H enc)

theorem proved : Rows.ReportBackCardSaid :=
  Claim7.holds_tied_plain_at .later [] [.data, .data, .data, .sentinel, .sentinel] true (true, "e9632802f29260add70b1d536e757719341045de7551f4d5eb96170ac5103705") true
    over (fun _ h => by cases h) (by kernel_rfl) (fun _ h => by cases h) reportBack_row_tie rfl ⟨rfl, rfl⟩ (by kernel_rfl) rfl
    (fun f fn hf hfn => by
      obtain rfl : f = 7 := Option.some.inj ((show Tryd.prog.funcNamed "dynpos/dynposlaw40.ReportBack" = some 7 by kernel_rfl).symm.trans hf) |>.symm
      obtain rfl : fn = Tryd.f7 := (Option.some.inj (Tryd.func7.symm.trans hfn)).symm
      refine ⟨by kernel_rfl, fun j t ht => ?_⟩
      have hm : t ∈ [22, 3, 5] := by
        have : t ∈ Tryd.f7.params.toList := Array.mem_toList_iff.2 (Array.mem_of_getElem? ht)
        exact this
      have hall : ([22, 3, 5].all fun u => !Tryd.prog.wantsStandIn u) = true := by kernel_rfl
      exact (show Tryd.prog.wantsStandIn t = false by simpa using List.all_eq_true.1 hall t hm))
    (by kernel_rfl)

end Go.Proofs.YtgdeaamklodkkaaDoor.reportBack
