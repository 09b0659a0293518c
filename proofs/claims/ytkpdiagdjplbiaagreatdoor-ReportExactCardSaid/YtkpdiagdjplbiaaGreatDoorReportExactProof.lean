/- The statement 'ReportExact' is true of the given program: for every input the call returns true, and each argument reads afterwards as it read before. Conditions: the listed tables of the library hold what the row lists, tied to the program's text. -/
import Derived.Test.YtkpdiagdjplbiaaGreatDoorRows
import Derived.Test.YtkpdiagdjplbiaaGreatDoorCards
import Derived.Test.YtkpdiagdjplbiaaGreatDoorTie
import Derived.Test.YtkpdiagdjplbiaaGreatDoorPrimsS
import Derived.Test.YtkpdiagdjplbiaaGreatDoorDoorW
import Derived.Test.YtkpdiagdjplbiaaGreatDoorReportExact
import Derived.WalkKit
import Derived.ProofKit
import Derived.ShutString
import Derived.SevenTiedAt
import Derived.Stop.LaidErr
namespace Go.Proofs.YtkpdiagdjplbiaaGreatDoor.reportExact
open Go.ChangeShapes Go.WideShapes Go.ChangeAt Go.RowKit
open Go.Proofs.YtkpdiagdjplbiaaGreatDoor (returns_of_law tabled)
open Go.Proofs.YtkpdiagdjplbiaaGreatDoor.Vm (E denC law_calls args_in args_stay okFns okTy WFA All2 VA AV PV RV d_ReportExact trod_len list_cons list_nil all2_cons all2_nil primsOk nG gFact gOf gPow gSyn gRng wf_i64 wfa_int wfa_ints wfa_str)
set_option linter.unusedVariables false

theorem own : ownKnob Tryz.prog.godebug = none := by kernel_rfl
theorem laidOut : laidOutB Tryz.prog = true := by kernel_rfl
theorem fns : okFns E = true := by kernel_rfl
theorem mixed : E.P.follows .mixedOrders = true := by kernel_rfl

set_option maxRecDepth 100000 in
theorem answer (avs : List AV) (h0 : All2 (WFA Tryz.prog) Tryz.f3.params.toList avs) : denC E 3 avs [] = some ([RV.p (PV.bool true)], []) := by
  have h : All2 (WFA Tryz.prog) [22, 26, 29, 29, 3, 3, 3, 9] avs := h0
  clear h0
  obtain ⟨a0, r0, rfl, h0, k0⟩ := all2_cons h
  obtain ⟨a1, r1, rfl, h1, k1⟩ := all2_cons k0
  obtain ⟨a2, r2, rfl, h2, k2⟩ := all2_cons k1
  obtain ⟨a3, r3, rfl, h3, k3⟩ := all2_cons k2
  obtain ⟨a4, r4, rfl, h4, k4⟩ := all2_cons k3
  obtain ⟨a5, r5, rfl, h5, k5⟩ := all2_cons k4
  obtain ⟨a6, r6, rfl, h6, k6⟩ := all2_cons k5
  obtain ⟨a7, r7, rfl, h7, k7⟩ := all2_cons k6
  obtain rfl := all2_nil k7
  obtain ⟨x0, rfl, w0, v0⟩ := wfa_ints (e := 3) (kd := .i64) (by kernel_rfl) (by kernel_rfl) h0
  obtain ⟨x4, rfl, w4⟩ := wfa_int (kd := .i64) (by kernel_rfl) h4
  obtain ⟨x5, rfl, w5⟩ := wfa_int (kd := .i64) (by kernel_rfl) h5
  obtain ⟨x6, rfl, w6⟩ := wfa_int (kd := .i64) (by kernel_rfl) h6
  obtain ⟨x7, rfl, w7⟩ := wfa_str (by kernel_rfl) h7
  exact d_ReportExact x0 w0 (fun n hn => wf_i64 (v0 n hn)) a1 h1 a2 h2 a3 h3 x4 (wf_i64 w4) x5 (wf_i64 w5) x6 (wf_i64 w6) x7 w7

theorem var_heap {P : Program} {w : World} {n : String} {g : Nat} {cs : Array Value} (hg : P.globalNamed n = some g) (h : w.var? P n = some cs) : ∃ e fr, w.heap[g]? = some (.cells cs e fr) := by
  unfold World.var? at h
  rw [hg] at h
  have h : (match w.heap[g]? with | some (.cells cs _ _) => some cs | _ => none) = some cs := h
  split at h
  · rename_i c e fr hw; cases h; exact ⟨e, fr, hw⟩
  · cases h

theorem row_sentinel (u : TypeId) (h : Tryz.prog.typeName? 3 u = some "*errors.errorString") : u = 149 :=
  typeName_ptr_named (nm := "errors.errorString") (by rw [show "*" ++ "errors.errorString" = "*errors.errorString" by decide]; kernel_rfl) (by kernel_rfl) (by decide) u (by rw [show "*" ++ "errors.errorString" = "*errors.errorString" by decide]; exact h)

set_option maxRecDepth 100000 in
theorem gr_of {W : World} (hsh : W.ShapedOpen Tryz.prog) (hl : laidMetH Tryz.prog Rows.reportExactRow.laid W) : nG ≤ W.heap.size ∧ gFact (gOf W) := by
  have hl0 : laidMet Tryz.prog Rows.reportExactRow.laid W := hl
  have hl1 := hl0.tail
  have hl2 := hl1.tail
  have hl3 := hl2.tail
  have hl4 := hl3.tail
  have hl5 := hl4.tail
  obtain ⟨egPow, frgPow, hgPow⟩ := var_heap (g := gPow) (by kernel_rfl) (Lib.tabIs_of_head (rest := Rows.reportExactRow.laid.drop 3) (k := .u64) (zs := Lib.pow10Tab) (name := "internal/strconv.uint64pow10") (g := gPow) (t := 143) (e := 24) (by kernel_rfl) (by kernel_rfl) Tryz.underlying143 Tryz.underlying24 (by kernel_rfl) (by kernel_rfl) hl2)
  have atgPow : gOf W gPow = _ := (show gOf W gPow = W.heap[gPow]? from if_pos (by decide)).trans hgPow
  obtain ⟨agSyn, sgSyn, vgSyn, _⟩ := laid_sentinel (n := "strconv.ErrSyntax") (g := gSyn) hl4 (by kernel_rfl) (by kernel_rfl) Tryz.underlying75 row_sentinel Tryz.underlying149 Tryz.underlying151 rfl rfl Tryz.underlying9 (by kernel_rfl) (by kernel_rfl)
  obtain ⟨egSyn, frgSyn, hgSyn⟩ := var_heap (g := gSyn) (by kernel_rfl) vgSyn
  have atgSyn : gOf W gSyn = _ := (show gOf W gSyn = W.heap[gSyn]? from if_pos (by decide)).trans hgSyn
  obtain ⟨agRng, sgRng, vgRng, _⟩ := laid_sentinel (n := "strconv.ErrRange") (g := gRng) hl3 (by kernel_rfl) (by kernel_rfl) Tryz.underlying75 row_sentinel Tryz.underlying149 Tryz.underlying151 rfl rfl Tryz.underlying9 (by kernel_rfl) (by kernel_rfl)
  obtain ⟨egRng, frgRng, hgRng⟩ := var_heap (g := gRng) (by kernel_rfl) vgRng
  have atgRng : gOf W gRng = _ := (show gOf W gRng = W.heap[gRng]? from if_pos (by decide)).trans hgRng
  exact ⟨(Array.getElem?_eq_some_iff.1 hgPow).1, ⟨⟨egPow, frgPow, atgPow⟩, ⟨_, _, egSyn, frgSyn, atgSyn⟩, ⟨_, _, egRng, frgRng, atgRng⟩⟩⟩

noncomputable def start (os : Os) : World := World.doorLaid Tryz.prog 200 os

set_option maxRecDepth 1000000 in
theorem start_met (os : Os) (args : Array Value) : laidMetH Tryz.prog Rows.reportExactRow.laid ((start os).forCall (fun _ _ => 0) ⟨#[], args, []⟩).memory :=
  laidMetH_of_parts3 (fuel := 8) (laidMet_of_run' 8 (by kernel_rfl) (by kernel_rfl)) (by kernel_rfl) (by kernel_rfl)

set_option maxRecDepth 1000000 in
theorem lifted (os : Os) (started : os.Started) (H : Type) (enc : TypeId × Value → H) :
    ReturnsInHanded {} Tryz.checked os 3 .any (fun w args => (Rows.reportExactSpec.pre enc Tryz.prog Tryz.f3 Rows.reportExactRow.domain false w args ∧ laidMetH Tryz.prog Rows.reportExactRow.laid w) ∧ sizedMet enc Tryz.prog Tryz.f3 (OpenSpec.ofChange Rows.reportExactSpec) false w args) (Rows.reportExactSpec.post enc Tryz.prog Tryz.f3 false true false false) := by
  refine returns_of_law (C := Tryz.checked) (X := fun w _ => laidMetH Tryz.prog Rows.reportExactRow.laid w) (fun _ _ _ hh h => h.of_heap hh) own started (by kernel_rfl) Tryz.func3
    (ChangeSpec.witness_shaped (enc := enc) (C := Tryz.checked) (os := os) (X := fun w _ => laidMetH Tryz.prog Rows.reportExactRow.laid w) false (start os) #[.slice none 0 0, .agg #[.slice none 0 0, .int .u64 0], .agg #[.int .i64 0, .int .i64 0, .int .i64 0, .int .i64 0, .int .i64 0, .int .i64 0, .int .i64 0], .agg #[.int .i64 0, .int .i64 0, .int .i64 0, .int .i64 0, .int .i64 0, .int .i64 0, .int .i64 0], .int .i64 0, .int .i64 0, .int .i64 0, .string ByteArray.empty] 8 rfl (World.shaped_of_RefB (by kernel_rfl) (by kernel_rfl)) (by kernel_rfl) (by kernel_rfl) (by kernel_rfl) (start_met os _)) ?_
  intro W base args ds gs before hval0 hW hX hsh
  have hval : ∀ (j : Nat) t v, Tryz.f3.params[j]? = some t → args[j]? = some v → Value.okWide Tryz.prog W .any base t v := hval0
  have hW' := hW
  obtain ⟨p, q, hA, hV, rfl, hfz, hnd⟩ := hW
  obtain ⟨avs, ha, hwf⟩ := args_in (P := Tryz.prog) (O := fun _ => False) (fun _ h => h) (ts := Tryz.f3.params.toList) (by kernel_rfl) hA (fun j t v ht hv => hval j t v (by simpa using ht) (by simpa using hv))
  obtain ⟨rfl, rfl⟩ := trodVars_none hV
  refine (law_calls primsOk fns mixed (f := 3) (by kernel_rfl) (gr_of hsh hX) ha (answer avs hwf)).mono fun e W' ⟨he, bel⟩ => ?_
  subst he
  have hstay := args_stay laidOut bel (by kernel_rfl) hA
  have hlen : ds.length = 8 := trod_len hA
  obtain ⟨d0, ds0, rfl, l0⟩ := list_cons (n := 7) hlen
  obtain ⟨d1, ds1, rfl, l1⟩ := list_cons (n := 6) l0
  obtain ⟨d2, ds2, rfl, l2⟩ := list_cons (n := 5) l1
  obtain ⟨d3, ds3, rfl, l3⟩ := list_cons (n := 4) l2
  obtain ⟨d4, ds4, rfl, l4⟩ := list_cons (n := 3) l3
  obtain ⟨d5, ds5, rfl, l5⟩ := list_cons (n := 2) l4
  obtain ⟨d6, ds6, rfl, l6⟩ := list_cons (n := 1) l5
  obtain ⟨d7, ds7, rfl, l7⟩ := list_cons (n := 0) l6
  obtain rfl := list_nil l7
  exact ⟨_, rfl, _, _, _, [], _, [], hW', trodAll_mk1 (shut_bool Tryz.underlying4 _), hstay, rfl, bel.frame _, fun h => by cases h⟩

theorem over : Rows.reportExactRow.holds Tryz.pinned (OpenSpec.ofChange Rows.reportExactSpec) :=
  OpenClaim.holds_of_wide 3 Tryz.f3 rfl rfl rfl rfl rfl rfl rfl ⟨rfl, rfl, rfl, rfl, rfl⟩ rfl rfl rfl rfl rfl (by kernel_rfl) Tryz.func3 (by kernel_rfl)
    (of_decide_eq_true (by kernel_rfl)) (by unfold Func.isWrapper; first | (rw [if_pos (by decide +kernel)]; kernel_rfl) | (rw [if_neg (by decide +kernel)]; exact ⟨rfl, rfl⟩))
    (fun os started H enc _ => lifted os started H enc)

theorem proved : Rows.ReportExactCardSaid :=
  Claim7.holds_tied_plain_at .later [] [.data, .data, .data, .sentinel, .sentinel] true (true, "28db2b62ec1eb75a8d19e59050ad561ed567f90dad536af8936f0d875606b459") true
    over (fun _ h => by cases h) (by kernel_rfl) (fun _ h => by cases h) reportExact_row_tie rfl ⟨rfl, rfl⟩ (by kernel_rfl) rfl
    (fun f fn hf hfn => by
      obtain rfl : f = 3 := Option.some.inj ((show Tryz.prog.funcNamed "dynpos/dynposlaw40.ReportExact" = some 3 by kernel_rfl).symm.trans hf) |>.symm
      obtain rfl : fn = Tryz.f3 := (Option.some.inj (Tryz.func3.symm.trans hfn)).symm
      refine ⟨by kernel_rfl, fun j t ht => ?_⟩
      have hm : t ∈ [22, 26, 29, 29, 3, 3, 3, 9] := by
        have : t ∈ Tryz.f3.params.toList := Array.mem_toList_iff.2 (Array.mem_of_getElem? ht)
        exact this
      have hall : ([22, 26, 29, 29, 3, 3, 3, 9].all fun u => !Tryz.prog.wantsStandIn u) = true := by kernel_rfl
      exact (show Tryz.prog.wantsStandIn t = false by simpa using List.all_eq_true.1 hall t hm))
    (by kernel_rfl)

end Go.Proofs.YtkpdiagdjplbiaaGreatDoor.reportExact
