/- The statement 'TopTelegrams' is true of the given program: for every input the call returns true, and each argument reads afterwards as it read before. Conditions: the listed tables of the library hold what the row lists, tied to the program's text. -/
import Derived.Test.YtpnpdkgdgfkpfaaGreatDoorRows
import Derived.Test.YtpnpdkgdgfkpfaaGreatDoorCards
import Derived.Test.YtpnpdkgdgfkpfaaGreatDoorTie
import Derived.Test.YtpnpdkgdgfkpfaaGreatDoorPrimsS
import Derived.Test.YtpnpdkgdgfkpfaaGreatDoorDoorW
import Derived.Test.YtpnpdkgdgfkpfaaGreatDoorTopTelegrams
import Derived.WalkKit
import Derived.ProofKit
import Derived.ShutString
import Derived.SevenTiedAt
import Derived.Stop.LaidErr
import Derived.Lay
import Derived.MakeChecks
namespace Go.Proofs.YtpnpdkgdgfkpfaaGreatDoor.topTelegrams
open Go.ChangeShapes Go.WideShapes Go.ChangeAt Go.RowKit
open Go.Proofs.YtpnpdkgdgfkpfaaGreatDoor (returns_of_law tabled)
open Go.Proofs.YtpnpdkgdgfkpfaaGreatDoor.Vm (E denC law_calls args_in args_stay okFns okTy WFA All2 VA AV PV RV d_TopTelegrams trod_len list_cons list_nil all2_cons all2_nil primsOk nG gFact gOf gMaxLen gPow gSyn gRng gTz wf_i64 wfa_ints)
set_option linter.unusedVariables false

theorem own : ownKnob Tryz.prog.godebug = none := by kernel_rfl
theorem laidOut : laidOutB Tryz.prog = true := by kernel_rfl
theorem fns : okFns E = true := by kernel_rfl
theorem mixed : E.P.follows .mixedOrders = true := by kernel_rfl

set_option maxRecDepth 100000 in
theorem answer (avs : List AV) (h0 : All2 (WFA Tryz.prog) Tryz.f3.params.toList avs) : denC E 3 avs [] = some ([RV.p (PV.bool true)], []) := by
  have h : All2 (WFA Tryz.prog) [22] avs := h0
  clear h0
  obtain ⟨a0, r0, rfl, h0, k0⟩ := all2_cons h
  obtain rfl := all2_nil k0
  obtain ⟨x0, rfl, w0, v0⟩ := wfa_ints (e := 3) (kd := .i64) (by kernel_rfl) (by kernel_rfl) h0
  exact d_TopTelegrams x0 w0 (fun n hn => wf_i64 (v0 n hn))

theorem var_heap {P : Program} {w : World} {n : String} {g : Nat} {cs : Array Value} (hg : P.globalNamed n = some g) (h : w.var? P n = some cs) : ∃ e fr, w.heap[g]? = some (.cells cs e fr) := by
  unfold World.var? at h
  rw [hg] at h
  have h : (match w.heap[g]? with | some (.cells cs _ _) => some cs | _ => none) = some cs := h
  split at h
  · rename_i c e fr hw; cases h; exact ⟨e, fr, hw⟩
  · cases h

theorem row_sentinel (u : TypeId) (h : Tryz.prog.typeName? 3 u = some "*errors.errorString") : u = 217 :=
  typeName_ptr_named (nm := "errors.errorString") (by rw [show "*" ++ "errors.errorString" = "*errors.errorString" by decide]; kernel_rfl) (by kernel_rfl) (by decide) u (by rw [show "*" ++ "errors.errorString" = "*errors.errorString" by decide]; exact h)

set_option maxRecDepth 100000 in
theorem gr_of {W : World} (hsh : W.ShapedOpen Tryz.prog) (hl : laidMetH Tryz.prog Rows.topTelegramsRow.laid W) : nG ≤ W.heap.size ∧ gFact (gOf W) := by
  have hl0 : laidMet Tryz.prog Rows.topTelegramsRow.laid W := hl
  have hl1 := hl0.tail
  have hl2 := hl1.tail
  have hl3 := hl2.tail
  have hl4 := hl3.tail
  have hl5 := hl4.tail
  have hl6 := hl5.tail
  have hl7 := hl6.tail
  obtain ⟨mgMaxLen, hmgMaxLen⟩ := Tryz.lays146.s1_3 W hsh
  obtain ⟨cgMaxLen, egMaxLen, frgMaxLen, hgMaxLen, hcgMaxLen⟩ : ∃ c e fr, W.heap[gMaxLen]? = some (.cells c e fr) ∧ c[0]? = some (.int .i64 mgMaxLen) := by
    have hm : W.cell? ⟨gMaxLen, 0, none⟩ = some (.int .i64 mgMaxLen) := hmgMaxLen
    unfold World.cell? at hm
    split at hm
    · rename_i c e fr hw; exact ⟨c, e, fr, hw, by simpa using hm⟩
    · cases hm
  have atgMaxLen : gOf W gMaxLen = _ := (show gOf W gMaxLen = W.heap[gMaxLen]? from if_pos (by decide)).trans hgMaxLen
  obtain ⟨egPow, frgPow, hgPow⟩ := var_heap (g := gPow) (by kernel_rfl) (Lib.tabIs_of_head (rest := Rows.topTelegramsRow.laid.drop 3) (k := .u64) (zs := Lib.pow10Tab) (name := "internal/strconv.uint64pow10") (g := gPow) (t := 221) (e := 190) (by kernel_rfl) (by kernel_rfl) Tryz.underlying221 Tryz.underlying190 (by kernel_rfl) (by kernel_rfl) hl2)
  have atgPow : gOf W gPow = _ := (show gOf W gPow = W.heap[gPow]? from if_pos (by decide)).trans hgPow
  obtain ⟨agSyn, sgSyn, vgSyn, _⟩ := laid_sentinel (n := "strconv.ErrSyntax") (g := gSyn) hl5 (by kernel_rfl) (by kernel_rfl) Tryz.underlying124 row_sentinel Tryz.underlying217 Tryz.underlying219 rfl rfl Tryz.underlying9 (by kernel_rfl) (by kernel_rfl)
  obtain ⟨egSyn, frgSyn, hgSyn⟩ := var_heap (g := gSyn) (by kernel_rfl) vgSyn
  have atgSyn : gOf W gSyn = _ := (show gOf W gSyn = W.heap[gSyn]? from if_pos (by decide)).trans hgSyn
  obtain ⟨agRng, sgRng, vgRng, _⟩ := laid_sentinel (n := "strconv.ErrRange") (g := gRng) hl4 (by kernel_rfl) (by kernel_rfl) Tryz.underlying124 row_sentinel Tryz.underlying217 Tryz.underlying219 rfl rfl Tryz.underlying9 (by kernel_rfl) (by kernel_rfl)
  obtain ⟨egRng, frgRng, hgRng⟩ := var_heap (g := gRng) (by kernel_rfl) vgRng
  have atgRng : gOf W gRng = _ := (show gOf W gRng = W.heap[gRng]? from if_pos (by decide)).trans hgRng
  obtain ⟨egTz, frgTz, hgTz⟩ := var_heap (g := gTz) (by kernel_rfl) (Lib.tabIs_of_head (rest := Rows.topTelegramsRow.laid.drop 2) (k := .u8) (zs := Lib.deBruijn64tab.map Int.ofNat) (name := "math/bits.deBruijn64tab") (g := gTz) (t := 224) (e := 5) (by kernel_rfl) (by kernel_rfl) Tryz.underlying224 Tryz.underlying5 (by kernel_rfl) (by kernel_rfl) hl1)
  have atgTz : gOf W gTz = _ := (show gOf W gTz = W.heap[gTz]? from if_pos (by decide)).trans hgTz
  exact ⟨(Array.getElem?_eq_some_iff.1 hgTz).1, ⟨⟨cgMaxLen, egMaxLen, frgMaxLen, mgMaxLen, atgMaxLen, hcgMaxLen⟩, ⟨egPow, frgPow, atgPow⟩, ⟨_, _, egSyn, frgSyn, atgSyn⟩, ⟨_, _, egRng, frgRng, atgRng⟩, ⟨egTz, frgTz, atgTz⟩⟩⟩

noncomputable def start (os : Os) : World := World.laidAll Tryz.prog os Rows.topTelegramsRow.laid

set_option maxRecDepth 1000000 in
theorem start_met (os : Os) (args : Array Value) : laidMetH Tryz.prog Rows.topTelegramsRow.laid ((start os).forCall (fun _ _ => 0) ⟨#[], args, []⟩).memory :=
  by unfold start; rw [MakeChecks.laidMetH_plain _ _ _ (by kernel_rfl)]; exact laidMet_laidAll _ (by kernel_rfl) (by kernel_rfl)

set_option maxRecDepth 1000000 in
theorem lifted (os : Os) (started : os.Started) (H : Type) (enc : TypeId × Value → H) :
    ReturnsInHanded {} Tryz.checked os 3 .any (fun w args => (Rows.topTelegramsSpec.pre enc Tryz.prog Tryz.f3 Rows.topTelegramsRow.domain false w args ∧ laidMetH Tryz.prog Rows.topTelegramsRow.laid w) ∧ sizedMet enc Tryz.prog Tryz.f3 (OpenSpec.ofChange Rows.topTelegramsSpec) false w args) (Rows.topTelegramsSpec.post enc Tryz.prog Tryz.f3 false true false false) := by
  refine returns_of_law (C := Tryz.checked) (X := fun w _ => laidMetH Tryz.prog Rows.topTelegramsRow.laid w) (fun _ _ _ hh h => h.of_heap hh) own started (by kernel_rfl) Tryz.func3
    (ChangeSpec.witness_shaped (enc := enc) (C := Tryz.checked) (os := os) (X := fun w _ => laidMetH Tryz.prog Rows.topTelegramsRow.laid w) false (start os) #[.slice none 0 0] 8 (World.laidAll_os _ _ _) (World.shaped_of_ZipB (by kernel_rfl) (by kernel_rfl)) (by kernel_rfl) (by kernel_rfl) (by kernel_rfl) (start_met os _)) ?_
  intro W base args ds gs before hval0 hW hX hsh
  have hval : ∀ (j : Nat) t v, Tryz.f3.params[j]? = some t → args[j]? = some v → Value.okWide Tryz.prog W .any base t v := hval0
  have hW' := hW
  obtain ⟨p, q, hA, hV, rfl, hfz, hnd⟩ := hW
  obtain ⟨avs, ha, hwf⟩ := args_in (P := Tryz.prog) (O := fun _ => False) (fun _ h => h) (ts := Tryz.f3.params.toList) (by kernel_rfl) hA (fun j t v ht hv => hval j t v (by simpa using ht) (by simpa using hv))
  obtain ⟨rfl, rfl⟩ := trodVars_none hV
  refine (law_calls primsOk fns mixed (f := 3) (by kernel_rfl) (gr_of hsh hX) ha (answer avs hwf)).mono fun e W' ⟨he, bel⟩ => ?_
  subst he
  have hstay := args_stay laidOut bel (by kernel_rfl) hA
  have hlen : ds.length = 1 := trod_len hA
  obtain ⟨d0, ds0, rfl, l0⟩ := list_cons (n := 0) hlen
  obtain rfl := list_nil l0
  exact ⟨_, rfl, _, _, _, [], _, [], hW', trodAll_mk1 (shut_bool Tryz.underlying4 _), hstay, rfl, bel.frame _, fun h => by cases h⟩

theorem over : Rows.topTelegramsRow.holds Tryz.pinned (OpenSpec.ofChange Rows.topTelegramsSpec) :=
  OpenClaim.holds_of_wide 3 Tryz.f3 rfl rfl rfl rfl rfl rfl rfl ⟨rfl, rfl, rfl, rfl, rfl⟩ rfl rfl rfl rfl rfl (by kernel_rfl) Tryz.func3 (by kernel_rfl)
    (of_decide_eq_true (by kernel_rfl)) (by unfold Func.isWrapper; first | (rw [if_pos (by decide +kernel)]; kernel_rfl) | (rw [if_neg (by decide +kernel)]; exact ⟨rfl, rfl⟩))
    (fun os started H enc _ => lifted os started H enc)

theorem proved : Rows.TopTelegramsCardSaid :=
  Claim7.holds_tied_plain_at .later [] [.data, .data, .data, .data, .sentinel, .sentinel, .pinned] true (true, "cae62a4ef42809553f7b415b400a45a59fbc7ecd1d587685e982f7609359ffee") true
    over (fun _ h => by cases h) (by kernel_rfl) (fun _ h => by cases h) topTelegrams_row_tie rfl ⟨rfl, rfl⟩ (by kernel_rfl) rfl
    (fun f fn hf hfn => by
      obtain rfl : f = 3 := Option.some.inj ((show Tryz.prog.funcNamed "dynpos/dynpostop.TopTelegrams" = some 3 by kernel_rfl).symm.trans hf) |>.symm
      obtain rfl : fn = Tryz.f3 := (Option.some.inj (Tryz.func3.symm.trans hfn)).symm
      refine ⟨by kernel_rfl, fun j t ht => ?_⟩
      have hm : t ∈ [22] := by
        have : t ∈ Tryz.f3.params.toList := Array.mem_toList_iff.2 (Array.mem_of_getElem? ht)
        exact this
      have hall : ([22].all fun u => !Tryz.prog.wantsStandIn u) = true := by kernel_rfl
      exact (show Tryz.prog.wantsStandIn t = false by simpa using List.all_eq_true.1 hall t hm))
    (by kernel_rfl)

end Go.Proofs.YtpnpdkgdgfkpfaaGreatDoor.topTelegrams
