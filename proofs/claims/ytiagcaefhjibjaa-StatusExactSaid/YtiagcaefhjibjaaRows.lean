/-
  No cell of these rows narrows 'for every input' (looked for: loops, veiled, ifaces, maps, wideKeys, modest, calm, conditions, laid).
  DERIVED. THE GIVEN ROWS OF THIS SEAT. 6 by the template 'for every input the law returns true; each argument reads behind the call as it read before'; 0 by the template 'total and deterministic' (their statements: YtiagcaefhjibjaaTotals.lean).
  GIVEN WITH THE SEED: the statements are not yours to turn. If you find one false, say at which input.
  Laid BY PROGRAM, IN A SANDBOX (cutbox-rows.mjs): the forced cells as the released guide's own fill.sh prints them over the translation 5116b411de17acf6… (all of the seat's roots in one cut). By AI agents, Wed Nov 11 2026. No macro, syntax, notation, axiom, sorry.
-/
import Derived.Test.YtiagcaefhjibjaaChecked
import GoSem.Claim
import GoSem.ClaimJoined
import GoSem.ClaimMapViews
import Derived.JoinedTies
import Derived.KernelRfl
namespace Go.Proofs.Ytiagcaefhjibjaa
/- THE CELL 'sum', in the pinned program and in every row, IS THE sha256 OF THE DUMP (.gsa) THAT YtiagcaefhjibjaaProg.lean LOADS. Nothing in Lean hashes anything: it is a label: what it is worth is what the hold of that sum in a sandbox is worth. -/
noncomputable def Try.pinned : Pinned := { name := "ytiagcaefhjibjaa", sum := "5116b411de17acf6128c1389a0be5e168b93cf3c24bbf7880c587025c9a36b29", checked := Try.checked }
namespace Rows
def none {H : Type} : Left H := { results := [], args := [] }

/-- 'dynposlaw28.StatusExact': WHATEVER THE INPUT: true; the input reads as it did. -/
def statusExactSpec : ChangeSpec := { name := "statusExact", fn := fun _ => fun
  | [d1, d2, d3, d4, d5, d6, d7, d8, d9] => { results := [.lit (.bool true)], args := [d1, d2, d3, d4, d5, d6, d7, d8, d9] }
  | _ => none }
def statusExactRow : OpenClaim := { program := "ytiagcaefhjibjaa", sum := "5116b411de17acf6128c1389a0be5e168b93cf3c24bbf7880c587025c9a36b29", func := "dynpos/dynposlaw28.StatusExact", spec := "statusExact", unfollowed := true, recurses := true, apart := false }
def StatusExactSaid : Prop := statusExactRow.holds Try.pinned (OpenSpec.ofChange statusExactSpec)

/-- ITS FALSE NEIGHBOUR: 'it returns false'. Refute it at one input. -/
def statusExactWrong : ChangeSpec := { name := "statusExact", fn := fun _ => fun
  | [d1, d2, d3, d4, d5, d6, d7, d8, d9] => { results := [.lit (.bool false)], args := [d1, d2, d3, d4, d5, d6, d7, d8, d9] }
  | _ => none }
def StatusExactWrongFalsely : Prop := statusExactRow.holds Try.pinned (OpenSpec.ofChange statusExactWrong)

/-- 'dynposlaw28.StatusNever': WHATEVER THE INPUT: true; the input reads as it did. -/
def statusNeverSpec : ChangeSpec := { name := "statusNever", fn := fun _ => fun
  | [d1, d2] => { results := [.lit (.bool true)], args := [d1, d2] }
  | _ => none }
def statusNeverRow : OpenClaim := { program := "ytiagcaefhjibjaa", sum := "5116b411de17acf6128c1389a0be5e168b93cf3c24bbf7880c587025c9a36b29", func := "dynpos/dynposlaw28.StatusNever", spec := "statusNever", unfollowed := true, recurses := true, apart := false }
def StatusNeverSaid : Prop := statusNeverRow.holds Try.pinned (OpenSpec.ofChange statusNeverSpec)

/-- ITS FALSE NEIGHBOUR: 'it returns false'. Refute it at one input. -/
def statusNeverWrong : ChangeSpec := { name := "statusNever", fn := fun _ => fun
  | [d1, d2] => { results := [.lit (.bool false)], args := [d1, d2] }
  | _ => none }
def StatusNeverWrongFalsely : Prop := statusNeverRow.holds Try.pinned (OpenSpec.ofChange statusNeverWrong)

/-- 'dynposlaw28.StatusSteps': WHATEVER THE INPUT: true; the input reads as it did. -/
def statusStepsSpec : ChangeSpec := { name := "statusSteps", fn := fun _ => fun
  | [d1, d2] => { results := [.lit (.bool true)], args := [d1, d2] }
  | _ => none }
def statusStepsRow : OpenClaim := { program := "ytiagcaefhjibjaa", sum := "5116b411de17acf6128c1389a0be5e168b93cf3c24bbf7880c587025c9a36b29", func := "dynpos/dynposlaw28.StatusSteps", spec := "statusSteps", unfollowed := true, recurses := true, apart := false }
def StatusStepsSaid : Prop := statusStepsRow.holds Try.pinned (OpenSpec.ofChange statusStepsSpec)

/-- ITS FALSE NEIGHBOUR: 'it returns false'. Refute it at one input. -/
def statusStepsWrong : ChangeSpec := { name := "statusSteps", fn := fun _ => fun
  | [d1, d2] => { results := [.lit (.bool false)], args := [d1, d2] }
  | _ => none }
def StatusStepsWrongFalsely : Prop := statusStepsRow.holds Try.pinned (OpenSpec.ofChange statusStepsWrong)

/-- 'dynposlaw28.StatusReaches': WHATEVER THE INPUT: true; the input reads as it did. -/
def statusReachesSpec : ChangeSpec := { name := "statusReaches", fn := fun _ => fun
  | [d1, d2] => { results := [.lit (.bool true)], args := [d1, d2] }
  | _ => none }
def statusReachesRow : OpenClaim := { program := "ytiagcaefhjibjaa", sum := "5116b411de17acf6128c1389a0be5e168b93cf3c24bbf7880c587025c9a36b29", func := "dynpos/dynposlaw28.StatusReaches", spec := "statusReaches", unfollowed := true, recurses := true, apart := false }
def StatusReachesSaid : Prop := statusReachesRow.holds Try.pinned (OpenSpec.ofChange statusReachesSpec)

/-- ITS FALSE NEIGHBOUR: 'it returns false'. Refute it at one input. -/
def statusReachesWrong : ChangeSpec := { name := "statusReaches", fn := fun _ => fun
  | [d1, d2] => { results := [.lit (.bool false)], args := [d1, d2] }
  | _ => none }
def StatusReachesWrongFalsely : Prop := statusReachesRow.holds Try.pinned (OpenSpec.ofChange statusReachesWrong)

/-- 'dynposlaw28.StatusStays': WHATEVER THE INPUT: true; the input reads as it did. -/
def statusStaysSpec : ChangeSpec := { name := "statusStays", fn := fun _ => fun
  | [d] => { results := [.lit (.bool true)], args := [d] }
  | _ => none }
def statusStaysRow : OpenClaim := { program := "ytiagcaefhjibjaa", sum := "5116b411de17acf6128c1389a0be5e168b93cf3c24bbf7880c587025c9a36b29", func := "dynpos/dynposlaw28.StatusStays", spec := "statusStays", unfollowed := true, recurses := true, apart := false }
def StatusStaysSaid : Prop := statusStaysRow.holds Try.pinned (OpenSpec.ofChange statusStaysSpec)

/-- ITS FALSE NEIGHBOUR: 'it returns false'. Refute it at one input. -/
def statusStaysWrong : ChangeSpec := { name := "statusStays", fn := fun _ => fun
  | [d] => { results := [.lit (.bool false)], args := [d] }
  | _ => none }
def StatusStaysWrongFalsely : Prop := statusStaysRow.holds Try.pinned (OpenSpec.ofChange statusStaysWrong)

/-- 'dynposlaw28.StatusJudges': WHATEVER THE INPUT: true; the input reads as it did. -/
def statusJudgesSpec : ChangeSpec := { name := "statusJudges", fn := fun _ => fun
  | [d1, d2] => { results := [.lit (.bool true)], args := [d1, d2] }
  | _ => none }
def statusJudgesRow : OpenClaim := { program := "ytiagcaefhjibjaa", sum := "5116b411de17acf6128c1389a0be5e168b93cf3c24bbf7880c587025c9a36b29", func := "dynpos/dynposlaw28.StatusJudges", spec := "statusJudges", unfollowed := true, recurses := true, apart := false }
def StatusJudgesSaid : Prop := statusJudgesRow.holds Try.pinned (OpenSpec.ofChange statusJudgesSpec)

/-- ITS FALSE NEIGHBOUR: 'it returns false'. Refute it at one input. -/
def statusJudgesWrong : ChangeSpec := { name := "statusJudges", fn := fun _ => fun
  | [d1, d2] => { results := [.lit (.bool false)], args := [d1, d2] }
  | _ => none }
def StatusJudgesWrongFalsely : Prop := statusJudgesRow.holds Try.pinned (OpenSpec.ofChange statusJudgesWrong)

/- THE SECOND FORM. 'bulk': how many values and letters a reading holds, each counted each time it is reached (what is shared counts as often as it is met; a slice's spare places count too). A statement '..UptoSaid' is the law's where the arguments, and the package variables that the reading takes, are together of bulk at most 1048576: NARROWER than '..Said'. Prove '..Said' where nothing that the law and all that it calls make is longer than what came in: it says more and counts as full. Else prove '..UptoSaid'. A law counts once. -/
mutual
def uptoBulk {H : Type} : DataW H → Nat
  | .lit (.string bytes) => bytes.length + 1
  | .lit _ => 1
  | .nil => 1
  | .ptr d => uptoBulk d + 1
  | .slice elems spare => uptoBulkAll elems + uptoBulkAll spare + 1
  | .agg parts => uptoBulkAll parts + 1
  | .iface _ d => uptoBulk d + 1
  | .map entries => uptoBulkEntries entries + 1
  | .held _ => 1
def uptoBulkAll {H : Type} : List (DataW H) → Nat
  | [] => 0
  | d :: r => uptoBulk d + uptoBulkAll r
def uptoBulkEntries {H : Type} : List (Lit × DataW H) → Nat
  | [] => 0
  | x :: r => uptoBulkEntry x + uptoBulkEntries r
def uptoBulkEntry {H : Type} : Lit × DataW H → Nat
  | (.string bytes, d) => bytes.length + uptoBulk d + 1
  | (_, d) => uptoBulk d + 1
 end
def uptoSmall : (H : Type) → List (DataW H) → Bool := fun _ ds => decide (uptoBulkAll ds ≤ 1048576)
def OpenSpec.upto (s : _root_.Go.ChangeSpec) : _root_.Go.OpenSpec := { _root_.Go.OpenSpec.ofChange s with cond := some uptoSmall }

/-- 'dynposlaw28.StatusExact', WHERE WHAT IT READS IS OF BULK AT MOST 1048576: true; the input reads as it did. -/
def statusExactUptoRow : OpenClaim := { program := "ytiagcaefhjibjaa", sum := "5116b411de17acf6128c1389a0be5e168b93cf3c24bbf7880c587025c9a36b29", func := "dynpos/dynposlaw28.StatusExact", spec := "statusExact", unfollowed := true, recurses := true, apart := false, narrowed := true }
def StatusExactUptoSaid : Prop := statusExactUptoRow.holds Try.pinned (OpenSpec.upto statusExactSpec)

/-- 'dynposlaw28.StatusNever', WHERE WHAT IT READS IS OF BULK AT MOST 1048576: true; the input reads as it did. -/
def statusNeverUptoRow : OpenClaim := { program := "ytiagcaefhjibjaa", sum := "5116b411de17acf6128c1389a0be5e168b93cf3c24bbf7880c587025c9a36b29", func := "dynpos/dynposlaw28.StatusNever", spec := "statusNever", unfollowed := true, recurses := true, apart := false, narrowed := true }
def StatusNeverUptoSaid : Prop := statusNeverUptoRow.holds Try.pinned (OpenSpec.upto statusNeverSpec)

/-- 'dynposlaw28.StatusSteps', WHERE WHAT IT READS IS OF BULK AT MOST 1048576: true; the input reads as it did. -/
def statusStepsUptoRow : OpenClaim := { program := "ytiagcaefhjibjaa", sum := "5116b411de17acf6128c1389a0be5e168b93cf3c24bbf7880c587025c9a36b29", func := "dynpos/dynposlaw28.StatusSteps", spec := "statusSteps", unfollowed := true, recurses := true, apart := false, narrowed := true }
def StatusStepsUptoSaid : Prop := statusStepsUptoRow.holds Try.pinned (OpenSpec.upto statusStepsSpec)

/-- 'dynposlaw28.StatusReaches', WHERE WHAT IT READS IS OF BULK AT MOST 1048576: true; the input reads as it did. -/
def statusReachesUptoRow : OpenClaim := { program := "ytiagcaefhjibjaa", sum := "5116b411de17acf6128c1389a0be5e168b93cf3c24bbf7880c587025c9a36b29", func := "dynpos/dynposlaw28.StatusReaches", spec := "statusReaches", unfollowed := true, recurses := true, apart := false, narrowed := true }
def StatusReachesUptoSaid : Prop := statusReachesUptoRow.holds Try.pinned (OpenSpec.upto statusReachesSpec)

/-- 'dynposlaw28.StatusStays', WHERE WHAT IT READS IS OF BULK AT MOST 1048576: true; the input reads as it did. -/
def statusStaysUptoRow : OpenClaim := { program := "ytiagcaefhjibjaa", sum := "5116b411de17acf6128c1389a0be5e168b93cf3c24bbf7880c587025c9a36b29", func := "dynpos/dynposlaw28.StatusStays", spec := "statusStays", unfollowed := true, recurses := true, apart := false, narrowed := true }
def StatusStaysUptoSaid : Prop := statusStaysUptoRow.holds Try.pinned (OpenSpec.upto statusStaysSpec)

/-- 'dynposlaw28.StatusJudges', WHERE WHAT IT READS IS OF BULK AT MOST 1048576: true; the input reads as it did. -/
def statusJudgesUptoRow : OpenClaim := { program := "ytiagcaefhjibjaa", sum := "5116b411de17acf6128c1389a0be5e168b93cf3c24bbf7880c587025c9a36b29", func := "dynpos/dynposlaw28.StatusJudges", spec := "statusJudges", unfollowed := true, recurses := true, apart := false, narrowed := true }
def StatusJudgesUptoSaid : Prop := statusJudgesUptoRow.holds Try.pinned (OpenSpec.upto statusJudgesSpec)

end Rows
end Go.Proofs.Ytiagcaefhjibjaa
