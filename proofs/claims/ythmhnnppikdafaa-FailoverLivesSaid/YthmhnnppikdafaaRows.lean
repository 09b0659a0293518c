/-
  No cell of these rows narrows 'for every input' (looked for: loops, veiled, ifaces, maps, wideKeys, modest, calm, conditions, laid).
  DERIVED. THE GIVEN ROWS OF THIS SEAT. 5 by the template 'for every input the law returns true; each argument reads behind the call as it read before'; 0 by the template 'total and deterministic' (their statements: YthmhnnppikdafaaTotals.lean).
  GIVEN WITH THE SEED: the statements are not yours to turn. If you find one false, say at which input.
  Laid BY PROGRAM, IN A SANDBOX (cutbox-rows.mjs): the forced cells as the released guide's own fill.sh prints them over the translation 5a40a7d92ab9ef6e… (all of the seat's roots in one cut). By AI agents, Wed Nov 11 2026. No macro, syntax, notation, axiom, sorry.
-/
import Derived.Test.YthmhnnppikdafaaChecked
import GoSem.Claim
import GoSem.ClaimJoined
import GoSem.ClaimMapViews
import Derived.JoinedTies
import Derived.KernelRfl
namespace Go.Proofs.Ythmhnnppikdafaa
/- THE CELL 'sum', in the pinned program and in every row, IS THE sha256 OF THE DUMP (.gsa) THAT YthmhnnppikdafaaProg.lean LOADS. Nothing in Lean hashes anything: it is a label: what it is worth is what the hold of that sum in a sandbox is worth. -/
noncomputable def Try.pinned : Pinned := { name := "ythmhnnppikdafaa", sum := "5a40a7d92ab9ef6e569179d2b30858fbd567492be5cf66393ca1957c935ca8d1", checked := Try.checked }
namespace Rows
def none {H : Type} : Left H := { results := [], args := [] }

/-- 'dynposlaw33.FailoverEpochs': WHATEVER THE INPUT: true; the input reads as it did. -/
def failoverEpochsSpec : ChangeSpec := { name := "failoverEpochs", fn := fun _ => fun
  | [d1, d2] => { results := [.lit (.bool true)], args := [d1, d2] }
  | _ => none }
def failoverEpochsRow : OpenClaim := { program := "ythmhnnppikdafaa", sum := "5a40a7d92ab9ef6e569179d2b30858fbd567492be5cf66393ca1957c935ca8d1", func := "dynpos/dynposlaw33.FailoverEpochs", spec := "failoverEpochs", unfollowed := true, recurses := true, apart := false }
def FailoverEpochsSaid : Prop := failoverEpochsRow.holds Try.pinned (OpenSpec.ofChange failoverEpochsSpec)

/-- ITS FALSE NEIGHBOUR: 'it returns false'. Refute it at one input. -/
def failoverEpochsWrong : ChangeSpec := { name := "failoverEpochs", fn := fun _ => fun
  | [d1, d2] => { results := [.lit (.bool false)], args := [d1, d2] }
  | _ => none }
def FailoverEpochsWrongFalsely : Prop := failoverEpochsRow.holds Try.pinned (OpenSpec.ofChange failoverEpochsWrong)

/-- 'dynposlaw33.FailoverLives': WHATEVER THE INPUT: true; the input reads as it did. -/
def failoverLivesSpec : ChangeSpec := { name := "failoverLives", fn := fun _ => fun
  | [d1, d2] => { results := [.lit (.bool true)], args := [d1, d2] }
  | _ => none }
def failoverLivesRow : OpenClaim := { program := "ythmhnnppikdafaa", sum := "5a40a7d92ab9ef6e569179d2b30858fbd567492be5cf66393ca1957c935ca8d1", func := "dynpos/dynposlaw33.FailoverLives", spec := "failoverLives", unfollowed := true, recurses := true, apart := false }
def FailoverLivesSaid : Prop := failoverLivesRow.holds Try.pinned (OpenSpec.ofChange failoverLivesSpec)

/-- ITS FALSE NEIGHBOUR: 'it returns false'. Refute it at one input. -/
def failoverLivesWrong : ChangeSpec := { name := "failoverLives", fn := fun _ => fun
  | [d1, d2] => { results := [.lit (.bool false)], args := [d1, d2] }
  | _ => none }
def FailoverLivesWrongFalsely : Prop := failoverLivesRow.holds Try.pinned (OpenSpec.ofChange failoverLivesWrong)

/-- 'dynposlaw33.FailoverFences': WHATEVER THE INPUT: true; the input reads as it did. -/
def failoverFencesSpec : ChangeSpec := { name := "failoverFences", fn := fun _ => fun
  | [d] => { results := [.lit (.bool true)], args := [d] }
  | _ => none }
def failoverFencesRow : OpenClaim := { program := "ythmhnnppikdafaa", sum := "5a40a7d92ab9ef6e569179d2b30858fbd567492be5cf66393ca1957c935ca8d1", func := "dynpos/dynposlaw33.FailoverFences", spec := "failoverFences", unfollowed := true, recurses := true, apart := false }
def FailoverFencesSaid : Prop := failoverFencesRow.holds Try.pinned (OpenSpec.ofChange failoverFencesSpec)

/-- ITS FALSE NEIGHBOUR: 'it returns false'. Refute it at one input. -/
def failoverFencesWrong : ChangeSpec := { name := "failoverFences", fn := fun _ => fun
  | [d] => { results := [.lit (.bool false)], args := [d] }
  | _ => none }
def FailoverFencesWrongFalsely : Prop := failoverFencesRow.holds Try.pinned (OpenSpec.ofChange failoverFencesWrong)

/-- 'dynposlaw33.FailoverOne': WHATEVER THE INPUT: true; the input reads as it did. -/
def failoverOneSpec : ChangeSpec := { name := "failoverOne", fn := fun _ => fun
  | [d] => { results := [.lit (.bool true)], args := [d] }
  | _ => none }
def failoverOneRow : OpenClaim := { program := "ythmhnnppikdafaa", sum := "5a40a7d92ab9ef6e569179d2b30858fbd567492be5cf66393ca1957c935ca8d1", func := "dynpos/dynposlaw33.FailoverOne", spec := "failoverOne", unfollowed := true, recurses := true, apart := false }
def FailoverOneSaid : Prop := failoverOneRow.holds Try.pinned (OpenSpec.ofChange failoverOneSpec)

/-- ITS FALSE NEIGHBOUR: 'it returns false'. Refute it at one input. -/
def failoverOneWrong : ChangeSpec := { name := "failoverOne", fn := fun _ => fun
  | [d] => { results := [.lit (.bool false)], args := [d] }
  | _ => none }
def FailoverOneWrongFalsely : Prop := failoverOneRow.holds Try.pinned (OpenSpec.ofChange failoverOneWrong)

/-- 'dynposlaw33.FailoverMinority': WHATEVER THE INPUT: true; the input reads as it did. -/
def failoverMinoritySpec : ChangeSpec := { name := "failoverMinority", fn := fun _ => fun
  | [d] => { results := [.lit (.bool true)], args := [d] }
  | _ => none }
def failoverMinorityRow : OpenClaim := { program := "ythmhnnppikdafaa", sum := "5a40a7d92ab9ef6e569179d2b30858fbd567492be5cf66393ca1957c935ca8d1", func := "dynpos/dynposlaw33.FailoverMinority", spec := "failoverMinority", unfollowed := true, recurses := true, apart := false }
def FailoverMinoritySaid : Prop := failoverMinorityRow.holds Try.pinned (OpenSpec.ofChange failoverMinoritySpec)

/-- ITS FALSE NEIGHBOUR: 'it returns false'. Refute it at one input. -/
def failoverMinorityWrong : ChangeSpec := { name := "failoverMinority", fn := fun _ => fun
  | [d] => { results := [.lit (.bool false)], args := [d] }
  | _ => none }
def FailoverMinorityWrongFalsely : Prop := failoverMinorityRow.holds Try.pinned (OpenSpec.ofChange failoverMinorityWrong)

/- THE SECOND FORM. 'bulk': how many values and letters a reading holds, each counted each time it is reached (what is shared counts as often as it is met; a slice's spare places count too). A statement '..UptoSaid' is the law's where the arguments, and the package variables that the reading takes, are together of bulk at most 1048576: NARROWER than '..Said'. Prove '..Said' where nothing that the law and all that it calls make is longer than what came in: it says more and counts as full. Else prove '..UptoSaid'. A law counts once. -/
mutual
def uptoBulk {H : Type} : DataW H → Nat
  | .lit (.string bytes) => bytes.length + 1
  | .lit _ => 1
  | .nil => 1
  | .ptr d => uptoBulk d + 1
  | .slice elems spare => uptoBulkAll elems + uptoBulkAll spare + 1
  | .agg parts => uptoBulkAll parts + 1
  | .iface _ d => uptoBulk d + 1
  | .map entries => uptoBulkEntries entries + 1
  | .held _ => 1
def uptoBulkAll {H : Type} : List (DataW H) → Nat
  | [] => 0
  | d :: r => uptoBulk d + uptoBulkAll r
def uptoBulkEntries {H : Type} : List (Lit × DataW H) → Nat
  | [] => 0
  | x :: r => uptoBulkEntry x + uptoBulkEntries r
def uptoBulkEntry {H : Type} : Lit × DataW H → Nat
  | (.string bytes, d) => bytes.length + uptoBulk d + 1
  | (_, d) => uptoBulk d + 1
 end
def uptoSmall : (H : Type) → List (DataW H) → Bool := fun _ ds => decide (uptoBulkAll ds ≤ 1048576)
def OpenSpec.upto (s : _root_.Go.ChangeSpec) : _root_.Go.OpenSpec := { _root_.Go.OpenSpec.ofChange s with cond := some uptoSmall }

/-- 'dynposlaw33.FailoverEpochs', WHERE WHAT IT READS IS OF BULK AT MOST 1048576: true; the input reads as it did. -/
def failoverEpochsUptoRow : OpenClaim := { program := "ythmhnnppikdafaa", sum := "5a40a7d92ab9ef6e569179d2b30858fbd567492be5cf66393ca1957c935ca8d1", func := "dynpos/dynposlaw33.FailoverEpochs", spec := "failoverEpochs", unfollowed := true, recurses := true, apart := false, narrowed := true }
def FailoverEpochsUptoSaid : Prop := failoverEpochsUptoRow.holds Try.pinned (OpenSpec.upto failoverEpochsSpec)

/-- 'dynposlaw33.FailoverLives', WHERE WHAT IT READS IS OF BULK AT MOST 1048576: true; the input reads as it did. -/
def failoverLivesUptoRow : OpenClaim := { program := "ythmhnnppikdafaa", sum := "5a40a7d92ab9ef6e569179d2b30858fbd567492be5cf66393ca1957c935ca8d1", func := "dynpos/dynposlaw33.FailoverLives", spec := "failoverLives", unfollowed := true, recurses := true, apart := false, narrowed := true }
def FailoverLivesUptoSaid : Prop := failoverLivesUptoRow.holds Try.pinned (OpenSpec.upto failoverLivesSpec)

/-- 'dynposlaw33.FailoverFences', WHERE WHAT IT READS IS OF BULK AT MOST 1048576: true; the input reads as it did. -/
def failoverFencesUptoRow : OpenClaim := { program := "ythmhnnppikdafaa", sum := "5a40a7d92ab9ef6e569179d2b30858fbd567492be5cf66393ca1957c935ca8d1", func := "dynpos/dynposlaw33.FailoverFences", spec := "failoverFences", unfollowed := true, recurses := true, apart := false, narrowed := true }
def FailoverFencesUptoSaid : Prop := failoverFencesUptoRow.holds Try.pinned (OpenSpec.upto failoverFencesSpec)

/-- 'dynposlaw33.FailoverOne', WHERE WHAT IT READS IS OF BULK AT MOST 1048576: true; the input reads as it did. -/
def failoverOneUptoRow : OpenClaim := { program := "ythmhnnppikdafaa", sum := "5a40a7d92ab9ef6e569179d2b30858fbd567492be5cf66393ca1957c935ca8d1", func := "dynpos/dynposlaw33.FailoverOne", spec := "failoverOne", unfollowed := true, recurses := true, apart := false, narrowed := true }
def FailoverOneUptoSaid : Prop := failoverOneUptoRow.holds Try.pinned (OpenSpec.upto failoverOneSpec)

/-- 'dynposlaw33.FailoverMinority', WHERE WHAT IT READS IS OF BULK AT MOST 1048576: true; the input reads as it did. -/
def failoverMinorityUptoRow : OpenClaim := { program := "ythmhnnppikdafaa", sum := "5a40a7d92ab9ef6e569179d2b30858fbd567492be5cf66393ca1957c935ca8d1", func := "dynpos/dynposlaw33.FailoverMinority", spec := "failoverMinority", unfollowed := true, recurses := true, apart := false, narrowed := true }
def FailoverMinorityUptoSaid : Prop := failoverMinorityUptoRow.holds Try.pinned (OpenSpec.upto failoverMinoritySpec)

end Rows
end Go.Proofs.Ythmhnnppikdafaa
