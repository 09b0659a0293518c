/-
  No cell of these rows narrows 'for every input' (looked for: loops, veiled, ifaces, maps, wideKeys, modest, calm, conditions, laid).
  DERIVED. THE GIVEN ROWS OF THIS SEAT. 6 by the template 'for every input the law returns true; each argument reads behind the call as it read before'; 0 by the template 'total and deterministic' (their statements: YtpemmbkflddhoaaTotals.lean).
  GIVEN WITH THE SEED: the statements are not yours to turn. If you find one false, say at which input.
  Laid BY PROGRAM, IN A SANDBOX (cutbox-rows.mjs): the forced cells as the released guide's own fill.sh prints them over the translation 10958b779fc542b9… (all of the seat's roots in one cut). By AI agents, Wed Nov 11 2026. No macro, syntax, notation, axiom, sorry.
-/
import Derived.Test.YtpemmbkflddhoaaChecked
import GoSem.Claim
import GoSem.ClaimJoined
import GoSem.ClaimMapViews
import Derived.JoinedTies
import Derived.KernelRfl
namespace Go.Proofs.Ytpemmbkflddhoaa
/- THE CELL 'sum', in the pinned program and in every row, IS THE sha256 OF THE DUMP (.gsa) THAT YtpemmbkflddhoaaProg.lean LOADS. Nothing in Lean hashes anything: it is a label: what it is worth is what the hold of that sum in a sandbox is worth. -/
noncomputable def Try.pinned : Pinned := { name := "ytpemmbkflddhoaa", sum := "10958b779fc542b9485491b761ac58fb3b04c1b6242d00ee09ce79b90b08d6a8", checked := Try.checked }
namespace Rows
def none {H : Type} : Left H := { results := [], args := [] }

/-- 'dynposlaw02.AngleTurns': WHATEVER THE INPUT: true; the input reads as it did. -/
def angleTurnsSpec : ChangeSpec := { name := "angleTurns", fn := fun _ => fun
  | [d1, d2] => { results := [.lit (.bool true)], args := [d1, d2] }
  | _ => none }
def angleTurnsRow : OpenClaim := { program := "ytpemmbkflddhoaa", sum := "10958b779fc542b9485491b761ac58fb3b04c1b6242d00ee09ce79b90b08d6a8", func := "dynpos/dynposlaw02.AngleTurns", spec := "angleTurns", unfollowed := true, recurses := true, apart := false }
def AngleTurnsSaid : Prop := angleTurnsRow.holds Try.pinned (OpenSpec.ofChange angleTurnsSpec)

/-- ITS FALSE NEIGHBOUR: 'it returns false'. Refute it at one input. -/
def angleTurnsWrong : ChangeSpec := { name := "angleTurns", fn := fun _ => fun
  | [d1, d2] => { results := [.lit (.bool false)], args := [d1, d2] }
  | _ => none }
def AngleTurnsWrongFalsely : Prop := angleTurnsRow.holds Try.pinned (OpenSpec.ofChange angleTurnsWrong)

/-- 'dynposlaw02.AngleSines': WHATEVER THE INPUT: true; the input reads as it did. -/
def angleSinesSpec : ChangeSpec := { name := "angleSines", fn := fun _ => fun
  | [d] => { results := [.lit (.bool true)], args := [d] }
  | _ => none }
def angleSinesRow : OpenClaim := { program := "ytpemmbkflddhoaa", sum := "10958b779fc542b9485491b761ac58fb3b04c1b6242d00ee09ce79b90b08d6a8", func := "dynpos/dynposlaw02.AngleSines", spec := "angleSines", unfollowed := true, recurses := true, apart := false }
def AngleSinesSaid : Prop := angleSinesRow.holds Try.pinned (OpenSpec.ofChange angleSinesSpec)

/-- ITS FALSE NEIGHBOUR: 'it returns false'. Refute it at one input. -/
def angleSinesWrong : ChangeSpec := { name := "angleSines", fn := fun _ => fun
  | [d] => { results := [.lit (.bool false)], args := [d] }
  | _ => none }
def AngleSinesWrongFalsely : Prop := angleSinesRow.holds Try.pinned (OpenSpec.ofChange angleSinesWrong)

/-- 'dynposlaw02.AngleDiffs': WHATEVER THE INPUT: true; the input reads as it did. -/
def angleDiffsSpec : ChangeSpec := { name := "angleDiffs", fn := fun _ => fun
  | [d1, d2, d3] => { results := [.lit (.bool true)], args := [d1, d2, d3] }
  | _ => none }
def angleDiffsRow : OpenClaim := { program := "ytpemmbkflddhoaa", sum := "10958b779fc542b9485491b761ac58fb3b04c1b6242d00ee09ce79b90b08d6a8", func := "dynpos/dynposlaw02.AngleDiffs", spec := "angleDiffs", unfollowed := true, recurses := true, apart := false }
def AngleDiffsSaid : Prop := angleDiffsRow.holds Try.pinned (OpenSpec.ofChange angleDiffsSpec)

/-- ITS FALSE NEIGHBOUR: 'it returns false'. Refute it at one input. -/
def angleDiffsWrong : ChangeSpec := { name := "angleDiffs", fn := fun _ => fun
  | [d1, d2, d3] => { results := [.lit (.bool false)], args := [d1, d2, d3] }
  | _ => none }
def AngleDiffsWrongFalsely : Prop := angleDiffsRow.holds Try.pinned (OpenSpec.ofChange angleDiffsWrong)

/-- 'dynposlaw02.AngleSides': WHATEVER THE INPUT: true; the input reads as it did. -/
def angleSidesSpec : ChangeSpec := { name := "angleSides", fn := fun _ => fun
  | [d1, d2, d3, d4] => { results := [.lit (.bool true)], args := [d1, d2, d3, d4] }
  | _ => none }
def angleSidesRow : OpenClaim := { program := "ytpemmbkflddhoaa", sum := "10958b779fc542b9485491b761ac58fb3b04c1b6242d00ee09ce79b90b08d6a8", func := "dynpos/dynposlaw02.AngleSides", spec := "angleSides", unfollowed := true, recurses := true, apart := false }
def AngleSidesSaid : Prop := angleSidesRow.holds Try.pinned (OpenSpec.ofChange angleSidesSpec)

/-- ITS FALSE NEIGHBOUR: 'it returns false'. Refute it at one input. -/
def angleSidesWrong : ChangeSpec := { name := "angleSides", fn := fun _ => fun
  | [d1, d2, d3, d4] => { results := [.lit (.bool false)], args := [d1, d2, d3, d4] }
  | _ => none }
def AngleSidesWrongFalsely : Prop := angleSidesRow.holds Try.pinned (OpenSpec.ofChange angleSidesWrong)

/-- 'dynposlaw02.AngleExact': WHATEVER THE INPUT: true; the input reads as it did. -/
def angleExactSpec : ChangeSpec := { name := "angleExact", fn := fun _ => fun
  | [d1, d2, d3, d4, d5, d6] => { results := [.lit (.bool true)], args := [d1, d2, d3, d4, d5, d6] }
  | _ => none }
def angleExactRow : OpenClaim := { program := "ytpemmbkflddhoaa", sum := "10958b779fc542b9485491b761ac58fb3b04c1b6242d00ee09ce79b90b08d6a8", func := "dynpos/dynposlaw02.AngleExact", spec := "angleExact", unfollowed := true, recurses := true, apart := false }
def AngleExactSaid : Prop := angleExactRow.holds Try.pinned (OpenSpec.ofChange angleExactSpec)

/-- ITS FALSE NEIGHBOUR: 'it returns false'. Refute it at one input. -/
def angleExactWrong : ChangeSpec := { name := "angleExact", fn := fun _ => fun
  | [d1, d2, d3, d4, d5, d6] => { results := [.lit (.bool false)], args := [d1, d2, d3, d4, d5, d6] }
  | _ => none }
def AngleExactWrongFalsely : Prop := angleExactRow.holds Try.pinned (OpenSpec.ofChange angleExactWrong)

/-- 'dynposlaw02.AngleArcs': WHATEVER THE INPUT: true; the input reads as it did. -/
def angleArcsSpec : ChangeSpec := { name := "angleArcs", fn := fun _ => fun
  | [d1, d2] => { results := [.lit (.bool true)], args := [d1, d2] }
  | _ => none }
def angleArcsRow : OpenClaim := { program := "ytpemmbkflddhoaa", sum := "10958b779fc542b9485491b761ac58fb3b04c1b6242d00ee09ce79b90b08d6a8", func := "dynpos/dynposlaw02.AngleArcs", spec := "angleArcs", unfollowed := true, recurses := true, apart := false }
def AngleArcsSaid : Prop := angleArcsRow.holds Try.pinned (OpenSpec.ofChange angleArcsSpec)

/-- ITS FALSE NEIGHBOUR: 'it returns false'. Refute it at one input. -/
def angleArcsWrong : ChangeSpec := { name := "angleArcs", fn := fun _ => fun
  | [d1, d2] => { results := [.lit (.bool false)], args := [d1, d2] }
  | _ => none }
def AngleArcsWrongFalsely : Prop := angleArcsRow.holds Try.pinned (OpenSpec.ofChange angleArcsWrong)

/- THE SECOND FORM. 'bulk': how many values and letters a reading holds, each counted each time it is reached (what is shared counts as often as it is met; a slice's spare places count too). A statement '..UptoSaid' is the law's where the arguments, and the package variables that the reading takes, are together of bulk at most 1048576: NARROWER than '..Said'. Prove '..Said' where nothing that the law and all that it calls make is longer than what came in: it says more and counts as full. Else prove '..UptoSaid'. A law counts once. -/
mutual
def uptoBulk {H : Type} : DataW H → Nat
  | .lit (.string bytes) => bytes.length + 1
  | .lit _ => 1
  | .nil => 1
  | .ptr d => uptoBulk d + 1
  | .slice elems spare => uptoBulkAll elems + uptoBulkAll spare + 1
  | .agg parts => uptoBulkAll parts + 1
  | .iface _ d => uptoBulk d + 1
  | .map entries => uptoBulkEntries entries + 1
  | .held _ => 1
def uptoBulkAll {H : Type} : List (DataW H) → Nat
  | [] => 0
  | d :: r => uptoBulk d + uptoBulkAll r
def uptoBulkEntries {H : Type} : List (Lit × DataW H) → Nat
  | [] => 0
  | x :: r => uptoBulkEntry x + uptoBulkEntries r
def uptoBulkEntry {H : Type} : Lit × DataW H → Nat
  | (.string bytes, d) => bytes.length + uptoBulk d + 1
  | (_, d) => uptoBulk d + 1
 end
def uptoSmall : (H : Type) → List (DataW H) → Bool := fun _ ds => decide (uptoBulkAll ds ≤ 1048576)
def OpenSpec.upto (s : _root_.Go.ChangeSpec) : _root_.Go.OpenSpec := { _root_.Go.OpenSpec.ofChange s with cond := some uptoSmall }

/-- 'dynposlaw02.AngleTurns', WHERE WHAT IT READS IS OF BULK AT MOST 1048576: true; the input reads as it did. -/
def angleTurnsUptoRow : OpenClaim := { program := "ytpemmbkflddhoaa", sum := "10958b779fc542b9485491b761ac58fb3b04c1b6242d00ee09ce79b90b08d6a8", func := "dynpos/dynposlaw02.AngleTurns", spec := "angleTurns", unfollowed := true, recurses := true, apart := false, narrowed := true }
def AngleTurnsUptoSaid : Prop := angleTurnsUptoRow.holds Try.pinned (OpenSpec.upto angleTurnsSpec)

/-- 'dynposlaw02.AngleSines', WHERE WHAT IT READS IS OF BULK AT MOST 1048576: true; the input reads as it did. -/
def angleSinesUptoRow : OpenClaim := { program := "ytpemmbkflddhoaa", sum := "10958b779fc542b9485491b761ac58fb3b04c1b6242d00ee09ce79b90b08d6a8", func := "dynpos/dynposlaw02.AngleSines", spec := "angleSines", unfollowed := true, recurses := true, apart := false, narrowed := true }
def AngleSinesUptoSaid : Prop := angleSinesUptoRow.holds Try.pinned (OpenSpec.upto angleSinesSpec)

/-- 'dynposlaw02.AngleDiffs', WHERE WHAT IT READS IS OF BULK AT MOST 1048576: true; the input reads as it did. -/
def angleDiffsUptoRow : OpenClaim := { program := "ytpemmbkflddhoaa", sum := "10958b779fc542b9485491b761ac58fb3b04c1b6242d00ee09ce79b90b08d6a8", func := "dynpos/dynposlaw02.AngleDiffs", spec := "angleDiffs", unfollowed := true, recurses := true, apart := false, narrowed := true }
def AngleDiffsUptoSaid : Prop := angleDiffsUptoRow.holds Try.pinned (OpenSpec.upto angleDiffsSpec)

/-- 'dynposlaw02.AngleSides', WHERE WHAT IT READS IS OF BULK AT MOST 1048576: true; the input reads as it did. -/
def angleSidesUptoRow : OpenClaim := { program := "ytpemmbkflddhoaa", sum := "10958b779fc542b9485491b761ac58fb3b04c1b6242d00ee09ce79b90b08d6a8", func := "dynpos/dynposlaw02.AngleSides", spec := "angleSides", unfollowed := true, recurses := true, apart := false, narrowed := true }
def AngleSidesUptoSaid : Prop := angleSidesUptoRow.holds Try.pinned (OpenSpec.upto angleSidesSpec)

/-- 'dynposlaw02.AngleExact', WHERE WHAT IT READS IS OF BULK AT MOST 1048576: true; the input reads as it did. -/
def angleExactUptoRow : OpenClaim := { program := "ytpemmbkflddhoaa", sum := "10958b779fc542b9485491b761ac58fb3b04c1b6242d00ee09ce79b90b08d6a8", func := "dynpos/dynposlaw02.AngleExact", spec := "angleExact", unfollowed := true, recurses := true, apart := false, narrowed := true }
def AngleExactUptoSaid : Prop := angleExactUptoRow.holds Try.pinned (OpenSpec.upto angleExactSpec)

/-- 'dynposlaw02.AngleArcs', WHERE WHAT IT READS IS OF BULK AT MOST 1048576: true; the input reads as it did. -/
def angleArcsUptoRow : OpenClaim := { program := "ytpemmbkflddhoaa", sum := "10958b779fc542b9485491b761ac58fb3b04c1b6242d00ee09ce79b90b08d6a8", func := "dynpos/dynposlaw02.AngleArcs", spec := "angleArcs", unfollowed := true, recurses := true, apart := false, narrowed := true }
def AngleArcsUptoSaid : Prop := angleArcsUptoRow.holds Try.pinned (OpenSpec.upto angleArcsSpec)

end Rows
end Go.Proofs.Ytpemmbkflddhoaa
