/-
  No cell of these rows narrows 'for every input' (looked for: loops, veiled, ifaces, maps, wideKeys, modest, calm, conditions, laid).
  DERIVED. THE GIVEN ROWS OF THIS SEAT. 3 by the template 'for every input the law returns true; each argument reads behind the call as it read before'; 0 by the template 'total and deterministic' (their statements: YtphcfpphnmpcbaaTotals.lean).
  GIVEN WITH THE SEED: the statements are not yours to turn. If you find one false, say at which input.
  Laid BY PROGRAM, IN A SANDBOX (cutbox-rows.mjs): the forced cells as the released guide's own fill.sh prints them over the translation 81547019a5cbea88… (all of the seat's roots in one cut). By AI agents, Wed Nov 11 2026. No macro, syntax, notation, axiom, sorry.
-/
import Derived.Test.YtphcfpphnmpcbaaChecked
import GoSem.Claim
import GoSem.ClaimJoined
import GoSem.ClaimMapViews
import Derived.JoinedTies
import Derived.KernelRfl
namespace Go.Proofs.Ytphcfpphnmpcbaa
/- THE CELL 'sum', in the pinned program and in every row, IS THE sha256 OF THE DUMP (.gsa) THAT YtphcfpphnmpcbaaProg.lean LOADS. Nothing in Lean hashes anything: it is a label: what it is worth is what the hold of that sum in a sandbox is worth. -/
noncomputable def Try.pinned : Pinned := { name := "ytphcfpphnmpcbaa", sum := "81547019a5cbea88970a84335a4613562d9ffe188445fea1c8152f37f5cc68d5", checked := Try.checked }
namespace Rows
def none {H : Type} : Left H := { results := [], args := [] }

/-- 'dynposlaw12.ThrusterMore': WHATEVER THE INPUT: true; the input reads as it did. -/
def thrusterMoreSpec : ChangeSpec := { name := "thrusterMore", fn := fun _ => fun
  | [d1, d2, d3] => { results := [.lit (.bool true)], args := [d1, d2, d3] }
  | _ => none }
def thrusterMoreRow : OpenClaim := { program := "ytphcfpphnmpcbaa", sum := "81547019a5cbea88970a84335a4613562d9ffe188445fea1c8152f37f5cc68d5", func := "dynpos/dynposlaw12.ThrusterMore", spec := "thrusterMore", unfollowed := true, recurses := true, apart := false }
def ThrusterMoreSaid : Prop := thrusterMoreRow.holds Try.pinned (OpenSpec.ofChange thrusterMoreSpec)

/-- ITS FALSE NEIGHBOUR: 'it returns false'. Refute it at one input. -/
def thrusterMoreWrong : ChangeSpec := { name := "thrusterMore", fn := fun _ => fun
  | [d1, d2, d3] => { results := [.lit (.bool false)], args := [d1, d2, d3] }
  | _ => none }
def ThrusterMoreWrongFalsely : Prop := thrusterMoreRow.holds Try.pinned (OpenSpec.ofChange thrusterMoreWrong)

/-- 'dynposlaw12.ThrusterPower': WHATEVER THE INPUT: true; the input reads as it did. -/
def thrusterPowerSpec : ChangeSpec := { name := "thrusterPower", fn := fun _ => fun
  | [d] => { results := [.lit (.bool true)], args := [d] }
  | _ => none }
def thrusterPowerRow : OpenClaim := { program := "ytphcfpphnmpcbaa", sum := "81547019a5cbea88970a84335a4613562d9ffe188445fea1c8152f37f5cc68d5", func := "dynpos/dynposlaw12.ThrusterPower", spec := "thrusterPower", unfollowed := true, recurses := true, apart := false }
def ThrusterPowerSaid : Prop := thrusterPowerRow.holds Try.pinned (OpenSpec.ofChange thrusterPowerSpec)

/-- ITS FALSE NEIGHBOUR: 'it returns false'. Refute it at one input. -/
def thrusterPowerWrong : ChangeSpec := { name := "thrusterPower", fn := fun _ => fun
  | [d] => { results := [.lit (.bool false)], args := [d] }
  | _ => none }
def ThrusterPowerWrongFalsely : Prop := thrusterPowerRow.holds Try.pinned (OpenSpec.ofChange thrusterPowerWrong)

/-- 'dynposlaw12.ThrusterSums': WHATEVER THE INPUT: true; the input reads as it did. -/
def thrusterSumsSpec : ChangeSpec := { name := "thrusterSums", fn := fun _ => fun
  | [d] => { results := [.lit (.bool true)], args := [d] }
  | _ => none }
def thrusterSumsRow : OpenClaim := { program := "ytphcfpphnmpcbaa", sum := "81547019a5cbea88970a84335a4613562d9ffe188445fea1c8152f37f5cc68d5", func := "dynpos/dynposlaw12.ThrusterSums", spec := "thrusterSums", unfollowed := true, recurses := true, apart := false }
def ThrusterSumsSaid : Prop := thrusterSumsRow.holds Try.pinned (OpenSpec.ofChange thrusterSumsSpec)

/-- ITS FALSE NEIGHBOUR: 'it returns false'. Refute it at one input. -/
def thrusterSumsWrong : ChangeSpec := { name := "thrusterSums", fn := fun _ => fun
  | [d] => { results := [.lit (.bool false)], args := [d] }
  | _ => none }
def ThrusterSumsWrongFalsely : Prop := thrusterSumsRow.holds Try.pinned (OpenSpec.ofChange thrusterSumsWrong)

/- THE SECOND FORM. 'bulk': how many values and letters a reading holds, each counted each time it is reached (what is shared counts as often as it is met; a slice's spare places count too). A statement '..UptoSaid' is the law's where the arguments, and the package variables that the reading takes, are together of bulk at most 1048576: NARROWER than '..Said'. Prove '..Said' where nothing that the law and all that it calls make is longer than what came in: it says more and counts as full. Else prove '..UptoSaid'. A law counts once. -/
mutual
def uptoBulk {H : Type} : DataW H → Nat
  | .lit (.string bytes) => bytes.length + 1
  | .lit _ => 1
  | .nil => 1
  | .ptr d => uptoBulk d + 1
  | .slice elems spare => uptoBulkAll elems + uptoBulkAll spare + 1
  | .agg parts => uptoBulkAll parts + 1
  | .iface _ d => uptoBulk d + 1
  | .map entries => uptoBulkEntries entries + 1
  | .held _ => 1
def uptoBulkAll {H : Type} : List (DataW H) → Nat
  | [] => 0
  | d :: r => uptoBulk d + uptoBulkAll r
def uptoBulkEntries {H : Type} : List (Lit × DataW H) → Nat
  | [] => 0
  | x :: r => uptoBulkEntry x + uptoBulkEntries r
def uptoBulkEntry {H : Type} : Lit × DataW H → Nat
  | (.string bytes, d) => bytes.length + uptoBulk d + 1
  | (_, d) => uptoBulk d + 1
 end
def uptoSmall : (H : Type) → List (DataW H) → Bool := fun _ ds => decide (uptoBulkAll ds ≤ 1048576)
def OpenSpec.upto (s : _root_.Go.ChangeSpec) : _root_.Go.OpenSpec := { _root_.Go.OpenSpec.ofChange s with cond := some uptoSmall }

/-- 'dynposlaw12.ThrusterMore', WHERE WHAT IT READS IS OF BULK AT MOST 1048576: true; the input reads as it did. -/
def thrusterMoreUptoRow : OpenClaim := { program := "ytphcfpphnmpcbaa", sum := "81547019a5cbea88970a84335a4613562d9ffe188445fea1c8152f37f5cc68d5", func := "dynpos/dynposlaw12.ThrusterMore", spec := "thrusterMore", unfollowed := true, recurses := true, apart := false, narrowed := true }
def ThrusterMoreUptoSaid : Prop := thrusterMoreUptoRow.holds Try.pinned (OpenSpec.upto thrusterMoreSpec)

/-- 'dynposlaw12.ThrusterPower', WHERE WHAT IT READS IS OF BULK AT MOST 1048576: true; the input reads as it did. -/
def thrusterPowerUptoRow : OpenClaim := { program := "ytphcfpphnmpcbaa", sum := "81547019a5cbea88970a84335a4613562d9ffe188445fea1c8152f37f5cc68d5", func := "dynpos/dynposlaw12.ThrusterPower", spec := "thrusterPower", unfollowed := true, recurses := true, apart := false, narrowed := true }
def ThrusterPowerUptoSaid : Prop := thrusterPowerUptoRow.holds Try.pinned (OpenSpec.upto thrusterPowerSpec)

/-- 'dynposlaw12.ThrusterSums', WHERE WHAT IT READS IS OF BULK AT MOST 1048576: true; the input reads as it did. -/
def thrusterSumsUptoRow : OpenClaim := { program := "ytphcfpphnmpcbaa", sum := "81547019a5cbea88970a84335a4613562d9ffe188445fea1c8152f37f5cc68d5", func := "dynpos/dynposlaw12.ThrusterSums", spec := "thrusterSums", unfollowed := true, recurses := true, apart := false, narrowed := true }
def ThrusterSumsUptoSaid : Prop := thrusterSumsUptoRow.holds Try.pinned (OpenSpec.upto thrusterSumsSpec)

end Rows
end Go.Proofs.Ytphcfpphnmpcbaa
