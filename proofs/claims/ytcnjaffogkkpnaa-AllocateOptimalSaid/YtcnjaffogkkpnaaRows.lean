/-
  No cell of these rows narrows 'for every input' (looked for: loops, veiled, ifaces, maps, wideKeys, modest, calm, conditions, laid).
  DERIVED. THE GIVEN ROWS OF THIS SEAT. 5 by the template 'for every input the law returns true; each argument reads behind the call as it read before'; 0 by the template 'total and deterministic' (their statements: YtcnjaffogkkpnaaTotals.lean).
  GIVEN WITH THE SEED: the statements are not yours to turn. If you find one false, say at which input.
  Laid BY PROGRAM, IN A SANDBOX (cutbox-rows.mjs): the forced cells as the released guide's own fill.sh prints them over the translation 265fec0c81ee9d6e… (all of the seat's roots in one cut). By AI agents, Wed Nov 11 2026. No macro, syntax, notation, axiom, sorry.
-/
import Derived.Test.YtcnjaffogkkpnaaChecked
import GoSem.Claim
import GoSem.ClaimJoined
import GoSem.ClaimMapViews
import Derived.JoinedTies
import Derived.KernelRfl
namespace Go.Proofs.Ytcnjaffogkkpnaa
/- THE CELL 'sum', in the pinned program and in every row, IS THE sha256 OF THE DUMP (.gsa) THAT YtcnjaffogkkpnaaProg.lean LOADS. Nothing in Lean hashes anything: it is a label: what it is worth is what the hold of that sum in a sandbox is worth. -/
noncomputable def Try.pinned : Pinned := { name := "ytcnjaffogkkpnaa", sum := "265fec0c81ee9d6e843f2e3485f27bd4fcbafba881b2f58ba8d1f5af83232fae", checked := Try.checked }
namespace Rows
def none {H : Type} : Left H := { results := [], args := [] }

/-- 'dynposlaw14.AllocateNothing': WHATEVER THE INPUT: true; the input reads as it did. -/
def allocateNothingSpec : ChangeSpec := { name := "allocateNothing", fn := fun _ => fun
  | [d] => { results := [.lit (.bool true)], args := [d] }
  | _ => none }
def allocateNothingRow : OpenClaim := { program := "ytcnjaffogkkpnaa", sum := "265fec0c81ee9d6e843f2e3485f27bd4fcbafba881b2f58ba8d1f5af83232fae", func := "dynpos/dynposlaw14.AllocateNothing", spec := "allocateNothing", unfollowed := true, recurses := true, apart := false }
def AllocateNothingSaid : Prop := allocateNothingRow.holds Try.pinned (OpenSpec.ofChange allocateNothingSpec)

/-- ITS FALSE NEIGHBOUR: 'it returns false'. Refute it at one input. -/
def allocateNothingWrong : ChangeSpec := { name := "allocateNothing", fn := fun _ => fun
  | [d] => { results := [.lit (.bool false)], args := [d] }
  | _ => none }
def AllocateNothingWrongFalsely : Prop := allocateNothingRow.holds Try.pinned (OpenSpec.ofChange allocateNothingWrong)

/-- 'dynposlaw14.AllocateMonotone': WHATEVER THE INPUT: true; the input reads as it did. -/
def allocateMonotoneSpec : ChangeSpec := { name := "allocateMonotone", fn := fun _ => fun
  | [d] => { results := [.lit (.bool true)], args := [d] }
  | _ => none }
def allocateMonotoneRow : OpenClaim := { program := "ytcnjaffogkkpnaa", sum := "265fec0c81ee9d6e843f2e3485f27bd4fcbafba881b2f58ba8d1f5af83232fae", func := "dynpos/dynposlaw14.AllocateMonotone", spec := "allocateMonotone", unfollowed := true, recurses := true, apart := false }
def AllocateMonotoneSaid : Prop := allocateMonotoneRow.holds Try.pinned (OpenSpec.ofChange allocateMonotoneSpec)

/-- ITS FALSE NEIGHBOUR: 'it returns false'. Refute it at one input. -/
def allocateMonotoneWrong : ChangeSpec := { name := "allocateMonotone", fn := fun _ => fun
  | [d] => { results := [.lit (.bool false)], args := [d] }
  | _ => none }
def AllocateMonotoneWrongFalsely : Prop := allocateMonotoneRow.holds Try.pinned (OpenSpec.ofChange allocateMonotoneWrong)

/-- 'dynposlaw14.AllocateRates': WHATEVER THE INPUT: true; the input reads as it did. -/
def allocateRatesSpec : ChangeSpec := { name := "allocateRates", fn := fun _ => fun
  | [d] => { results := [.lit (.bool true)], args := [d] }
  | _ => none }
def allocateRatesRow : OpenClaim := { program := "ytcnjaffogkkpnaa", sum := "265fec0c81ee9d6e843f2e3485f27bd4fcbafba881b2f58ba8d1f5af83232fae", func := "dynpos/dynposlaw14.AllocateRates", spec := "allocateRates", unfollowed := true, recurses := true, apart := false }
def AllocateRatesSaid : Prop := allocateRatesRow.holds Try.pinned (OpenSpec.ofChange allocateRatesSpec)

/-- ITS FALSE NEIGHBOUR: 'it returns false'. Refute it at one input. -/
def allocateRatesWrong : ChangeSpec := { name := "allocateRates", fn := fun _ => fun
  | [d] => { results := [.lit (.bool false)], args := [d] }
  | _ => none }
def AllocateRatesWrongFalsely : Prop := allocateRatesRow.holds Try.pinned (OpenSpec.ofChange allocateRatesWrong)

/-- 'dynposlaw14.AllocateStations': WHATEVER THE INPUT: true; the input reads as it did. -/
def allocateStationsSpec : ChangeSpec := { name := "allocateStations", fn := fun _ => fun
  | [d] => { results := [.lit (.bool true)], args := [d] }
  | _ => none }
def allocateStationsRow : OpenClaim := { program := "ytcnjaffogkkpnaa", sum := "265fec0c81ee9d6e843f2e3485f27bd4fcbafba881b2f58ba8d1f5af83232fae", func := "dynpos/dynposlaw14.AllocateStations", spec := "allocateStations", unfollowed := true, recurses := true, apart := false }
def AllocateStationsSaid : Prop := allocateStationsRow.holds Try.pinned (OpenSpec.ofChange allocateStationsSpec)

/-- ITS FALSE NEIGHBOUR: 'it returns false'. Refute it at one input. -/
def allocateStationsWrong : ChangeSpec := { name := "allocateStations", fn := fun _ => fun
  | [d] => { results := [.lit (.bool false)], args := [d] }
  | _ => none }
def AllocateStationsWrongFalsely : Prop := allocateStationsRow.holds Try.pinned (OpenSpec.ofChange allocateStationsWrong)

/-- 'dynposlaw14.AllocateOptimal': WHATEVER THE INPUT: true; the input reads as it did. -/
def allocateOptimalSpec : ChangeSpec := { name := "allocateOptimal", fn := fun _ => fun
  | [d] => { results := [.lit (.bool true)], args := [d] }
  | _ => none }
def allocateOptimalRow : OpenClaim := { program := "ytcnjaffogkkpnaa", sum := "265fec0c81ee9d6e843f2e3485f27bd4fcbafba881b2f58ba8d1f5af83232fae", func := "dynpos/dynposlaw14.AllocateOptimal", spec := "allocateOptimal", unfollowed := true, recurses := true, apart := false }
def AllocateOptimalSaid : Prop := allocateOptimalRow.holds Try.pinned (OpenSpec.ofChange allocateOptimalSpec)

/-- ITS FALSE NEIGHBOUR: 'it returns false'. Refute it at one input. -/
def allocateOptimalWrong : ChangeSpec := { name := "allocateOptimal", fn := fun _ => fun
  | [d] => { results := [.lit (.bool false)], args := [d] }
  | _ => none }
def AllocateOptimalWrongFalsely : Prop := allocateOptimalRow.holds Try.pinned (OpenSpec.ofChange allocateOptimalWrong)

/- THE SECOND FORM. 'bulk': how many values and letters a reading holds, each counted each time it is reached (what is shared counts as often as it is met; a slice's spare places count too). A statement '..UptoSaid' is the law's where the arguments, and the package variables that the reading takes, are together of bulk at most 1048576: NARROWER than '..Said'. Prove '..Said' where nothing that the law and all that it calls make is longer than what came in: it says more and counts as full. Else prove '..UptoSaid'. A law counts once. -/
mutual
def uptoBulk {H : Type} : DataW H → Nat
  | .lit (.string bytes) => bytes.length + 1
  | .lit _ => 1
  | .nil => 1
  | .ptr d => uptoBulk d + 1
  | .slice elems spare => uptoBulkAll elems + uptoBulkAll spare + 1
  | .agg parts => uptoBulkAll parts + 1
  | .iface _ d => uptoBulk d + 1
  | .map entries => uptoBulkEntries entries + 1
  | .held _ => 1
def uptoBulkAll {H : Type} : List (DataW H) → Nat
  | [] => 0
  | d :: r => uptoBulk d + uptoBulkAll r
def uptoBulkEntries {H : Type} : List (Lit × DataW H) → Nat
  | [] => 0
  | x :: r => uptoBulkEntry x + uptoBulkEntries r
def uptoBulkEntry {H : Type} : Lit × DataW H → Nat
  | (.string bytes, d) => bytes.length + uptoBulk d + 1
  | (_, d) => uptoBulk d + 1
 end
def uptoSmall : (H : Type) → List (DataW H) → Bool := fun _ ds => decide (uptoBulkAll ds ≤ 1048576)
def OpenSpec.upto (s : _root_.Go.ChangeSpec) : _root_.Go.OpenSpec := { _root_.Go.OpenSpec.ofChange s with cond := some uptoSmall }

/-- 'dynposlaw14.AllocateNothing', WHERE WHAT IT READS IS OF BULK AT MOST 1048576: true; the input reads as it did. -/
def allocateNothingUptoRow : OpenClaim := { program := "ytcnjaffogkkpnaa", sum := "265fec0c81ee9d6e843f2e3485f27bd4fcbafba881b2f58ba8d1f5af83232fae", func := "dynpos/dynposlaw14.AllocateNothing", spec := "allocateNothing", unfollowed := true, recurses := true, apart := false, narrowed := true }
def AllocateNothingUptoSaid : Prop := allocateNothingUptoRow.holds Try.pinned (OpenSpec.upto allocateNothingSpec)

/-- 'dynposlaw14.AllocateMonotone', WHERE WHAT IT READS IS OF BULK AT MOST 1048576: true; the input reads as it did. -/
def allocateMonotoneUptoRow : OpenClaim := { program := "ytcnjaffogkkpnaa", sum := "265fec0c81ee9d6e843f2e3485f27bd4fcbafba881b2f58ba8d1f5af83232fae", func := "dynpos/dynposlaw14.AllocateMonotone", spec := "allocateMonotone", unfollowed := true, recurses := true, apart := false, narrowed := true }
def AllocateMonotoneUptoSaid : Prop := allocateMonotoneUptoRow.holds Try.pinned (OpenSpec.upto allocateMonotoneSpec)

/-- 'dynposlaw14.AllocateRates', WHERE WHAT IT READS IS OF BULK AT MOST 1048576: true; the input reads as it did. -/
def allocateRatesUptoRow : OpenClaim := { program := "ytcnjaffogkkpnaa", sum := "265fec0c81ee9d6e843f2e3485f27bd4fcbafba881b2f58ba8d1f5af83232fae", func := "dynpos/dynposlaw14.AllocateRates", spec := "allocateRates", unfollowed := true, recurses := true, apart := false, narrowed := true }
def AllocateRatesUptoSaid : Prop := allocateRatesUptoRow.holds Try.pinned (OpenSpec.upto allocateRatesSpec)

/-- 'dynposlaw14.AllocateStations', WHERE WHAT IT READS IS OF BULK AT MOST 1048576: true; the input reads as it did. -/
def allocateStationsUptoRow : OpenClaim := { program := "ytcnjaffogkkpnaa", sum := "265fec0c81ee9d6e843f2e3485f27bd4fcbafba881b2f58ba8d1f5af83232fae", func := "dynpos/dynposlaw14.AllocateStations", spec := "allocateStations", unfollowed := true, recurses := true, apart := false, narrowed := true }
def AllocateStationsUptoSaid : Prop := allocateStationsUptoRow.holds Try.pinned (OpenSpec.upto allocateStationsSpec)

/-- 'dynposlaw14.AllocateOptimal', WHERE WHAT IT READS IS OF BULK AT MOST 1048576: true; the input reads as it did. -/
def allocateOptimalUptoRow : OpenClaim := { program := "ytcnjaffogkkpnaa", sum := "265fec0c81ee9d6e843f2e3485f27bd4fcbafba881b2f58ba8d1f5af83232fae", func := "dynpos/dynposlaw14.AllocateOptimal", spec := "allocateOptimal", unfollowed := true, recurses := true, apart := false, narrowed := true }
def AllocateOptimalUptoSaid : Prop := allocateOptimalUptoRow.holds Try.pinned (OpenSpec.upto allocateOptimalSpec)

end Rows
end Go.Proofs.Ytcnjaffogkkpnaa
