/-
  No cell of these rows narrows 'for every input' (looked for: loops, veiled, ifaces, maps, wideKeys, modest, calm, conditions, laid).
  DERIVED. THE GIVEN ROWS OF THIS SEAT. 5 by the template 'for every input the law returns true; each argument reads behind the call as it read before'; 0 by the template 'total and deterministic' (their statements: YtaekifnmofjhhaaTotals.lean).
  GIVEN WITH THE SEED: the statements are not yours to turn. If you find one false, say at which input.
  Laid BY PROGRAM, IN A SANDBOX (cutbox-rows.mjs): the forced cells as the released guide's own fill.sh prints them over the translation 7b09bec1b8be2506… (all of the seat's roots in one cut). By AI agents, Wed Nov 11 2026. No macro, syntax, notation, axiom, sorry.
-/
import Derived.Test.YtaekifnmofjhhaaChecked
import GoSem.Claim
import GoSem.ClaimJoined
import GoSem.ClaimMapViews
import Derived.JoinedTies
import Derived.KernelRfl
namespace Go.Proofs.Ytaekifnmofjhhaa
/- THE CELL 'sum', in the pinned program and in every row, IS THE sha256 OF THE DUMP (.gsa) THAT YtaekifnmofjhhaaProg.lean LOADS. Nothing in Lean hashes anything: it is a label: what it is worth is what the hold of that sum in a sandbox is worth. -/
noncomputable def Try.pinned : Pinned := { name := "ytaekifnmofjhhaa", sum := "7b09bec1b8be25068f4460c0b109fbeee6109c4a562a78c0f05458d4cafcb82a", checked := Try.checked }
namespace Rows
def none {H : Type} : Left H := { results := [], args := [] }

/-- 'dynposlaw25.CapabilityReserves': WHATEVER THE INPUT: true; the input reads as it did. -/
def capabilityReservesSpec : ChangeSpec := { name := "capabilityReserves", fn := fun _ => fun
  | [d] => { results := [.lit (.bool true)], args := [d] }
  | _ => none }
def capabilityReservesRow : OpenClaim := { program := "ytaekifnmofjhhaa", sum := "7b09bec1b8be25068f4460c0b109fbeee6109c4a562a78c0f05458d4cafcb82a", func := "dynpos/dynposlaw25.CapabilityReserves", spec := "capabilityReserves", unfollowed := true, recurses := true, apart := false }
def CapabilityReservesSaid : Prop := capabilityReservesRow.holds Try.pinned (OpenSpec.ofChange capabilityReservesSpec)

/-- ITS FALSE NEIGHBOUR: 'it returns false'. Refute it at one input. -/
def capabilityReservesWrong : ChangeSpec := { name := "capabilityReserves", fn := fun _ => fun
  | [d] => { results := [.lit (.bool false)], args := [d] }
  | _ => none }
def CapabilityReservesWrongFalsely : Prop := capabilityReservesRow.holds Try.pinned (OpenSpec.ofChange capabilityReservesWrong)

/-- 'dynposlaw25.CapabilityNothing': WHATEVER THE INPUT: true; the input reads as it did. -/
def capabilityNothingSpec : ChangeSpec := { name := "capabilityNothing", fn := fun _ => fun
  | [d] => { results := [.lit (.bool true)], args := [d] }
  | _ => none }
def capabilityNothingRow : OpenClaim := { program := "ytaekifnmofjhhaa", sum := "7b09bec1b8be25068f4460c0b109fbeee6109c4a562a78c0f05458d4cafcb82a", func := "dynpos/dynposlaw25.CapabilityNothing", spec := "capabilityNothing", unfollowed := true, recurses := true, apart := false }
def CapabilityNothingSaid : Prop := capabilityNothingRow.holds Try.pinned (OpenSpec.ofChange capabilityNothingSpec)

/-- ITS FALSE NEIGHBOUR: 'it returns false'. Refute it at one input. -/
def capabilityNothingWrong : ChangeSpec := { name := "capabilityNothing", fn := fun _ => fun
  | [d] => { results := [.lit (.bool false)], args := [d] }
  | _ => none }
def CapabilityNothingWrongFalsely : Prop := capabilityNothingRow.holds Try.pinned (OpenSpec.ofChange capabilityNothingWrong)

/-- 'dynposlaw25.CapabilityWithout': WHATEVER THE INPUT: true; the input reads as it did. -/
def capabilityWithoutSpec : ChangeSpec := { name := "capabilityWithout", fn := fun _ => fun
  | [d] => { results := [.lit (.bool true)], args := [d] }
  | _ => none }
def capabilityWithoutRow : OpenClaim := { program := "ytaekifnmofjhhaa", sum := "7b09bec1b8be25068f4460c0b109fbeee6109c4a562a78c0f05458d4cafcb82a", func := "dynpos/dynposlaw25.CapabilityWithout", spec := "capabilityWithout", unfollowed := true, recurses := true, apart := false }
def CapabilityWithoutSaid : Prop := capabilityWithoutRow.holds Try.pinned (OpenSpec.ofChange capabilityWithoutSpec)

/-- ITS FALSE NEIGHBOUR: 'it returns false'. Refute it at one input. -/
def capabilityWithoutWrong : ChangeSpec := { name := "capabilityWithout", fn := fun _ => fun
  | [d] => { results := [.lit (.bool false)], args := [d] }
  | _ => none }
def CapabilityWithoutWrongFalsely : Prop := capabilityWithoutRow.holds Try.pinned (OpenSpec.ofChange capabilityWithoutWrong)

/-- 'dynposlaw25.CapabilityAlong': WHATEVER THE INPUT: true; the input reads as it did. -/
def capabilityAlongSpec : ChangeSpec := { name := "capabilityAlong", fn := fun _ => fun
  | [d1, d2, d3] => { results := [.lit (.bool true)], args := [d1, d2, d3] }
  | _ => none }
def capabilityAlongRow : OpenClaim := { program := "ytaekifnmofjhhaa", sum := "7b09bec1b8be25068f4460c0b109fbeee6109c4a562a78c0f05458d4cafcb82a", func := "dynpos/dynposlaw25.CapabilityAlong", spec := "capabilityAlong", unfollowed := true, recurses := true, apart := false }
def CapabilityAlongSaid : Prop := capabilityAlongRow.holds Try.pinned (OpenSpec.ofChange capabilityAlongSpec)

/-- ITS FALSE NEIGHBOUR: 'it returns false'. Refute it at one input. -/
def capabilityAlongWrong : ChangeSpec := { name := "capabilityAlong", fn := fun _ => fun
  | [d1, d2, d3] => { results := [.lit (.bool false)], args := [d1, d2, d3] }
  | _ => none }
def CapabilityAlongWrongFalsely : Prop := capabilityAlongRow.holds Try.pinned (OpenSpec.ofChange capabilityAlongWrong)

/-- 'dynposlaw25.CapabilityPolar': WHATEVER THE INPUT: true; the input reads as it did. -/
def capabilityPolarSpec : ChangeSpec := { name := "capabilityPolar", fn := fun _ => fun
  | [d1, d2] => { results := [.lit (.bool true)], args := [d1, d2] }
  | _ => none }
def capabilityPolarRow : OpenClaim := { program := "ytaekifnmofjhhaa", sum := "7b09bec1b8be25068f4460c0b109fbeee6109c4a562a78c0f05458d4cafcb82a", func := "dynpos/dynposlaw25.CapabilityPolar", spec := "capabilityPolar", unfollowed := true, recurses := true, apart := false }
def CapabilityPolarSaid : Prop := capabilityPolarRow.holds Try.pinned (OpenSpec.ofChange capabilityPolarSpec)

/-- ITS FALSE NEIGHBOUR: 'it returns false'. Refute it at one input. -/
def capabilityPolarWrong : ChangeSpec := { name := "capabilityPolar", fn := fun _ => fun
  | [d1, d2] => { results := [.lit (.bool false)], args := [d1, d2] }
  | _ => none }
def CapabilityPolarWrongFalsely : Prop := capabilityPolarRow.holds Try.pinned (OpenSpec.ofChange capabilityPolarWrong)

/- THE SECOND FORM. 'bulk': how many values and letters a reading holds, each counted each time it is reached (what is shared counts as often as it is met; a slice's spare places count too). A statement '..UptoSaid' is the law's where the arguments, and the package variables that the reading takes, are together of bulk at most 1048576: NARROWER than '..Said'. Prove '..Said' where nothing that the law and all that it calls make is longer than what came in: it says more and counts as full. Else prove '..UptoSaid'. A law counts once. -/
mutual
def uptoBulk {H : Type} : DataW H → Nat
  | .lit (.string bytes) => bytes.length + 1
  | .lit _ => 1
  | .nil => 1
  | .ptr d => uptoBulk d + 1
  | .slice elems spare => uptoBulkAll elems + uptoBulkAll spare + 1
  | .agg parts => uptoBulkAll parts + 1
  | .iface _ d => uptoBulk d + 1
  | .map entries => uptoBulkEntries entries + 1
  | .held _ => 1
def uptoBulkAll {H : Type} : List (DataW H) → Nat
  | [] => 0
  | d :: r => uptoBulk d + uptoBulkAll r
def uptoBulkEntries {H : Type} : List (Lit × DataW H) → Nat
  | [] => 0
  | x :: r => uptoBulkEntry x + uptoBulkEntries r
def uptoBulkEntry {H : Type} : Lit × DataW H → Nat
  | (.string bytes, d) => bytes.length + uptoBulk d + 1
  | (_, d) => uptoBulk d + 1
 end
def uptoSmall : (H : Type) → List (DataW H) → Bool := fun _ ds => decide (uptoBulkAll ds ≤ 1048576)
def OpenSpec.upto (s : _root_.Go.ChangeSpec) : _root_.Go.OpenSpec := { _root_.Go.OpenSpec.ofChange s with cond := some uptoSmall }

/-- 'dynposlaw25.CapabilityReserves', WHERE WHAT IT READS IS OF BULK AT MOST 1048576: true; the input reads as it did. -/
def capabilityReservesUptoRow : OpenClaim := { program := "ytaekifnmofjhhaa", sum := "7b09bec1b8be25068f4460c0b109fbeee6109c4a562a78c0f05458d4cafcb82a", func := "dynpos/dynposlaw25.CapabilityReserves", spec := "capabilityReserves", unfollowed := true, recurses := true, apart := false, narrowed := true }
def CapabilityReservesUptoSaid : Prop := capabilityReservesUptoRow.holds Try.pinned (OpenSpec.upto capabilityReservesSpec)

/-- 'dynposlaw25.CapabilityNothing', WHERE WHAT IT READS IS OF BULK AT MOST 1048576: true; the input reads as it did. -/
def capabilityNothingUptoRow : OpenClaim := { program := "ytaekifnmofjhhaa", sum := "7b09bec1b8be25068f4460c0b109fbeee6109c4a562a78c0f05458d4cafcb82a", func := "dynpos/dynposlaw25.CapabilityNothing", spec := "capabilityNothing", unfollowed := true, recurses := true, apart := false, narrowed := true }
def CapabilityNothingUptoSaid : Prop := capabilityNothingUptoRow.holds Try.pinned (OpenSpec.upto capabilityNothingSpec)

/-- 'dynposlaw25.CapabilityWithout', WHERE WHAT IT READS IS OF BULK AT MOST 1048576: true; the input reads as it did. -/
def capabilityWithoutUptoRow : OpenClaim := { program := "ytaekifnmofjhhaa", sum := "7b09bec1b8be25068f4460c0b109fbeee6109c4a562a78c0f05458d4cafcb82a", func := "dynpos/dynposlaw25.CapabilityWithout", spec := "capabilityWithout", unfollowed := true, recurses := true, apart := false, narrowed := true }
def CapabilityWithoutUptoSaid : Prop := capabilityWithoutUptoRow.holds Try.pinned (OpenSpec.upto capabilityWithoutSpec)

/-- 'dynposlaw25.CapabilityAlong', WHERE WHAT IT READS IS OF BULK AT MOST 1048576: true; the input reads as it did. -/
def capabilityAlongUptoRow : OpenClaim := { program := "ytaekifnmofjhhaa", sum := "7b09bec1b8be25068f4460c0b109fbeee6109c4a562a78c0f05458d4cafcb82a", func := "dynpos/dynposlaw25.CapabilityAlong", spec := "capabilityAlong", unfollowed := true, recurses := true, apart := false, narrowed := true }
def CapabilityAlongUptoSaid : Prop := capabilityAlongUptoRow.holds Try.pinned (OpenSpec.upto capabilityAlongSpec)

/-- 'dynposlaw25.CapabilityPolar', WHERE WHAT IT READS IS OF BULK AT MOST 1048576: true; the input reads as it did. -/
def capabilityPolarUptoRow : OpenClaim := { program := "ytaekifnmofjhhaa", sum := "7b09bec1b8be25068f4460c0b109fbeee6109c4a562a78c0f05458d4cafcb82a", func := "dynpos/dynposlaw25.CapabilityPolar", spec := "capabilityPolar", unfollowed := true, recurses := true, apart := false, narrowed := true }
def CapabilityPolarUptoSaid : Prop := capabilityPolarUptoRow.holds Try.pinned (OpenSpec.upto capabilityPolarSpec)

end Rows
end Go.Proofs.Ytaekifnmofjhhaa
