/-
  No cell of these rows narrows 'for every input' (looked for: loops, veiled, ifaces, maps, wideKeys, modest, calm, conditions, laid).
  DERIVED. THE GIVEN ROWS OF THIS SEAT. 6 by the template 'for every input the law returns true; each argument reads behind the call as it read before'; 0 by the template 'total and deterministic' (their statements: YtbacfgghneknjaaTotals.lean).
  GIVEN WITH THE SEED: the statements are not yours to turn. If you find one false, say at which input.
  Laid BY PROGRAM, IN A SANDBOX (cutbox-rows.mjs): the forced cells as the released guide's own fill.sh prints them over the translation 8363a1ad025c9464… (all of the seat's roots in one cut). By AI agents, Wed Nov 11 2026. No macro, syntax, notation, axiom, sorry.
-/
import Derived.Test.YtbacfgghneknjaaChecked
import GoSem.Claim
import GoSem.ClaimJoined
import GoSem.ClaimMapViews
import Derived.JoinedTies
import Derived.KernelRfl
namespace Go.Proofs.Ytbacfgghneknjaa
/- THE CELL 'sum', in the pinned program and in every row, IS THE sha256 OF THE DUMP (.gsa) THAT YtbacfgghneknjaaProg.lean LOADS. Nothing in Lean hashes anything: it is a label: what it is worth is what the hold of that sum in a sandbox is worth. -/
noncomputable def Try.pinned : Pinned := { name := "ytbacfgghneknjaa", sum := "8363a1ad025c94640e4c60cd9294c917b90907a28ba1529e88ba79333e18d456", checked := Try.checked }
namespace Rows
def none {H : Type} : Left H := { results := [], args := [] }

/-- 'dynposlaw13.ShareNearest': WHATEVER THE INPUT: true; the input reads as it did. -/
def shareNearestSpec : ChangeSpec := { name := "shareNearest", fn := fun _ => fun
  | [d] => { results := [.lit (.bool true)], args := [d] }
  | _ => none }
def shareNearestRow : OpenClaim := { program := "ytbacfgghneknjaa", sum := "8363a1ad025c94640e4c60cd9294c917b90907a28ba1529e88ba79333e18d456", func := "dynpos/dynposlaw13.ShareNearest", spec := "shareNearest", unfollowed := true, recurses := true, apart := false }
def ShareNearestSaid : Prop := shareNearestRow.holds Try.pinned (OpenSpec.ofChange shareNearestSpec)

/-- ITS FALSE NEIGHBOUR: 'it returns false'. Refute it at one input. -/
def shareNearestWrong : ChangeSpec := { name := "shareNearest", fn := fun _ => fun
  | [d] => { results := [.lit (.bool false)], args := [d] }
  | _ => none }
def ShareNearestWrongFalsely : Prop := shareNearestRow.holds Try.pinned (OpenSpec.ofChange shareNearestWrong)

/-- 'dynposlaw13.ShareScales': WHATEVER THE INPUT: true; the input reads as it did. -/
def shareScalesSpec : ChangeSpec := { name := "shareScales", fn := fun _ => fun
  | [d] => { results := [.lit (.bool true)], args := [d] }
  | _ => none }
def shareScalesRow : OpenClaim := { program := "ytbacfgghneknjaa", sum := "8363a1ad025c94640e4c60cd9294c917b90907a28ba1529e88ba79333e18d456", func := "dynpos/dynposlaw13.ShareScales", spec := "shareScales", unfollowed := true, recurses := true, apart := false }
def ShareScalesSaid : Prop := shareScalesRow.holds Try.pinned (OpenSpec.ofChange shareScalesSpec)

/-- ITS FALSE NEIGHBOUR: 'it returns false'. Refute it at one input. -/
def shareScalesWrong : ChangeSpec := { name := "shareScales", fn := fun _ => fun
  | [d] => { results := [.lit (.bool false)], args := [d] }
  | _ => none }
def ShareScalesWrongFalsely : Prop := shareScalesRow.holds Try.pinned (OpenSpec.ofChange shareScalesWrong)

/-- 'dynposlaw13.ShareRanges': WHATEVER THE INPUT: true; the input reads as it did. -/
def shareRangesSpec : ChangeSpec := { name := "shareRanges", fn := fun _ => fun
  | [d] => { results := [.lit (.bool true)], args := [d] }
  | _ => none }
def shareRangesRow : OpenClaim := { program := "ytbacfgghneknjaa", sum := "8363a1ad025c94640e4c60cd9294c917b90907a28ba1529e88ba79333e18d456", func := "dynpos/dynposlaw13.ShareRanges", spec := "shareRanges", unfollowed := true, recurses := true, apart := false }
def ShareRangesSaid : Prop := shareRangesRow.holds Try.pinned (OpenSpec.ofChange shareRangesSpec)

/-- ITS FALSE NEIGHBOUR: 'it returns false'. Refute it at one input. -/
def shareRangesWrong : ChangeSpec := { name := "shareRanges", fn := fun _ => fun
  | [d] => { results := [.lit (.bool false)], args := [d] }
  | _ => none }
def ShareRangesWrongFalsely : Prop := shareRangesRow.holds Try.pinned (OpenSpec.ofChange shareRangesWrong)

/-- 'dynposlaw13.SharePrice': WHATEVER THE INPUT: true; the input reads as it did. -/
def sharePriceSpec : ChangeSpec := { name := "sharePrice", fn := fun _ => fun
  | [d] => { results := [.lit (.bool true)], args := [d] }
  | _ => none }
def sharePriceRow : OpenClaim := { program := "ytbacfgghneknjaa", sum := "8363a1ad025c94640e4c60cd9294c917b90907a28ba1529e88ba79333e18d456", func := "dynpos/dynposlaw13.SharePrice", spec := "sharePrice", unfollowed := true, recurses := true, apart := false }
def SharePriceSaid : Prop := sharePriceRow.holds Try.pinned (OpenSpec.ofChange sharePriceSpec)

/-- ITS FALSE NEIGHBOUR: 'it returns false'. Refute it at one input. -/
def sharePriceWrong : ChangeSpec := { name := "sharePrice", fn := fun _ => fun
  | [d] => { results := [.lit (.bool false)], args := [d] }
  | _ => none }
def SharePriceWrongFalsely : Prop := sharePriceRow.holds Try.pinned (OpenSpec.ofChange sharePriceWrong)

/-- 'dynposlaw13.ShareExact': WHATEVER THE INPUT: true; the input reads as it did. -/
def shareExactSpec : ChangeSpec := { name := "shareExact", fn := fun _ => fun
  | [d1, d2, d3, d4] => { results := [.lit (.bool true)], args := [d1, d2, d3, d4] }
  | _ => none }
def shareExactRow : OpenClaim := { program := "ytbacfgghneknjaa", sum := "8363a1ad025c94640e4c60cd9294c917b90907a28ba1529e88ba79333e18d456", func := "dynpos/dynposlaw13.ShareExact", spec := "shareExact", unfollowed := true, recurses := true, apart := false }
def ShareExactSaid : Prop := shareExactRow.holds Try.pinned (OpenSpec.ofChange shareExactSpec)

/-- ITS FALSE NEIGHBOUR: 'it returns false'. Refute it at one input. -/
def shareExactWrong : ChangeSpec := { name := "shareExact", fn := fun _ => fun
  | [d1, d2, d3, d4] => { results := [.lit (.bool false)], args := [d1, d2, d3, d4] }
  | _ => none }
def ShareExactWrongFalsely : Prop := shareExactRow.holds Try.pinned (OpenSpec.ofChange shareExactWrong)

/-- 'dynposlaw13.ShareLeast': WHATEVER THE INPUT: true; the input reads as it did. -/
def shareLeastSpec : ChangeSpec := { name := "shareLeast", fn := fun _ => fun
  | [d] => { results := [.lit (.bool true)], args := [d] }
  | _ => none }
def shareLeastRow : OpenClaim := { program := "ytbacfgghneknjaa", sum := "8363a1ad025c94640e4c60cd9294c917b90907a28ba1529e88ba79333e18d456", func := "dynpos/dynposlaw13.ShareLeast", spec := "shareLeast", unfollowed := true, recurses := true, apart := false }
def ShareLeastSaid : Prop := shareLeastRow.holds Try.pinned (OpenSpec.ofChange shareLeastSpec)

/-- ITS FALSE NEIGHBOUR: 'it returns false'. Refute it at one input. -/
def shareLeastWrong : ChangeSpec := { name := "shareLeast", fn := fun _ => fun
  | [d] => { results := [.lit (.bool false)], args := [d] }
  | _ => none }
def ShareLeastWrongFalsely : Prop := shareLeastRow.holds Try.pinned (OpenSpec.ofChange shareLeastWrong)

/- THE SECOND FORM. 'bulk': how many values and letters a reading holds, each counted each time it is reached (what is shared counts as often as it is met; a slice's spare places count too). A statement '..UptoSaid' is the law's where the arguments, and the package variables that the reading takes, are together of bulk at most 1048576: NARROWER than '..Said'. Prove '..Said' where nothing that the law and all that it calls make is longer than what came in: it says more and counts as full. Else prove '..UptoSaid'. A law counts once. -/
mutual
def uptoBulk {H : Type} : DataW H → Nat
  | .lit (.string bytes) => bytes.length + 1
  | .lit _ => 1
  | .nil => 1
  | .ptr d => uptoBulk d + 1
  | .slice elems spare => uptoBulkAll elems + uptoBulkAll spare + 1
  | .agg parts => uptoBulkAll parts + 1
  | .iface _ d => uptoBulk d + 1
  | .map entries => uptoBulkEntries entries + 1
  | .held _ => 1
def uptoBulkAll {H : Type} : List (DataW H) → Nat
  | [] => 0
  | d :: r => uptoBulk d + uptoBulkAll r
def uptoBulkEntries {H : Type} : List (Lit × DataW H) → Nat
  | [] => 0
  | x :: r => uptoBulkEntry x + uptoBulkEntries r
def uptoBulkEntry {H : Type} : Lit × DataW H → Nat
  | (.string bytes, d) => bytes.length + uptoBulk d + 1
  | (_, d) => uptoBulk d + 1
 end
def uptoSmall : (H : Type) → List (DataW H) → Bool := fun _ ds => decide (uptoBulkAll ds ≤ 1048576)
def OpenSpec.upto (s : _root_.Go.ChangeSpec) : _root_.Go.OpenSpec := { _root_.Go.OpenSpec.ofChange s with cond := some uptoSmall }

/-- 'dynposlaw13.ShareNearest', WHERE WHAT IT READS IS OF BULK AT MOST 1048576: true; the input reads as it did. -/
def shareNearestUptoRow : OpenClaim := { program := "ytbacfgghneknjaa", sum := "8363a1ad025c94640e4c60cd9294c917b90907a28ba1529e88ba79333e18d456", func := "dynpos/dynposlaw13.ShareNearest", spec := "shareNearest", unfollowed := true, recurses := true, apart := false, narrowed := true }
def ShareNearestUptoSaid : Prop := shareNearestUptoRow.holds Try.pinned (OpenSpec.upto shareNearestSpec)

/-- 'dynposlaw13.ShareScales', WHERE WHAT IT READS IS OF BULK AT MOST 1048576: true; the input reads as it did. -/
def shareScalesUptoRow : OpenClaim := { program := "ytbacfgghneknjaa", sum := "8363a1ad025c94640e4c60cd9294c917b90907a28ba1529e88ba79333e18d456", func := "dynpos/dynposlaw13.ShareScales", spec := "shareScales", unfollowed := true, recurses := true, apart := false, narrowed := true }
def ShareScalesUptoSaid : Prop := shareScalesUptoRow.holds Try.pinned (OpenSpec.upto shareScalesSpec)

/-- 'dynposlaw13.ShareRanges', WHERE WHAT IT READS IS OF BULK AT MOST 1048576: true; the input reads as it did. -/
def shareRangesUptoRow : OpenClaim := { program := "ytbacfgghneknjaa", sum := "8363a1ad025c94640e4c60cd9294c917b90907a28ba1529e88ba79333e18d456", func := "dynpos/dynposlaw13.ShareRanges", spec := "shareRanges", unfollowed := true, recurses := true, apart := false, narrowed := true }
def ShareRangesUptoSaid : Prop := shareRangesUptoRow.holds Try.pinned (OpenSpec.upto shareRangesSpec)

/-- 'dynposlaw13.SharePrice', WHERE WHAT IT READS IS OF BULK AT MOST 1048576: true; the input reads as it did. -/
def sharePriceUptoRow : OpenClaim := { program := "ytbacfgghneknjaa", sum := "8363a1ad025c94640e4c60cd9294c917b90907a28ba1529e88ba79333e18d456", func := "dynpos/dynposlaw13.SharePrice", spec := "sharePrice", unfollowed := true, recurses := true, apart := false, narrowed := true }
def SharePriceUptoSaid : Prop := sharePriceUptoRow.holds Try.pinned (OpenSpec.upto sharePriceSpec)

/-- 'dynposlaw13.ShareExact', WHERE WHAT IT READS IS OF BULK AT MOST 1048576: true; the input reads as it did. -/
def shareExactUptoRow : OpenClaim := { program := "ytbacfgghneknjaa", sum := "8363a1ad025c94640e4c60cd9294c917b90907a28ba1529e88ba79333e18d456", func := "dynpos/dynposlaw13.ShareExact", spec := "shareExact", unfollowed := true, recurses := true, apart := false, narrowed := true }
def ShareExactUptoSaid : Prop := shareExactUptoRow.holds Try.pinned (OpenSpec.upto shareExactSpec)

/-- 'dynposlaw13.ShareLeast', WHERE WHAT IT READS IS OF BULK AT MOST 1048576: true; the input reads as it did. -/
def shareLeastUptoRow : OpenClaim := { program := "ytbacfgghneknjaa", sum := "8363a1ad025c94640e4c60cd9294c917b90907a28ba1529e88ba79333e18d456", func := "dynpos/dynposlaw13.ShareLeast", spec := "shareLeast", unfollowed := true, recurses := true, apart := false, narrowed := true }
def ShareLeastUptoSaid : Prop := shareLeastUptoRow.holds Try.pinned (OpenSpec.upto shareLeastSpec)

end Rows
end Go.Proofs.Ytbacfgghneknjaa
