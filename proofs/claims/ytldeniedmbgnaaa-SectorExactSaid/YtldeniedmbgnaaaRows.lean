/-
  No cell of these rows narrows 'for every input' (looked for: loops, veiled, ifaces, maps, wideKeys, modest, calm, conditions, laid).
  DERIVED. THE GIVEN ROWS OF THIS SEAT. 5 by the template 'for every input the law returns true; each argument reads behind the call as it read before'; 0 by the template 'total and deterministic' (their statements: YtldeniedmbgnaaaTotals.lean).
  GIVEN WITH THE SEED: the statements are not yours to turn. If you find one false, say at which input.
  Laid BY PROGRAM, IN A SANDBOX (cutbox-rows.mjs): the forced cells as the released guide's own fill.sh prints them over the translation dbcae9ee884e47fd… (all of the seat's roots in one cut). By AI agents, Wed Nov 11 2026. No macro, syntax, notation, axiom, sorry.
-/
import Derived.Test.YtldeniedmbgnaaaChecked
import GoSem.Claim
import GoSem.ClaimJoined
import GoSem.ClaimMapViews
import Derived.JoinedTies
import Derived.KernelRfl
namespace Go.Proofs.Ytldeniedmbgnaaa
/- THE CELL 'sum', in the pinned program and in every row, IS THE sha256 OF THE DUMP (.gsa) THAT YtldeniedmbgnaaaProg.lean LOADS. Nothing in Lean hashes anything: it is a label: what it is worth is what the hold of that sum in a sandbox is worth. -/
noncomputable def Try.pinned : Pinned := { name := "ytldeniedmbgnaaa", sum := "dbcae9ee884e47fd68ede867de7654ed8c68de0cea1c37ace7ce34607a80a6e5", checked := Try.checked }
namespace Rows
def none {H : Type} : Left H := { results := [], args := [] }

/-- 'dynposlaw11.SectorMirror': WHATEVER THE INPUT: true; the input reads as it did. -/
def sectorMirrorSpec : ChangeSpec := { name := "sectorMirror", fn := fun _ => fun
  | [d] => { results := [.lit (.bool true)], args := [d] }
  | _ => none }
def sectorMirrorRow : OpenClaim := { program := "ytldeniedmbgnaaa", sum := "dbcae9ee884e47fd68ede867de7654ed8c68de0cea1c37ace7ce34607a80a6e5", func := "dynpos/dynposlaw11.SectorMirror", spec := "sectorMirror", unfollowed := true, recurses := true, apart := false }
def SectorMirrorSaid : Prop := sectorMirrorRow.holds Try.pinned (OpenSpec.ofChange sectorMirrorSpec)

/-- ITS FALSE NEIGHBOUR: 'it returns false'. Refute it at one input. -/
def sectorMirrorWrong : ChangeSpec := { name := "sectorMirror", fn := fun _ => fun
  | [d] => { results := [.lit (.bool false)], args := [d] }
  | _ => none }
def SectorMirrorWrongFalsely : Prop := sectorMirrorRow.holds Try.pinned (OpenSpec.ofChange sectorMirrorWrong)

/-- 'dynposlaw11.SectorExact': WHATEVER THE INPUT: true; the input reads as it did. -/
def sectorExactSpec : ChangeSpec := { name := "sectorExact", fn := fun _ => fun
  | [d1, d2, d3, d4, d5, d6, d7, d8] => { results := [.lit (.bool true)], args := [d1, d2, d3, d4, d5, d6, d7, d8] }
  | _ => none }
def sectorExactRow : OpenClaim := { program := "ytldeniedmbgnaaa", sum := "dbcae9ee884e47fd68ede867de7654ed8c68de0cea1c37ace7ce34607a80a6e5", func := "dynpos/dynposlaw11.SectorExact", spec := "sectorExact", unfollowed := true, recurses := true, apart := false }
def SectorExactSaid : Prop := sectorExactRow.holds Try.pinned (OpenSpec.ofChange sectorExactSpec)

/-- ITS FALSE NEIGHBOUR: 'it returns false'. Refute it at one input. -/
def sectorExactWrong : ChangeSpec := { name := "sectorExact", fn := fun _ => fun
  | [d1, d2, d3, d4, d5, d6, d7, d8] => { results := [.lit (.bool false)], args := [d1, d2, d3, d4, d5, d6, d7, d8] }
  | _ => none }
def SectorExactWrongFalsely : Prop := sectorExactRow.holds Try.pinned (OpenSpec.ofChange sectorExactWrong)

/-- 'dynposlaw11.SectorRanges': WHATEVER THE INPUT: true; the input reads as it did. -/
def sectorRangesSpec : ChangeSpec := { name := "sectorRanges", fn := fun _ => fun
  | [d] => { results := [.lit (.bool true)], args := [d] }
  | _ => none }
def sectorRangesRow : OpenClaim := { program := "ytldeniedmbgnaaa", sum := "dbcae9ee884e47fd68ede867de7654ed8c68de0cea1c37ace7ce34607a80a6e5", func := "dynpos/dynposlaw11.SectorRanges", spec := "sectorRanges", unfollowed := true, recurses := true, apart := false }
def SectorRangesSaid : Prop := sectorRangesRow.holds Try.pinned (OpenSpec.ofChange sectorRangesSpec)

/-- ITS FALSE NEIGHBOUR: 'it returns false'. Refute it at one input. -/
def sectorRangesWrong : ChangeSpec := { name := "sectorRanges", fn := fun _ => fun
  | [d] => { results := [.lit (.bool false)], args := [d] }
  | _ => none }
def SectorRangesWrongFalsely : Prop := sectorRangesRow.holds Try.pinned (OpenSpec.ofChange sectorRangesWrong)

/-- 'dynposlaw11.SectorSmaller': WHATEVER THE INPUT: true; the input reads as it did. -/
def sectorSmallerSpec : ChangeSpec := { name := "sectorSmaller", fn := fun _ => fun
  | [d] => { results := [.lit (.bool true)], args := [d] }
  | _ => none }
def sectorSmallerRow : OpenClaim := { program := "ytldeniedmbgnaaa", sum := "dbcae9ee884e47fd68ede867de7654ed8c68de0cea1c37ace7ce34607a80a6e5", func := "dynpos/dynposlaw11.SectorSmaller", spec := "sectorSmaller", unfollowed := true, recurses := true, apart := false }
def SectorSmallerSaid : Prop := sectorSmallerRow.holds Try.pinned (OpenSpec.ofChange sectorSmallerSpec)

/-- ITS FALSE NEIGHBOUR: 'it returns false'. Refute it at one input. -/
def sectorSmallerWrong : ChangeSpec := { name := "sectorSmaller", fn := fun _ => fun
  | [d] => { results := [.lit (.bool false)], args := [d] }
  | _ => none }
def SectorSmallerWrongFalsely : Prop := sectorSmallerRow.holds Try.pinned (OpenSpec.ofChange sectorSmallerWrong)

/-- 'dynposlaw11.SectorRates': WHATEVER THE INPUT: true; the input reads as it did. -/
def sectorRatesSpec : ChangeSpec := { name := "sectorRates", fn := fun _ => fun
  | [d] => { results := [.lit (.bool true)], args := [d] }
  | _ => none }
def sectorRatesRow : OpenClaim := { program := "ytldeniedmbgnaaa", sum := "dbcae9ee884e47fd68ede867de7654ed8c68de0cea1c37ace7ce34607a80a6e5", func := "dynpos/dynposlaw11.SectorRates", spec := "sectorRates", unfollowed := true, recurses := true, apart := false }
def SectorRatesSaid : Prop := sectorRatesRow.holds Try.pinned (OpenSpec.ofChange sectorRatesSpec)

/-- ITS FALSE NEIGHBOUR: 'it returns false'. Refute it at one input. -/
def sectorRatesWrong : ChangeSpec := { name := "sectorRates", fn := fun _ => fun
  | [d] => { results := [.lit (.bool false)], args := [d] }
  | _ => none }
def SectorRatesWrongFalsely : Prop := sectorRatesRow.holds Try.pinned (OpenSpec.ofChange sectorRatesWrong)

/- THE SECOND FORM. 'bulk': how many values and letters a reading holds, each counted each time it is reached (what is shared counts as often as it is met; a slice's spare places count too). A statement '..UptoSaid' is the law's where the arguments, and the package variables that the reading takes, are together of bulk at most 1048576: NARROWER than '..Said'. Prove '..Said' where nothing that the law and all that it calls make is longer than what came in: it says more and counts as full. Else prove '..UptoSaid'. A law counts once. -/
mutual
def uptoBulk {H : Type} : DataW H → Nat
  | .lit (.string bytes) => bytes.length + 1
  | .lit _ => 1
  | .nil => 1
  | .ptr d => uptoBulk d + 1
  | .slice elems spare => uptoBulkAll elems + uptoBulkAll spare + 1
  | .agg parts => uptoBulkAll parts + 1
  | .iface _ d => uptoBulk d + 1
  | .map entries => uptoBulkEntries entries + 1
  | .held _ => 1
def uptoBulkAll {H : Type} : List (DataW H) → Nat
  | [] => 0
  | d :: r => uptoBulk d + uptoBulkAll r
def uptoBulkEntries {H : Type} : List (Lit × DataW H) → Nat
  | [] => 0
  | x :: r => uptoBulkEntry x + uptoBulkEntries r
def uptoBulkEntry {H : Type} : Lit × DataW H → Nat
  | (.string bytes, d) => bytes.length + uptoBulk d + 1
  | (_, d) => uptoBulk d + 1
 end
def uptoSmall : (H : Type) → List (DataW H) → Bool := fun _ ds => decide (uptoBulkAll ds ≤ 1048576)
def OpenSpec.upto (s : _root_.Go.ChangeSpec) : _root_.Go.OpenSpec := { _root_.Go.OpenSpec.ofChange s with cond := some uptoSmall }

/-- 'dynposlaw11.SectorMirror', WHERE WHAT IT READS IS OF BULK AT MOST 1048576: true; the input reads as it did. -/
def sectorMirrorUptoRow : OpenClaim := { program := "ytldeniedmbgnaaa", sum := "dbcae9ee884e47fd68ede867de7654ed8c68de0cea1c37ace7ce34607a80a6e5", func := "dynpos/dynposlaw11.SectorMirror", spec := "sectorMirror", unfollowed := true, recurses := true, apart := false, narrowed := true }
def SectorMirrorUptoSaid : Prop := sectorMirrorUptoRow.holds Try.pinned (OpenSpec.upto sectorMirrorSpec)

/-- 'dynposlaw11.SectorExact', WHERE WHAT IT READS IS OF BULK AT MOST 1048576: true; the input reads as it did. -/
def sectorExactUptoRow : OpenClaim := { program := "ytldeniedmbgnaaa", sum := "dbcae9ee884e47fd68ede867de7654ed8c68de0cea1c37ace7ce34607a80a6e5", func := "dynpos/dynposlaw11.SectorExact", spec := "sectorExact", unfollowed := true, recurses := true, apart := false, narrowed := true }
def SectorExactUptoSaid : Prop := sectorExactUptoRow.holds Try.pinned (OpenSpec.upto sectorExactSpec)

/-- 'dynposlaw11.SectorRanges', WHERE WHAT IT READS IS OF BULK AT MOST 1048576: true; the input reads as it did. -/
def sectorRangesUptoRow : OpenClaim := { program := "ytldeniedmbgnaaa", sum := "dbcae9ee884e47fd68ede867de7654ed8c68de0cea1c37ace7ce34607a80a6e5", func := "dynpos/dynposlaw11.SectorRanges", spec := "sectorRanges", unfollowed := true, recurses := true, apart := false, narrowed := true }
def SectorRangesUptoSaid : Prop := sectorRangesUptoRow.holds Try.pinned (OpenSpec.upto sectorRangesSpec)

/-- 'dynposlaw11.SectorSmaller', WHERE WHAT IT READS IS OF BULK AT MOST 1048576: true; the input reads as it did. -/
def sectorSmallerUptoRow : OpenClaim := { program := "ytldeniedmbgnaaa", sum := "dbcae9ee884e47fd68ede867de7654ed8c68de0cea1c37ace7ce34607a80a6e5", func := "dynpos/dynposlaw11.SectorSmaller", spec := "sectorSmaller", unfollowed := true, recurses := true, apart := false, narrowed := true }
def SectorSmallerUptoSaid : Prop := sectorSmallerUptoRow.holds Try.pinned (OpenSpec.upto sectorSmallerSpec)

/-- 'dynposlaw11.SectorRates', WHERE WHAT IT READS IS OF BULK AT MOST 1048576: true; the input reads as it did. -/
def sectorRatesUptoRow : OpenClaim := { program := "ytldeniedmbgnaaa", sum := "dbcae9ee884e47fd68ede867de7654ed8c68de0cea1c37ace7ce34607a80a6e5", func := "dynpos/dynposlaw11.SectorRates", spec := "sectorRates", unfollowed := true, recurses := true, apart := false, narrowed := true }
def SectorRatesUptoSaid : Prop := sectorRatesUptoRow.holds Try.pinned (OpenSpec.upto sectorRatesSpec)

end Rows
end Go.Proofs.Ytldeniedmbgnaaa
