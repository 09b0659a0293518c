/-
  NARROWER THAN 'FOR EVERY INPUT', by the rows' own cells (each row's printed sentence says how): StreamLimits: laid · StreamPieces: laid · StreamLoses: laid · StreamExact: laid · StreamFinds: laid.
  DERIVED. THE GIVEN ROWS OF THIS SEAT. 5 by the template 'for every input the law returns true; each argument reads behind the call as it read before'; 0 by the template 'total and deterministic' (their statements: YtmlhemkadoadaaaDoorTotals.lean).
  GIVEN WITH THE SEED: the statements are not yours to turn. If you find one false, say at which input.
  Laid BY PROGRAM, IN A SANDBOX (cutbox-rows.mjs): the forced cells as the released guide's own fill.sh prints them over the translation 7da24fb61b213530… (all of the seat's roots in one cut). By AI agents, Wed Nov 11 2026. No macro, syntax, notation, axiom, sorry.
-/
import Derived.Test.YtmlhemkadoadaaaDoorChecked
import GoSem.PinnedTables
import GoSem.Claim
import GoSem.ClaimJoined
import GoSem.ClaimMapViews
import Derived.JoinedTies
import Derived.KernelRfl
namespace Go.Proofs.YtmlhemkadoadaaaDoor
/- THE CELL 'sum', in the pinned program and in every row, IS THE sha256 OF THE DUMP (.gsa) THAT YtmlhemkadoadaaaDoorProg.lean LOADS. Nothing in Lean hashes anything: it is a label: what it is worth is what the hold of that sum in a sandbox is worth. -/
noncomputable def Tryd.pinned : Pinned := { name := "ytmlhemkadoadaaadoor", sum := "7da24fb61b2135301636a2a8fd14209aa2a58a607782526b6a2b4d7206ba930e", checked := Tryd.checked }
namespace Rows
def none {H : Type} : Left H := { results := [], args := [] }

/- WHAT THE LISTED PACKAGE-LEVEL VARIABLES READ AS WHEN THE CALL BEGINS. Each datum BY PROGRAM (the guide's laid-datum.mjs) off the statement by which the dump's own 'gosem.cut.vars' lays the variable. In a bare row this is a premise. The card (YtmlhemkadoadaaaDoorCards.lean) ties it to the program's text. -/
def laid_unicode_utf8_acceptRanges {H : Type} : DataW H := .agg [.agg [.lit (.int .u8 128), .lit (.int .u8 191)], .agg [.lit (.int .u8 160), .lit (.int .u8 191)], .agg [.lit (.int .u8 128), .lit (.int .u8 159)], .agg [.lit (.int .u8 144), .lit (.int .u8 191)], .agg [.lit (.int .u8 128), .lit (.int .u8 143)], .agg [.lit (.int .u8 0), .lit (.int .u8 0)], .agg [.lit (.int .u8 0), .lit (.int .u8 0)], .agg [.lit (.int .u8 0), .lit (.int .u8 0)], .agg [.lit (.int .u8 0), .lit (.int .u8 0)], .agg [.lit (.int .u8 0), .lit (.int .u8 0)], .agg [.lit (.int .u8 0), .lit (.int .u8 0)], .agg [.lit (.int .u8 0), .lit (.int .u8 0)], .agg [.lit (.int .u8 0), .lit (.int .u8 0)], .agg [.lit (.int .u8 0), .lit (.int .u8 0)], .agg [.lit (.int .u8 0), .lit (.int .u8 0)], .agg [.lit (.int .u8 0), .lit (.int .u8 0)]]
/-- One of Go's own tables, pinned by name: the form's constant. -/
def laid_unicode_utf8_first : DataW Unit := Go.Pinned.utf8First

/-- 'dynposlaw05.StreamLimits': WHATEVER THE INPUT: true; the input reads as it did. -/
def streamLimitsSpec : ChangeSpec := { name := "streamLimits", fn := fun _ => fun
  | [d] => { results := [.lit (.bool true)], args := [d] }
  | _ => none }
def streamLimitsRow : OpenClaim := { program := "ytmlhemkadoadaaadoor", sum := "7da24fb61b2135301636a2a8fd14209aa2a58a607782526b6a2b4d7206ba930e", func := "dynpos/dynposlaw05.StreamLimits", spec := "streamLimits", inPlace := ["internal/bytealg.IndexByte", "internal/bytealg.IndexByteString", "internal/bytealg.CountString", "internal/bytealg.IndexString"], unfollowed := true, recurses := true, named := ["unicode/utf8.first", "unicode/utf8.acceptRanges", "internal/bytealg.MaxLen"], apart := false, laid := [("unicode/utf8.acceptRanges", laid_unicode_utf8_acceptRanges), ("unicode/utf8.first", laid_unicode_utf8_first)] }
def StreamLimitsSaid : Prop := streamLimitsRow.holds Tryd.pinned (OpenSpec.ofChange streamLimitsSpec)

/-- ITS FALSE NEIGHBOUR: 'it returns false'. Refute it at one input. -/
def streamLimitsWrong : ChangeSpec := { name := "streamLimits", fn := fun _ => fun
  | [d] => { results := [.lit (.bool false)], args := [d] }
  | _ => none }
def StreamLimitsWrongFalsely : Prop := streamLimitsRow.holds Tryd.pinned (OpenSpec.ofChange streamLimitsWrong)

/-- 'dynposlaw05.StreamPieces': WHATEVER THE INPUT: true; the input reads as it did. -/
def streamPiecesSpec : ChangeSpec := { name := "streamPieces", fn := fun _ => fun
  | [d1, d2] => { results := [.lit (.bool true)], args := [d1, d2] }
  | _ => none }
def streamPiecesRow : OpenClaim := { program := "ytmlhemkadoadaaadoor", sum := "7da24fb61b2135301636a2a8fd14209aa2a58a607782526b6a2b4d7206ba930e", func := "dynpos/dynposlaw05.StreamPieces", spec := "streamPieces", inPlace := ["internal/bytealg.IndexByte", "internal/bytealg.IndexByteString", "internal/bytealg.CountString", "internal/bytealg.IndexString"], unfollowed := true, recurses := true, named := ["unicode/utf8.first", "unicode/utf8.acceptRanges", "internal/bytealg.MaxLen"], apart := false, laid := [("unicode/utf8.acceptRanges", laid_unicode_utf8_acceptRanges), ("unicode/utf8.first", laid_unicode_utf8_first)] }
def StreamPiecesSaid : Prop := streamPiecesRow.holds Tryd.pinned (OpenSpec.ofChange streamPiecesSpec)

/-- ITS FALSE NEIGHBOUR: 'it returns false'. Refute it at one input. -/
def streamPiecesWrong : ChangeSpec := { name := "streamPieces", fn := fun _ => fun
  | [d1, d2] => { results := [.lit (.bool false)], args := [d1, d2] }
  | _ => none }
def StreamPiecesWrongFalsely : Prop := streamPiecesRow.holds Tryd.pinned (OpenSpec.ofChange streamPiecesWrong)

/-- 'dynposlaw05.StreamLoses': WHATEVER THE INPUT: true; the input reads as it did. -/
def streamLosesSpec : ChangeSpec := { name := "streamLoses", fn := fun _ => fun
  | [d1, d2] => { results := [.lit (.bool true)], args := [d1, d2] }
  | _ => none }
def streamLosesRow : OpenClaim := { program := "ytmlhemkadoadaaadoor", sum := "7da24fb61b2135301636a2a8fd14209aa2a58a607782526b6a2b4d7206ba930e", func := "dynpos/dynposlaw05.StreamLoses", spec := "streamLoses", inPlace := ["internal/bytealg.IndexByte", "internal/bytealg.IndexByteString", "internal/bytealg.CountString", "internal/bytealg.IndexString"], unfollowed := true, recurses := true, named := ["unicode/utf8.first", "unicode/utf8.acceptRanges", "internal/bytealg.MaxLen"], apart := false, laid := [("unicode/utf8.acceptRanges", laid_unicode_utf8_acceptRanges), ("unicode/utf8.first", laid_unicode_utf8_first)] }
def StreamLosesSaid : Prop := streamLosesRow.holds Tryd.pinned (OpenSpec.ofChange streamLosesSpec)

/-- ITS FALSE NEIGHBOUR: 'it returns false'. Refute it at one input. -/
def streamLosesWrong : ChangeSpec := { name := "streamLoses", fn := fun _ => fun
  | [d1, d2] => { results := [.lit (.bool false)], args := [d1, d2] }
  | _ => none }
def StreamLosesWrongFalsely : Prop := streamLosesRow.holds Tryd.pinned (OpenSpec.ofChange streamLosesWrong)

/-- 'dynposlaw05.StreamExact': WHATEVER THE INPUT: true; the input reads as it did. -/
def streamExactSpec : ChangeSpec := { name := "streamExact", fn := fun _ => fun
  | [d1, d2, d3] => { results := [.lit (.bool true)], args := [d1, d2, d3] }
  | _ => none }
def streamExactRow : OpenClaim := { program := "ytmlhemkadoadaaadoor", sum := "7da24fb61b2135301636a2a8fd14209aa2a58a607782526b6a2b4d7206ba930e", func := "dynpos/dynposlaw05.StreamExact", spec := "streamExact", inPlace := ["internal/bytealg.IndexByte", "internal/bytealg.IndexByteString", "internal/bytealg.CountString", "internal/bytealg.IndexString"], unfollowed := true, recurses := true, named := ["unicode/utf8.first", "unicode/utf8.acceptRanges", "internal/bytealg.MaxLen"], apart := false, laid := [("unicode/utf8.acceptRanges", laid_unicode_utf8_acceptRanges), ("unicode/utf8.first", laid_unicode_utf8_first)] }
def StreamExactSaid : Prop := streamExactRow.holds Tryd.pinned (OpenSpec.ofChange streamExactSpec)

/-- ITS FALSE NEIGHBOUR: 'it returns false'. Refute it at one input. -/
def streamExactWrong : ChangeSpec := { name := "streamExact", fn := fun _ => fun
  | [d1, d2, d3] => { results := [.lit (.bool false)], args := [d1, d2, d3] }
  | _ => none }
def StreamExactWrongFalsely : Prop := streamExactRow.holds Tryd.pinned (OpenSpec.ofChange streamExactWrong)

/-- 'dynposlaw05.StreamFinds': WHATEVER THE INPUT: true; the input reads as it did. -/
def streamFindsSpec : ChangeSpec := { name := "streamFinds", fn := fun _ => fun
  | [d] => { results := [.lit (.bool true)], args := [d] }
  | _ => none }
def streamFindsRow : OpenClaim := { program := "ytmlhemkadoadaaadoor", sum := "7da24fb61b2135301636a2a8fd14209aa2a58a607782526b6a2b4d7206ba930e", func := "dynpos/dynposlaw05.StreamFinds", spec := "streamFinds", inPlace := ["internal/bytealg.IndexByte", "internal/bytealg.IndexByteString", "internal/bytealg.CountString", "internal/bytealg.IndexString"], unfollowed := true, recurses := true, named := ["unicode/utf8.first", "unicode/utf8.acceptRanges", "internal/bytealg.MaxLen"], apart := false, laid := [("unicode/utf8.acceptRanges", laid_unicode_utf8_acceptRanges), ("unicode/utf8.first", laid_unicode_utf8_first)] }
def StreamFindsSaid : Prop := streamFindsRow.holds Tryd.pinned (OpenSpec.ofChange streamFindsSpec)

/-- ITS FALSE NEIGHBOUR: 'it returns false'. Refute it at one input. -/
def streamFindsWrong : ChangeSpec := { name := "streamFinds", fn := fun _ => fun
  | [d] => { results := [.lit (.bool false)], args := [d] }
  | _ => none }
def StreamFindsWrongFalsely : Prop := streamFindsRow.holds Tryd.pinned (OpenSpec.ofChange streamFindsWrong)

/- THE SECOND FORM. 'bulk': how many values and letters a reading holds, each counted each time it is reached (what is shared counts as often as it is met; a slice's spare places count too). A statement '..UptoSaid' is the law's where the arguments, and the package variables that the reading takes, are together of bulk at most 1048576: NARROWER than '..Said'. Prove '..Said' where nothing that the law and all that it calls make is longer than what came in: it says more and counts as full. Else prove '..UptoSaid'. A law counts once. -/
mutual
def uptoBulk {H : Type} : DataW H → Nat
  | .lit (.string bytes) => bytes.length + 1
  | .lit _ => 1
  | .nil => 1
  | .ptr d => uptoBulk d + 1
  | .slice elems spare => uptoBulkAll elems + uptoBulkAll spare + 1
  | .agg parts => uptoBulkAll parts + 1
  | .iface _ d => uptoBulk d + 1
  | .map entries => uptoBulkEntries entries + 1
  | .held _ => 1
def uptoBulkAll {H : Type} : List (DataW H) → Nat
  | [] => 0
  | d :: r => uptoBulk d + uptoBulkAll r
def uptoBulkEntries {H : Type} : List (Lit × DataW H) → Nat
  | [] => 0
  | x :: r => uptoBulkEntry x + uptoBulkEntries r
def uptoBulkEntry {H : Type} : Lit × DataW H → Nat
  | (.string bytes, d) => bytes.length + uptoBulk d + 1
  | (_, d) => uptoBulk d + 1
 end
def uptoSmall : (H : Type) → List (DataW H) → Bool := fun _ ds => decide (uptoBulkAll ds ≤ 1048576)
def OpenSpec.upto (s : _root_.Go.ChangeSpec) : _root_.Go.OpenSpec := { _root_.Go.OpenSpec.ofChange s with cond := some uptoSmall }

/-- 'dynposlaw05.StreamLimits', WHERE WHAT IT READS IS OF BULK AT MOST 1048576: true; the input reads as it did. -/
def streamLimitsUptoRow : OpenClaim := { program := "ytmlhemkadoadaaadoor", sum := "7da24fb61b2135301636a2a8fd14209aa2a58a607782526b6a2b4d7206ba930e", func := "dynpos/dynposlaw05.StreamLimits", spec := "streamLimits", inPlace := ["internal/bytealg.IndexByte", "internal/bytealg.IndexByteString", "internal/bytealg.CountString", "internal/bytealg.IndexString"], unfollowed := true, recurses := true, named := ["unicode/utf8.first", "unicode/utf8.acceptRanges", "internal/bytealg.MaxLen"], apart := false, laid := [("unicode/utf8.acceptRanges", laid_unicode_utf8_acceptRanges), ("unicode/utf8.first", laid_unicode_utf8_first)], narrowed := true }
def StreamLimitsUptoSaid : Prop := streamLimitsUptoRow.holds Tryd.pinned (OpenSpec.upto streamLimitsSpec)

/-- 'dynposlaw05.StreamPieces', WHERE WHAT IT READS IS OF BULK AT MOST 1048576: true; the input reads as it did. -/
def streamPiecesUptoRow : OpenClaim := { program := "ytmlhemkadoadaaadoor", sum := "7da24fb61b2135301636a2a8fd14209aa2a58a607782526b6a2b4d7206ba930e", func := "dynpos/dynposlaw05.StreamPieces", spec := "streamPieces", inPlace := ["internal/bytealg.IndexByte", "internal/bytealg.IndexByteString", "internal/bytealg.CountString", "internal/bytealg.IndexString"], unfollowed := true, recurses := true, named := ["unicode/utf8.first", "unicode/utf8.acceptRanges", "internal/bytealg.MaxLen"], apart := false, laid := [("unicode/utf8.acceptRanges", laid_unicode_utf8_acceptRanges), ("unicode/utf8.first", laid_unicode_utf8_first)], narrowed := true }
def StreamPiecesUptoSaid : Prop := streamPiecesUptoRow.holds Tryd.pinned (OpenSpec.upto streamPiecesSpec)

/-- 'dynposlaw05.StreamLoses', WHERE WHAT IT READS IS OF BULK AT MOST 1048576: true; the input reads as it did. -/
def streamLosesUptoRow : OpenClaim := { program := "ytmlhemkadoadaaadoor", sum := "7da24fb61b2135301636a2a8fd14209aa2a58a607782526b6a2b4d7206ba930e", func := "dynpos/dynposlaw05.StreamLoses", spec := "streamLoses", inPlace := ["internal/bytealg.IndexByte", "internal/bytealg.IndexByteString", "internal/bytealg.CountString", "internal/bytealg.IndexString"], unfollowed := true, recurses := true, named := ["unicode/utf8.first", "unicode/utf8.acceptRanges", "internal/bytealg.MaxLen"], apart := false, laid := [("unicode/utf8.acceptRanges", laid_unicode_utf8_acceptRanges), ("unicode/utf8.first", laid_unicode_utf8_first)], narrowed := true }
def StreamLosesUptoSaid : Prop := streamLosesUptoRow.holds Tryd.pinned (OpenSpec.upto streamLosesSpec)

/-- 'dynposlaw05.StreamExact', WHERE WHAT IT READS IS OF BULK AT MOST 1048576: true; the input reads as it did. -/
def streamExactUptoRow : OpenClaim := { program := "ytmlhemkadoadaaadoor", sum := "7da24fb61b2135301636a2a8fd14209aa2a58a607782526b6a2b4d7206ba930e", func := "dynpos/dynposlaw05.StreamExact", spec := "streamExact", inPlace := ["internal/bytealg.IndexByte", "internal/bytealg.IndexByteString", "internal/bytealg.CountString", "internal/bytealg.IndexString"], unfollowed := true, recurses := true, named := ["unicode/utf8.first", "unicode/utf8.acceptRanges", "internal/bytealg.MaxLen"], apart := false, laid := [("unicode/utf8.acceptRanges", laid_unicode_utf8_acceptRanges), ("unicode/utf8.first", laid_unicode_utf8_first)], narrowed := true }
def StreamExactUptoSaid : Prop := streamExactUptoRow.holds Tryd.pinned (OpenSpec.upto streamExactSpec)

/-- 'dynposlaw05.StreamFinds', WHERE WHAT IT READS IS OF BULK AT MOST 1048576: true; the input reads as it did. -/
def streamFindsUptoRow : OpenClaim := { program := "ytmlhemkadoadaaadoor", sum := "7da24fb61b2135301636a2a8fd14209aa2a58a607782526b6a2b4d7206ba930e", func := "dynpos/dynposlaw05.StreamFinds", spec := "streamFinds", inPlace := ["internal/bytealg.IndexByte", "internal/bytealg.IndexByteString", "internal/bytealg.CountString", "internal/bytealg.IndexString"], unfollowed := true, recurses := true, named := ["unicode/utf8.first", "unicode/utf8.acceptRanges", "internal/bytealg.MaxLen"], apart := false, laid := [("unicode/utf8.acceptRanges", laid_unicode_utf8_acceptRanges), ("unicode/utf8.first", laid_unicode_utf8_first)], narrowed := true }
def StreamFindsUptoSaid : Prop := streamFindsUptoRow.holds Tryd.pinned (OpenSpec.upto streamFindsSpec)

end Rows
end Go.Proofs.YtmlhemkadoadaaaDoor
