/-
  NARROWER THAN 'FOR EVERY INPUT', by the rows' own cells (each row's printed sentence says how): SentenceFields: laid · SentenceExact: laid · SentenceBack: laid · SentenceChanged: laid · SentenceLimits: laid.
  DERIVED. THE GIVEN ROWS OF THIS SEAT. 5 by the template 'for every input the law returns true; each argument reads behind the call as it read before'; 0 by the template 'total and deterministic' (their statements: YtclnapbghehlaaaDoorTotals.lean).
  GIVEN WITH THE SEED: the statements are not yours to turn. If you find one false, say at which input.
  Laid BY PROGRAM, IN A SANDBOX (cutbox-rows.mjs): the forced cells as the released guide's own fill.sh prints them over the translation fdb48ac67da35223… (all of the seat's roots in one cut). By AI agents, Wed Nov 11 2026. No macro, syntax, notation, axiom, sorry.
-/
import Derived.Test.YtclnapbghehlaaaDoorChecked
import GoSem.PinnedTables
import GoSem.Claim
import GoSem.ClaimJoined
import GoSem.ClaimMapViews
import Derived.JoinedTies
import Derived.KernelRfl
namespace Go.Proofs.YtclnapbghehlaaaDoor
/- THE CELL 'sum', in the pinned program and in every row, IS THE sha256 OF THE DUMP (.gsa) THAT YtclnapbghehlaaaDoorProg.lean LOADS. Nothing in Lean hashes anything: it is a label: what it is worth is what the hold of that sum in a sandbox is worth. -/
noncomputable def Tryd.pinned : Pinned := { name := "ytclnapbghehlaaadoor", sum := "fdb48ac67da3522352f4dc9a7036e3c75059433cb988fba565a2e64db12a1e43", checked := Tryd.checked }
namespace Rows
def none {H : Type} : Left H := { results := [], args := [] }

/- WHAT THE LISTED PACKAGE-LEVEL VARIABLES READ AS WHEN THE CALL BEGINS. Each datum BY PROGRAM (the guide's laid-datum.mjs) off the statement by which the dump's own 'gosem.cut.vars' lays the variable. In a bare row this is a premise. The card (YtclnapbghehlaaaDoorCards.lean) ties it to the program's text. -/
def laid_unicode_utf8_acceptRanges {H : Type} : DataW H := .agg [.agg [.lit (.int .u8 128), .lit (.int .u8 191)], .agg [.lit (.int .u8 160), .lit (.int .u8 191)], .agg [.lit (.int .u8 128), .lit (.int .u8 159)], .agg [.lit (.int .u8 144), .lit (.int .u8 191)], .agg [.lit (.int .u8 128), .lit (.int .u8 143)], .agg [.lit (.int .u8 0), .lit (.int .u8 0)], .agg [.lit (.int .u8 0), .lit (.int .u8 0)], .agg [.lit (.int .u8 0), .lit (.int .u8 0)], .agg [.lit (.int .u8 0), .lit (.int .u8 0)], .agg [.lit (.int .u8 0), .lit (.int .u8 0)], .agg [.lit (.int .u8 0), .lit (.int .u8 0)], .agg [.lit (.int .u8 0), .lit (.int .u8 0)], .agg [.lit (.int .u8 0), .lit (.int .u8 0)], .agg [.lit (.int .u8 0), .lit (.int .u8 0)], .agg [.lit (.int .u8 0), .lit (.int .u8 0)], .agg [.lit (.int .u8 0), .lit (.int .u8 0)]]
/-- One of Go's own tables, pinned by name: the form's constant. -/
def laid_unicode_utf8_first : DataW Unit := Go.Pinned.utf8First

/-- 'dynposlaw04.SentenceFields': WHATEVER THE INPUT: true; the input reads as it did. -/
def sentenceFieldsSpec : ChangeSpec := { name := "sentenceFields", fn := fun _ => fun
  | [d1, d2, d3] => { results := [.lit (.bool true)], args := [d1, d2, d3] }
  | _ => none }
def sentenceFieldsRow : OpenClaim := { program := "ytclnapbghehlaaadoor", sum := "fdb48ac67da3522352f4dc9a7036e3c75059433cb988fba565a2e64db12a1e43", func := "dynpos/dynposlaw04.SentenceFields", spec := "sentenceFields", inPlace := ["internal/bytealg.IndexByteString", "internal/abi.NoEscape", "internal/bytealg.MakeNoZero", "internal/bytealg.CountString", "internal/bytealg.IndexString"], unfollowed := true, recurses := true, named := ["unicode/utf8.first", "unicode/utf8.acceptRanges", "internal/bytealg.MaxLen"], apart := false, laid := [("unicode/utf8.acceptRanges", laid_unicode_utf8_acceptRanges), ("unicode/utf8.first", laid_unicode_utf8_first)] }
def SentenceFieldsSaid : Prop := sentenceFieldsRow.holds Tryd.pinned (OpenSpec.ofChange sentenceFieldsSpec)

/-- ITS FALSE NEIGHBOUR: 'it returns false'. Refute it at one input. -/
def sentenceFieldsWrong : ChangeSpec := { name := "sentenceFields", fn := fun _ => fun
  | [d1, d2, d3] => { results := [.lit (.bool false)], args := [d1, d2, d3] }
  | _ => none }
def SentenceFieldsWrongFalsely : Prop := sentenceFieldsRow.holds Tryd.pinned (OpenSpec.ofChange sentenceFieldsWrong)

/-- 'dynposlaw04.SentenceExact': WHATEVER THE INPUT: true; the input reads as it did. -/
def sentenceExactSpec : ChangeSpec := { name := "sentenceExact", fn := fun _ => fun
  | [d1, d2, d3, d4] => { results := [.lit (.bool true)], args := [d1, d2, d3, d4] }
  | _ => none }
def sentenceExactRow : OpenClaim := { program := "ytclnapbghehlaaadoor", sum := "fdb48ac67da3522352f4dc9a7036e3c75059433cb988fba565a2e64db12a1e43", func := "dynpos/dynposlaw04.SentenceExact", spec := "sentenceExact", inPlace := ["internal/bytealg.IndexByteString", "internal/abi.NoEscape", "internal/bytealg.MakeNoZero", "internal/bytealg.CountString", "internal/bytealg.IndexString"], unfollowed := true, recurses := true, named := ["unicode/utf8.first", "unicode/utf8.acceptRanges", "internal/bytealg.MaxLen"], apart := false, laid := [("unicode/utf8.acceptRanges", laid_unicode_utf8_acceptRanges), ("unicode/utf8.first", laid_unicode_utf8_first)] }
def SentenceExactSaid : Prop := sentenceExactRow.holds Tryd.pinned (OpenSpec.ofChange sentenceExactSpec)

/-- ITS FALSE NEIGHBOUR: 'it returns false'. Refute it at one input. -/
def sentenceExactWrong : ChangeSpec := { name := "sentenceExact", fn := fun _ => fun
  | [d1, d2, d3, d4] => { results := [.lit (.bool false)], args := [d1, d2, d3, d4] }
  | _ => none }
def SentenceExactWrongFalsely : Prop := sentenceExactRow.holds Tryd.pinned (OpenSpec.ofChange sentenceExactWrong)

/-- 'dynposlaw04.SentenceBack': WHATEVER THE INPUT: true; the input reads as it did. -/
def sentenceBackSpec : ChangeSpec := { name := "sentenceBack", fn := fun _ => fun
  | [d] => { results := [.lit (.bool true)], args := [d] }
  | _ => none }
def sentenceBackRow : OpenClaim := { program := "ytclnapbghehlaaadoor", sum := "fdb48ac67da3522352f4dc9a7036e3c75059433cb988fba565a2e64db12a1e43", func := "dynpos/dynposlaw04.SentenceBack", spec := "sentenceBack", inPlace := ["internal/bytealg.IndexByteString", "internal/abi.NoEscape", "internal/bytealg.MakeNoZero", "internal/bytealg.CountString", "internal/bytealg.IndexString"], unfollowed := true, recurses := true, named := ["unicode/utf8.first", "unicode/utf8.acceptRanges", "internal/bytealg.MaxLen"], apart := false, laid := [("unicode/utf8.acceptRanges", laid_unicode_utf8_acceptRanges), ("unicode/utf8.first", laid_unicode_utf8_first)] }
def SentenceBackSaid : Prop := sentenceBackRow.holds Tryd.pinned (OpenSpec.ofChange sentenceBackSpec)

/-- ITS FALSE NEIGHBOUR: 'it returns false'. Refute it at one input. -/
def sentenceBackWrong : ChangeSpec := { name := "sentenceBack", fn := fun _ => fun
  | [d] => { results := [.lit (.bool false)], args := [d] }
  | _ => none }
def SentenceBackWrongFalsely : Prop := sentenceBackRow.holds Tryd.pinned (OpenSpec.ofChange sentenceBackWrong)

/-- 'dynposlaw04.SentenceChanged': WHATEVER THE INPUT: true; the input reads as it did. -/
def sentenceChangedSpec : ChangeSpec := { name := "sentenceChanged", fn := fun _ => fun
  | [d1, d2, d3] => { results := [.lit (.bool true)], args := [d1, d2, d3] }
  | _ => none }
def sentenceChangedRow : OpenClaim := { program := "ytclnapbghehlaaadoor", sum := "fdb48ac67da3522352f4dc9a7036e3c75059433cb988fba565a2e64db12a1e43", func := "dynpos/dynposlaw04.SentenceChanged", spec := "sentenceChanged", inPlace := ["internal/bytealg.IndexByteString", "internal/abi.NoEscape", "internal/bytealg.MakeNoZero", "internal/bytealg.CountString", "internal/bytealg.IndexString"], unfollowed := true, recurses := true, named := ["unicode/utf8.first", "unicode/utf8.acceptRanges", "internal/bytealg.MaxLen"], apart := false, laid := [("unicode/utf8.acceptRanges", laid_unicode_utf8_acceptRanges), ("unicode/utf8.first", laid_unicode_utf8_first)] }
def SentenceChangedSaid : Prop := sentenceChangedRow.holds Tryd.pinned (OpenSpec.ofChange sentenceChangedSpec)

/-- ITS FALSE NEIGHBOUR: 'it returns false'. Refute it at one input. -/
def sentenceChangedWrong : ChangeSpec := { name := "sentenceChanged", fn := fun _ => fun
  | [d1, d2, d3] => { results := [.lit (.bool false)], args := [d1, d2, d3] }
  | _ => none }
def SentenceChangedWrongFalsely : Prop := sentenceChangedRow.holds Tryd.pinned (OpenSpec.ofChange sentenceChangedWrong)

/-- 'dynposlaw04.SentenceLimits': WHATEVER THE INPUT: true; the input reads as it did. -/
def sentenceLimitsSpec : ChangeSpec := { name := "sentenceLimits", fn := fun _ => fun
  | [d1, d2] => { results := [.lit (.bool true)], args := [d1, d2] }
  | _ => none }
def sentenceLimitsRow : OpenClaim := { program := "ytclnapbghehlaaadoor", sum := "fdb48ac67da3522352f4dc9a7036e3c75059433cb988fba565a2e64db12a1e43", func := "dynpos/dynposlaw04.SentenceLimits", spec := "sentenceLimits", inPlace := ["internal/bytealg.IndexByteString", "internal/abi.NoEscape", "internal/bytealg.MakeNoZero", "internal/bytealg.CountString", "internal/bytealg.IndexString"], unfollowed := true, recurses := true, named := ["unicode/utf8.first", "unicode/utf8.acceptRanges", "internal/bytealg.MaxLen"], apart := false, laid := [("unicode/utf8.acceptRanges", laid_unicode_utf8_acceptRanges), ("unicode/utf8.first", laid_unicode_utf8_first)] }
def SentenceLimitsSaid : Prop := sentenceLimitsRow.holds Tryd.pinned (OpenSpec.ofChange sentenceLimitsSpec)

/-- ITS FALSE NEIGHBOUR: 'it returns false'. Refute it at one input. -/
def sentenceLimitsWrong : ChangeSpec := { name := "sentenceLimits", fn := fun _ => fun
  | [d1, d2] => { results := [.lit (.bool false)], args := [d1, d2] }
  | _ => none }
def SentenceLimitsWrongFalsely : Prop := sentenceLimitsRow.holds Tryd.pinned (OpenSpec.ofChange sentenceLimitsWrong)

/- THE SECOND FORM. 'bulk': how many values and letters a reading holds, each counted each time it is reached (what is shared counts as often as it is met; a slice's spare places count too). A statement '..UptoSaid' is the law's where the arguments, and the package variables that the reading takes, are together of bulk at most 1048576: NARROWER than '..Said'. Prove '..Said' where nothing that the law and all that it calls make is longer than what came in: it says more and counts as full. Else prove '..UptoSaid'. A law counts once. -/
mutual
def uptoBulk {H : Type} : DataW H → Nat
  | .lit (.string bytes) => bytes.length + 1
  | .lit _ => 1
  | .nil => 1
  | .ptr d => uptoBulk d + 1
  | .slice elems spare => uptoBulkAll elems + uptoBulkAll spare + 1
  | .agg parts => uptoBulkAll parts + 1
  | .iface _ d => uptoBulk d + 1
  | .map entries => uptoBulkEntries entries + 1
  | .held _ => 1
def uptoBulkAll {H : Type} : List (DataW H) → Nat
  | [] => 0
  | d :: r => uptoBulk d + uptoBulkAll r
def uptoBulkEntries {H : Type} : List (Lit × DataW H) → Nat
  | [] => 0
  | x :: r => uptoBulkEntry x + uptoBulkEntries r
def uptoBulkEntry {H : Type} : Lit × DataW H → Nat
  | (.string bytes, d) => bytes.length + uptoBulk d + 1
  | (_, d) => uptoBulk d + 1
 end
def uptoSmall : (H : Type) → List (DataW H) → Bool := fun _ ds => decide (uptoBulkAll ds ≤ 1048576)
def OpenSpec.upto (s : _root_.Go.ChangeSpec) : _root_.Go.OpenSpec := { _root_.Go.OpenSpec.ofChange s with cond := some uptoSmall }

/-- 'dynposlaw04.SentenceFields', WHERE WHAT IT READS IS OF BULK AT MOST 1048576: true; the input reads as it did. -/
def sentenceFieldsUptoRow : OpenClaim := { program := "ytclnapbghehlaaadoor", sum := "fdb48ac67da3522352f4dc9a7036e3c75059433cb988fba565a2e64db12a1e43", func := "dynpos/dynposlaw04.SentenceFields", spec := "sentenceFields", inPlace := ["internal/bytealg.IndexByteString", "internal/abi.NoEscape", "internal/bytealg.MakeNoZero", "internal/bytealg.CountString", "internal/bytealg.IndexString"], unfollowed := true, recurses := true, named := ["unicode/utf8.first", "unicode/utf8.acceptRanges", "internal/bytealg.MaxLen"], apart := false, laid := [("unicode/utf8.acceptRanges", laid_unicode_utf8_acceptRanges), ("unicode/utf8.first", laid_unicode_utf8_first)], narrowed := true }
def SentenceFieldsUptoSaid : Prop := sentenceFieldsUptoRow.holds Tryd.pinned (OpenSpec.upto sentenceFieldsSpec)

/-- 'dynposlaw04.SentenceExact', WHERE WHAT IT READS IS OF BULK AT MOST 1048576: true; the input reads as it did. -/
def sentenceExactUptoRow : OpenClaim := { program := "ytclnapbghehlaaadoor", sum := "fdb48ac67da3522352f4dc9a7036e3c75059433cb988fba565a2e64db12a1e43", func := "dynpos/dynposlaw04.SentenceExact", spec := "sentenceExact", inPlace := ["internal/bytealg.IndexByteString", "internal/abi.NoEscape", "internal/bytealg.MakeNoZero", "internal/bytealg.CountString", "internal/bytealg.IndexString"], unfollowed := true, recurses := true, named := ["unicode/utf8.first", "unicode/utf8.acceptRanges", "internal/bytealg.MaxLen"], apart := false, laid := [("unicode/utf8.acceptRanges", laid_unicode_utf8_acceptRanges), ("unicode/utf8.first", laid_unicode_utf8_first)], narrowed := true }
def SentenceExactUptoSaid : Prop := sentenceExactUptoRow.holds Tryd.pinned (OpenSpec.upto sentenceExactSpec)

/-- 'dynposlaw04.SentenceBack', WHERE WHAT IT READS IS OF BULK AT MOST 1048576: true; the input reads as it did. -/
def sentenceBackUptoRow : OpenClaim := { program := "ytclnapbghehlaaadoor", sum := "fdb48ac67da3522352f4dc9a7036e3c75059433cb988fba565a2e64db12a1e43", func := "dynpos/dynposlaw04.SentenceBack", spec := "sentenceBack", inPlace := ["internal/bytealg.IndexByteString", "internal/abi.NoEscape", "internal/bytealg.MakeNoZero", "internal/bytealg.CountString", "internal/bytealg.IndexString"], unfollowed := true, recurses := true, named := ["unicode/utf8.first", "unicode/utf8.acceptRanges", "internal/bytealg.MaxLen"], apart := false, laid := [("unicode/utf8.acceptRanges", laid_unicode_utf8_acceptRanges), ("unicode/utf8.first", laid_unicode_utf8_first)], narrowed := true }
def SentenceBackUptoSaid : Prop := sentenceBackUptoRow.holds Tryd.pinned (OpenSpec.upto sentenceBackSpec)

/-- 'dynposlaw04.SentenceChanged', WHERE WHAT IT READS IS OF BULK AT MOST 1048576: true; the input reads as it did. -/
def sentenceChangedUptoRow : OpenClaim := { program := "ytclnapbghehlaaadoor", sum := "fdb48ac67da3522352f4dc9a7036e3c75059433cb988fba565a2e64db12a1e43", func := "dynpos/dynposlaw04.SentenceChanged", spec := "sentenceChanged", inPlace := ["internal/bytealg.IndexByteString", "internal/abi.NoEscape", "internal/bytealg.MakeNoZero", "internal/bytealg.CountString", "internal/bytealg.IndexString"], unfollowed := true, recurses := true, named := ["unicode/utf8.first", "unicode/utf8.acceptRanges", "internal/bytealg.MaxLen"], apart := false, laid := [("unicode/utf8.acceptRanges", laid_unicode_utf8_acceptRanges), ("unicode/utf8.first", laid_unicode_utf8_first)], narrowed := true }
def SentenceChangedUptoSaid : Prop := sentenceChangedUptoRow.holds Tryd.pinned (OpenSpec.upto sentenceChangedSpec)

/-- 'dynposlaw04.SentenceLimits', WHERE WHAT IT READS IS OF BULK AT MOST 1048576: true; the input reads as it did. -/
def sentenceLimitsUptoRow : OpenClaim := { program := "ytclnapbghehlaaadoor", sum := "fdb48ac67da3522352f4dc9a7036e3c75059433cb988fba565a2e64db12a1e43", func := "dynpos/dynposlaw04.SentenceLimits", spec := "sentenceLimits", inPlace := ["internal/bytealg.IndexByteString", "internal/abi.NoEscape", "internal/bytealg.MakeNoZero", "internal/bytealg.CountString", "internal/bytealg.IndexString"], unfollowed := true, recurses := true, named := ["unicode/utf8.first", "unicode/utf8.acceptRanges", "internal/bytealg.MaxLen"], apart := false, laid := [("unicode/utf8.acceptRanges", laid_unicode_utf8_acceptRanges), ("unicode/utf8.first", laid_unicode_utf8_first)], narrowed := true }
def SentenceLimitsUptoSaid : Prop := sentenceLimitsUptoRow.holds Tryd.pinned (OpenSpec.upto sentenceLimitsSpec)

end Rows
end Go.Proofs.YtclnapbghehlaaaDoor
