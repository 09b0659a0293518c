/-
  DERIVED. GIVEN WITH THE SEED: THE CARDS: each row of YtclnapbghehlaaaDoorRows.lean that lists a variable, with what it lists TIED to the program's text (the seventh form; the later family's looks); each row that meets fmt, with fmt's text TOLD by the authors' own Lean function (tested against real Go, not proved from fmt's source: count such statements apart). THE CARD IS WHAT COUNTS. Prove the row's statement (the work); the ties are given (YtclnapbghehlaaaDoorTie.lean); close each card by the builder's one call (the guide's Derived/Test/ToyasCard.lean, 'card_holds'). Laid BY PROGRAM, IN A SANDBOX (cutbox-door.mjs). By AI agents, Wed Nov 11 2026. No macro, syntax, notation, axiom, sorry.
-/
import Derived.Test.YtclnapbghehlaaaDoorRows
import GoSem.ClaimSeven
namespace Go.Proofs.YtclnapbghehlaaaDoor
namespace Rows

/-- THE TIED CARD OF 'dynposlaw04.SentenceFields'. -/
def sentenceFieldsCard : Claim7 := { stood := { row := sentenceFieldsRow, standIns := [], harness := (true, "02be4005ea8f50991c739c4a556a1a8f6c3b2c6d5e4c85a61290ecf33ef4b020"), looks := false }, kinds := [], alts := [], laidByText := true, laidKinds := [.data, .pinned], laidTests := true, laidLooks := .later }
def SentenceFieldsCardSaid : Prop := Claim7.holds Tryd.pinned (.plain (OpenSpec.ofChange sentenceFieldsSpec)) sentenceFieldsCard

/-- THE TIED CARD OF 'dynposlaw04.SentenceExact'. -/
def sentenceExactCard : Claim7 := { stood := { row := sentenceExactRow, standIns := [], harness := (true, "02be4005ea8f50991c739c4a556a1a8f6c3b2c6d5e4c85a61290ecf33ef4b020"), looks := false }, kinds := [], alts := [], laidByText := true, laidKinds := [.data, .pinned], laidTests := true, laidLooks := .later }
def SentenceExactCardSaid : Prop := Claim7.holds Tryd.pinned (.plain (OpenSpec.ofChange sentenceExactSpec)) sentenceExactCard

/-- THE TIED CARD OF 'dynposlaw04.SentenceBack'. -/
def sentenceBackCard : Claim7 := { stood := { row := sentenceBackRow, standIns := [], harness := (true, "02be4005ea8f50991c739c4a556a1a8f6c3b2c6d5e4c85a61290ecf33ef4b020"), looks := false }, kinds := [], alts := [], laidByText := true, laidKinds := [.data, .pinned], laidTests := true, laidLooks := .later }
def SentenceBackCardSaid : Prop := Claim7.holds Tryd.pinned (.plain (OpenSpec.ofChange sentenceBackSpec)) sentenceBackCard

/-- THE TIED CARD OF 'dynposlaw04.SentenceChanged'. -/
def sentenceChangedCard : Claim7 := { stood := { row := sentenceChangedRow, standIns := [], harness := (true, "02be4005ea8f50991c739c4a556a1a8f6c3b2c6d5e4c85a61290ecf33ef4b020"), looks := false }, kinds := [], alts := [], laidByText := true, laidKinds := [.data, .pinned], laidTests := true, laidLooks := .later }
def SentenceChangedCardSaid : Prop := Claim7.holds Tryd.pinned (.plain (OpenSpec.ofChange sentenceChangedSpec)) sentenceChangedCard

/-- THE TIED CARD OF 'dynposlaw04.SentenceLimits'. -/
def sentenceLimitsCard : Claim7 := { stood := { row := sentenceLimitsRow, standIns := [], harness := (true, "02be4005ea8f50991c739c4a556a1a8f6c3b2c6d5e4c85a61290ecf33ef4b020"), looks := false }, kinds := [], alts := [], laidByText := true, laidKinds := [.data, .pinned], laidTests := true, laidLooks := .later }
def SentenceLimitsCardSaid : Prop := Claim7.holds Tryd.pinned (.plain (OpenSpec.ofChange sentenceLimitsSpec)) sentenceLimitsCard

/-- THE SECOND FORM's CARD OF 'dynposlaw04.SentenceFields'. -/
def sentenceFieldsUptoCard : Claim7 := { stood := { row := sentenceFieldsUptoRow, standIns := [], harness := (true, "02be4005ea8f50991c739c4a556a1a8f6c3b2c6d5e4c85a61290ecf33ef4b020"), looks := false }, kinds := [], alts := [], laidByText := true, laidKinds := [.data, .pinned], laidTests := true, laidLooks := .later }
def SentenceFieldsUptoCardSaid : Prop := Claim7.holds Tryd.pinned (.plain (OpenSpec.upto sentenceFieldsSpec)) sentenceFieldsUptoCard

/-- THE SECOND FORM's CARD OF 'dynposlaw04.SentenceExact'. -/
def sentenceExactUptoCard : Claim7 := { stood := { row := sentenceExactUptoRow, standIns := [], harness := (true, "02be4005ea8f50991c739c4a556a1a8f6c3b2c6d5e4c85a61290ecf33ef4b020"), looks := false }, kinds := [], alts := [], laidByText := true, laidKinds := [.data, .pinned], laidTests := true, laidLooks := .later }
def SentenceExactUptoCardSaid : Prop := Claim7.holds Tryd.pinned (.plain (OpenSpec.upto sentenceExactSpec)) sentenceExactUptoCard

/-- THE SECOND FORM's CARD OF 'dynposlaw04.SentenceBack'. -/
def sentenceBackUptoCard : Claim7 := { stood := { row := sentenceBackUptoRow, standIns := [], harness := (true, "02be4005ea8f50991c739c4a556a1a8f6c3b2c6d5e4c85a61290ecf33ef4b020"), looks := false }, kinds := [], alts := [], laidByText := true, laidKinds := [.data, .pinned], laidTests := true, laidLooks := .later }
def SentenceBackUptoCardSaid : Prop := Claim7.holds Tryd.pinned (.plain (OpenSpec.upto sentenceBackSpec)) sentenceBackUptoCard

/-- THE SECOND FORM's CARD OF 'dynposlaw04.SentenceChanged'. -/
def sentenceChangedUptoCard : Claim7 := { stood := { row := sentenceChangedUptoRow, standIns := [], harness := (true, "02be4005ea8f50991c739c4a556a1a8f6c3b2c6d5e4c85a61290ecf33ef4b020"), looks := false }, kinds := [], alts := [], laidByText := true, laidKinds := [.data, .pinned], laidTests := true, laidLooks := .later }
def SentenceChangedUptoCardSaid : Prop := Claim7.holds Tryd.pinned (.plain (OpenSpec.upto sentenceChangedSpec)) sentenceChangedUptoCard

/-- THE SECOND FORM's CARD OF 'dynposlaw04.SentenceLimits'. -/
def sentenceLimitsUptoCard : Claim7 := { stood := { row := sentenceLimitsUptoRow, standIns := [], harness := (true, "02be4005ea8f50991c739c4a556a1a8f6c3b2c6d5e4c85a61290ecf33ef4b020"), looks := false }, kinds := [], alts := [], laidByText := true, laidKinds := [.data, .pinned], laidTests := true, laidLooks := .later }
def SentenceLimitsUptoCardSaid : Prop := Claim7.holds Tryd.pinned (.plain (OpenSpec.upto sentenceLimitsSpec)) sentenceLimitsUptoCard
end Rows
end Go.Proofs.YtclnapbghehlaaaDoor
