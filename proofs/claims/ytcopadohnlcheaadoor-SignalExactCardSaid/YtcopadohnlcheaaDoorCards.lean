/-
  DERIVED. GIVEN WITH THE SEED: THE CARDS: each row of YtcopadohnlcheaaDoorRows.lean that lists a variable, with what it lists TIED to the program's text (the seventh form; the later family's looks); each row that meets fmt, with fmt's text TOLD by the authors' own Lean function (tested against real Go, not proved from fmt's source: count such statements apart). THE CARD IS WHAT COUNTS. Prove the row's statement (the work); the ties are given (YtcopadohnlcheaaDoorTie.lean); close each card by the builder's one call (the guide's Derived/Test/ToyasCard.lean, 'card_holds'). Laid BY PROGRAM, IN A SANDBOX (cutbox-door.mjs). By AI agents, Wed Nov 11 2026. No macro, syntax, notation, axiom, sorry.
-/
import Derived.Test.YtcopadohnlcheaaDoorRows
import GoSem.ClaimSeven
namespace Go.Proofs.YtcopadohnlcheaaDoor
namespace Rows

/-- THE TIED CARD OF 'dynposlaw06.SignalKinds'. -/
def signalKindsCard : Claim7 := { stood := { row := signalKindsRow, standIns := [], harness := (true, "c1fc071054348cd4782514cc7bef87981df44e17356cfb3ac9124800f9bd63c8"), looks := true }, kinds := [], alts := [], laidByText := true, laidKinds := [.data, .data, .data, .sentinel, .sentinel], laidTests := true, laidLooks := .later }
def SignalKindsCardSaid : Prop := Claim7.holds Tryd.pinned (.plain (OpenSpec.ofChange signalKindsSpec)) signalKindsCard

/-- THE TIED CARD OF 'dynposlaw06.SignalExact'. -/
def signalExactCard : Claim7 := { stood := { row := signalExactRow, standIns := [], harness := (true, "c1fc071054348cd4782514cc7bef87981df44e17356cfb3ac9124800f9bd63c8"), looks := true }, kinds := [], alts := [], laidByText := true, laidKinds := [.data, .data, .data, .sentinel, .sentinel], laidTests := true, laidLooks := .later }
def SignalExactCardSaid : Prop := Claim7.holds Tryd.pinned (.plain (OpenSpec.ofChange signalExactSpec)) signalExactCard

/-- THE TIED CARD OF 'dynposlaw06.SignalBack'. -/
def signalBackCard : Claim7 := { stood := { row := signalBackRow, standIns := [], harness := (true, "c1fc071054348cd4782514cc7bef87981df44e17356cfb3ac9124800f9bd63c8"), looks := true }, kinds := [], alts := [], laidByText := true, laidKinds := [.data, .data, .data, .sentinel, .sentinel], laidTests := true, laidLooks := .later }
def SignalBackCardSaid : Prop := Claim7.holds Tryd.pinned (.plain (OpenSpec.ofChange signalBackSpec)) signalBackCard

/-- THE TIED CARD OF 'dynposlaw06.SignalNumbers'. -/
def signalNumbersCard : Claim7 := { stood := { row := signalNumbersRow, standIns := [], harness := (true, "c1fc071054348cd4782514cc7bef87981df44e17356cfb3ac9124800f9bd63c8"), looks := true }, kinds := [], alts := [], laidByText := true, laidKinds := [.data, .data, .data, .sentinel, .sentinel], laidTests := true, laidLooks := .later }
def SignalNumbersCardSaid : Prop := Claim7.holds Tryd.pinned (.plain (OpenSpec.ofChange signalNumbersSpec)) signalNumbersCard

/-- THE SECOND FORM's CARD OF 'dynposlaw06.SignalKinds'. -/
def signalKindsUptoCard : Claim7 := { stood := { row := signalKindsUptoRow, standIns := [], harness := (true, "c1fc071054348cd4782514cc7bef87981df44e17356cfb3ac9124800f9bd63c8"), looks := true }, kinds := [], alts := [], laidByText := true, laidKinds := [.data, .data, .data, .sentinel, .sentinel], laidTests := true, laidLooks := .later }
def SignalKindsUptoCardSaid : Prop := Claim7.holds Tryd.pinned (.plain (OpenSpec.upto signalKindsSpec)) signalKindsUptoCard

/-- THE SECOND FORM's CARD OF 'dynposlaw06.SignalExact'. -/
def signalExactUptoCard : Claim7 := { stood := { row := signalExactUptoRow, standIns := [], harness := (true, "c1fc071054348cd4782514cc7bef87981df44e17356cfb3ac9124800f9bd63c8"), looks := true }, kinds := [], alts := [], laidByText := true, laidKinds := [.data, .data, .data, .sentinel, .sentinel], laidTests := true, laidLooks := .later }
def SignalExactUptoCardSaid : Prop := Claim7.holds Tryd.pinned (.plain (OpenSpec.upto signalExactSpec)) signalExactUptoCard

/-- THE SECOND FORM's CARD OF 'dynposlaw06.SignalBack'. -/
def signalBackUptoCard : Claim7 := { stood := { row := signalBackUptoRow, standIns := [], harness := (true, "c1fc071054348cd4782514cc7bef87981df44e17356cfb3ac9124800f9bd63c8"), looks := true }, kinds := [], alts := [], laidByText := true, laidKinds := [.data, .data, .data, .sentinel, .sentinel], laidTests := true, laidLooks := .later }
def SignalBackUptoCardSaid : Prop := Claim7.holds Tryd.pinned (.plain (OpenSpec.upto signalBackSpec)) signalBackUptoCard

/-- THE SECOND FORM's CARD OF 'dynposlaw06.SignalNumbers'. -/
def signalNumbersUptoCard : Claim7 := { stood := { row := signalNumbersUptoRow, standIns := [], harness := (true, "c1fc071054348cd4782514cc7bef87981df44e17356cfb3ac9124800f9bd63c8"), looks := true }, kinds := [], alts := [], laidByText := true, laidKinds := [.data, .data, .data, .sentinel, .sentinel], laidTests := true, laidLooks := .later }
def SignalNumbersUptoCardSaid : Prop := Claim7.holds Tryd.pinned (.plain (OpenSpec.upto signalNumbersSpec)) signalNumbersUptoCard
end Rows
end Go.Proofs.YtcopadohnlcheaaDoor
