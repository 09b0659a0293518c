/-
  DERIVED. GIVEN WITH THE SEED: THE CARDS: each row of YtmlhemkadoadaaaDoorRows.lean that lists a variable, with what it lists TIED to the program's text (the seventh form; the later family's looks); each row that meets fmt, with fmt's text TOLD by the authors' own Lean function (tested against real Go, not proved from fmt's source: count such statements apart). THE CARD IS WHAT COUNTS. Prove the row's statement (the work); the ties are given (YtmlhemkadoadaaaDoorTie.lean); close each card by the builder's one call (the guide's Derived/Test/ToyasCard.lean, 'card_holds'). Laid BY PROGRAM, IN A SANDBOX (cutbox-door.mjs). By AI agents, Wed Nov 11 2026. No macro, syntax, notation, axiom, sorry.
-/
import Derived.Test.YtmlhemkadoadaaaDoorRows
import GoSem.ClaimSeven
namespace Go.Proofs.YtmlhemkadoadaaaDoor
namespace Rows

/-- THE TIED CARD OF 'dynposlaw05.StreamLimits'. -/
def streamLimitsCard : Claim7 := { stood := { row := streamLimitsRow, standIns := [], harness := (true, "0f1dccffccb7b8a1ae8505e134a49f1025fd689412b42062e01ecb1626288f6e"), looks := false }, kinds := [], alts := [], laidByText := true, laidKinds := [.data, .pinned], laidTests := true, laidLooks := .later }
def StreamLimitsCardSaid : Prop := Claim7.holds Tryd.pinned (.plain (OpenSpec.ofChange streamLimitsSpec)) streamLimitsCard

/-- THE TIED CARD OF 'dynposlaw05.StreamPieces'. -/
def streamPiecesCard : Claim7 := { stood := { row := streamPiecesRow, standIns := [], harness := (true, "0f1dccffccb7b8a1ae8505e134a49f1025fd689412b42062e01ecb1626288f6e"), looks := false }, kinds := [], alts := [], laidByText := true, laidKinds := [.data, .pinned], laidTests := true, laidLooks := .later }
def StreamPiecesCardSaid : Prop := Claim7.holds Tryd.pinned (.plain (OpenSpec.ofChange streamPiecesSpec)) streamPiecesCard

/-- THE TIED CARD OF 'dynposlaw05.StreamLoses'. -/
def streamLosesCard : Claim7 := { stood := { row := streamLosesRow, standIns := [], harness := (true, "0f1dccffccb7b8a1ae8505e134a49f1025fd689412b42062e01ecb1626288f6e"), looks := false }, kinds := [], alts := [], laidByText := true, laidKinds := [.data, .pinned], laidTests := true, laidLooks := .later }
def StreamLosesCardSaid : Prop := Claim7.holds Tryd.pinned (.plain (OpenSpec.ofChange streamLosesSpec)) streamLosesCard

/-- THE TIED CARD OF 'dynposlaw05.StreamExact'. -/
def streamExactCard : Claim7 := { stood := { row := streamExactRow, standIns := [], harness := (true, "0f1dccffccb7b8a1ae8505e134a49f1025fd689412b42062e01ecb1626288f6e"), looks := false }, kinds := [], alts := [], laidByText := true, laidKinds := [.data, .pinned], laidTests := true, laidLooks := .later }
def StreamExactCardSaid : Prop := Claim7.holds Tryd.pinned (.plain (OpenSpec.ofChange streamExactSpec)) streamExactCard

/-- THE TIED CARD OF 'dynposlaw05.StreamFinds'. -/
def streamFindsCard : Claim7 := { stood := { row := streamFindsRow, standIns := [], harness := (true, "0f1dccffccb7b8a1ae8505e134a49f1025fd689412b42062e01ecb1626288f6e"), looks := false }, kinds := [], alts := [], laidByText := true, laidKinds := [.data, .pinned], laidTests := true, laidLooks := .later }
def StreamFindsCardSaid : Prop := Claim7.holds Tryd.pinned (.plain (OpenSpec.ofChange streamFindsSpec)) streamFindsCard

/-- THE SECOND FORM's CARD OF 'dynposlaw05.StreamLimits'. -/
def streamLimitsUptoCard : Claim7 := { stood := { row := streamLimitsUptoRow, standIns := [], harness := (true, "0f1dccffccb7b8a1ae8505e134a49f1025fd689412b42062e01ecb1626288f6e"), looks := false }, kinds := [], alts := [], laidByText := true, laidKinds := [.data, .pinned], laidTests := true, laidLooks := .later }
def StreamLimitsUptoCardSaid : Prop := Claim7.holds Tryd.pinned (.plain (OpenSpec.upto streamLimitsSpec)) streamLimitsUptoCard

/-- THE SECOND FORM's CARD OF 'dynposlaw05.StreamPieces'. -/
def streamPiecesUptoCard : Claim7 := { stood := { row := streamPiecesUptoRow, standIns := [], harness := (true, "0f1dccffccb7b8a1ae8505e134a49f1025fd689412b42062e01ecb1626288f6e"), looks := false }, kinds := [], alts := [], laidByText := true, laidKinds := [.data, .pinned], laidTests := true, laidLooks := .later }
def StreamPiecesUptoCardSaid : Prop := Claim7.holds Tryd.pinned (.plain (OpenSpec.upto streamPiecesSpec)) streamPiecesUptoCard

/-- THE SECOND FORM's CARD OF 'dynposlaw05.StreamLoses'. -/
def streamLosesUptoCard : Claim7 := { stood := { row := streamLosesUptoRow, standIns := [], harness := (true, "0f1dccffccb7b8a1ae8505e134a49f1025fd689412b42062e01ecb1626288f6e"), looks := false }, kinds := [], alts := [], laidByText := true, laidKinds := [.data, .pinned], laidTests := true, laidLooks := .later }
def StreamLosesUptoCardSaid : Prop := Claim7.holds Tryd.pinned (.plain (OpenSpec.upto streamLosesSpec)) streamLosesUptoCard

/-- THE SECOND FORM's CARD OF 'dynposlaw05.StreamExact'. -/
def streamExactUptoCard : Claim7 := { stood := { row := streamExactUptoRow, standIns := [], harness := (true, "0f1dccffccb7b8a1ae8505e134a49f1025fd689412b42062e01ecb1626288f6e"), looks := false }, kinds := [], alts := [], laidByText := true, laidKinds := [.data, .pinned], laidTests := true, laidLooks := .later }
def StreamExactUptoCardSaid : Prop := Claim7.holds Tryd.pinned (.plain (OpenSpec.upto streamExactSpec)) streamExactUptoCard

/-- THE SECOND FORM's CARD OF 'dynposlaw05.StreamFinds'. -/
def streamFindsUptoCard : Claim7 := { stood := { row := streamFindsUptoRow, standIns := [], harness := (true, "0f1dccffccb7b8a1ae8505e134a49f1025fd689412b42062e01ecb1626288f6e"), looks := false }, kinds := [], alts := [], laidByText := true, laidKinds := [.data, .pinned], laidTests := true, laidLooks := .later }
def StreamFindsUptoCardSaid : Prop := Claim7.holds Tryd.pinned (.plain (OpenSpec.upto streamFindsSpec)) streamFindsUptoCard
end Rows
end Go.Proofs.YtmlhemkadoadaaaDoor
