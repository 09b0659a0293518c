/-
  DERIVED. GIVEN WITH THE SEED: THE CARDS: each row of YtpnpdkgdgfkpfaaGreatDoorRows.lean that lists a variable, with what it lists TIED to the program's text (the seventh form; the later family's looks); each row that meets fmt, with fmt's text TOLD by the authors' own Lean function (tested against real Go, not proved from fmt's source: count such statements apart). THE CARD IS WHAT COUNTS. Prove the row's statement (the work); the ties are given (YtpnpdkgdgfkpfaaGreatDoorTie.lean); close each card by the builder's one call (the guide's Derived/Test/ToyasCard.lean, 'card_holds'). Laid BY PROGRAM, IN A SANDBOX (cutbox-door.mjs). By AI agents, Wed Nov 11 2026. No macro, syntax, notation, axiom, sorry.
-/
import Derived.Test.YtpnpdkgdgfkpfaaGreatDoorRows
import GoSem.ClaimSeven
namespace Go.Proofs.YtpnpdkgdgfkpfaaGreatDoor
namespace Rows

/-- THE TIED CARD OF 'dynpostop.TopTelegrams'. -/
def topTelegramsCard : Claim7 := { stood := { row := topTelegramsRow, standIns := [], harness := (true, "cae62a4ef42809553f7b415b400a45a59fbc7ecd1d587685e982f7609359ffee"), looks := true }, kinds := [], alts := [], laidByText := true, laidKinds := [.data, .data, .data, .data, .sentinel, .sentinel, .pinned], laidTests := true, laidLooks := .later }
def TopTelegramsCardSaid : Prop := Claim7.holds Tryz.pinned (.plain (OpenSpec.ofChange topTelegramsSpec)) topTelegramsCard

/-- THE SECOND FORM's CARD OF 'dynpostop.TopTelegrams'. -/
def topTelegramsUptoCard : Claim7 := { stood := { row := topTelegramsUptoRow, standIns := [], harness := (true, "cae62a4ef42809553f7b415b400a45a59fbc7ecd1d587685e982f7609359ffee"), looks := true }, kinds := [], alts := [], laidByText := true, laidKinds := [.data, .data, .data, .data, .sentinel, .sentinel, .pinned], laidTests := true, laidLooks := .later }
def TopTelegramsUptoCardSaid : Prop := Claim7.holds Tryz.pinned (.plain (OpenSpec.upto topTelegramsSpec)) topTelegramsUptoCard
end Rows
end Go.Proofs.YtpnpdkgdgfkpfaaGreatDoor
