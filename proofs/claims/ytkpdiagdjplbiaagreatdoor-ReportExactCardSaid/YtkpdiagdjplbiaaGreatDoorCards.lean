/-
  DERIVED. GIVEN WITH THE SEED: THE CARDS: each row of YtkpdiagdjplbiaaGreatDoorRows.lean that lists a variable, with what it lists TIED to the program's text (the seventh form; the later family's looks); each row that meets fmt, with fmt's text TOLD by the authors' own Lean function (tested against real Go, not proved from fmt's source: count such statements apart). THE CARD IS WHAT COUNTS. Prove the row's statement (the work); the ties are given (YtkpdiagdjplbiaaGreatDoorTie.lean); close each card by the builder's one call (the guide's Derived/Test/ToyasCard.lean, 'card_holds'). Laid BY PROGRAM, IN A SANDBOX (cutbox-door.mjs). By AI agents, Wed Nov 11 2026. No macro, syntax, notation, axiom, sorry.
-/
import Derived.Test.YtkpdiagdjplbiaaGreatDoorRows
import GoSem.ClaimSeven
namespace Go.Proofs.YtkpdiagdjplbiaaGreatDoor
namespace Rows

/-- THE TIED CARD OF 'dynposlaw40.ReportExact'. -/
def reportExactCard : Claim7 := { stood := { row := reportExactRow, standIns := [], harness := (true, "28db2b62ec1eb75a8d19e59050ad561ed567f90dad536af8936f0d875606b459"), looks := true }, kinds := [], alts := [], laidByText := true, laidKinds := [.data, .data, .data, .sentinel, .sentinel], laidTests := true, laidLooks := .later }
def ReportExactCardSaid : Prop := Claim7.holds Tryz.pinned (.plain (OpenSpec.ofChange reportExactSpec)) reportExactCard

/-- THE SECOND FORM's CARD OF 'dynposlaw40.ReportExact'. -/
def reportExactUptoCard : Claim7 := { stood := { row := reportExactUptoRow, standIns := [], harness := (true, "28db2b62ec1eb75a8d19e59050ad561ed567f90dad536af8936f0d875606b459"), looks := true }, kinds := [], alts := [], laidByText := true, laidKinds := [.data, .data, .data, .sentinel, .sentinel], laidTests := true, laidLooks := .later }
def ReportExactUptoCardSaid : Prop := Claim7.holds Tryz.pinned (.plain (OpenSpec.upto reportExactSpec)) reportExactUptoCard
end Rows
end Go.Proofs.YtkpdiagdjplbiaaGreatDoor
