/-
  DERIVED. GIVEN WITH THE SEED: THE CARDS: each row of YtiijghkfinkphaaGreatDoorRows.lean that lists a variable, with what it lists TIED to the program's text (the seventh form; the later family's looks); each row that meets fmt, with fmt's text TOLD by the authors' own Lean function (tested against real Go, not proved from fmt's source: count such statements apart). THE CARD IS WHAT COUNTS. Prove the row's statement (the work); the ties are given (YtiijghkfinkphaaGreatDoorTie.lean); close each card by the builder's one call (the guide's Derived/Test/ToyasCard.lean, 'card_holds'). Laid BY PROGRAM, IN A SANDBOX (cutbox-door.mjs). By AI agents, Wed Nov 11 2026. No macro, syntax, notation, axiom, sorry.
-/
import Derived.Test.YtiijghkfinkphaaGreatDoorRows
import GoSem.ClaimSeven
namespace Go.Proofs.YtiijghkfinkphaaGreatDoor
namespace Rows

/-- THE TIED CARD OF 'dynposlaw36.LogbookReads'. -/
def logbookReadsCard : Claim7 := { stood := { row := logbookReadsRow, standIns := [], harness := (true, "b0b50352c472d211ee42142963fd83034f82e80ad0811e8fee87159eca4692b7"), looks := true }, kinds := [], alts := [], laidByText := true, laidKinds := [.data, .data, .data, .data, .sentinel, .sentinel, .pinned], laidTests := true, laidLooks := .later }
def LogbookReadsCardSaid : Prop := Claim7.holds Tryz.pinned (.plain (OpenSpec.ofChange logbookReadsSpec)) logbookReadsCard

/-- THE TIED CARD OF 'dynposlaw36.LogbookBack'. -/
def logbookBackCard : Claim7 := { stood := { row := logbookBackRow, standIns := [], harness := (true, "b0b50352c472d211ee42142963fd83034f82e80ad0811e8fee87159eca4692b7"), looks := true }, kinds := [], alts := [], laidByText := true, laidKinds := [.data, .data, .data, .data, .sentinel, .sentinel, .pinned], laidTests := true, laidLooks := .later }
def LogbookBackCardSaid : Prop := Claim7.holds Tryz.pinned (.plain (OpenSpec.ofChange logbookBackSpec)) logbookBackCard

/-- THE SECOND FORM's CARD OF 'dynposlaw36.LogbookReads'. -/
def logbookReadsUptoCard : Claim7 := { stood := { row := logbookReadsUptoRow, standIns := [], harness := (true, "b0b50352c472d211ee42142963fd83034f82e80ad0811e8fee87159eca4692b7"), looks := true }, kinds := [], alts := [], laidByText := true, laidKinds := [.data, .data, .data, .data, .sentinel, .sentinel, .pinned], laidTests := true, laidLooks := .later }
def LogbookReadsUptoCardSaid : Prop := Claim7.holds Tryz.pinned (.plain (OpenSpec.upto logbookReadsSpec)) logbookReadsUptoCard

/-- THE SECOND FORM's CARD OF 'dynposlaw36.LogbookBack'. -/
def logbookBackUptoCard : Claim7 := { stood := { row := logbookBackUptoRow, standIns := [], harness := (true, "b0b50352c472d211ee42142963fd83034f82e80ad0811e8fee87159eca4692b7"), looks := true }, kinds := [], alts := [], laidByText := true, laidKinds := [.data, .data, .data, .data, .sentinel, .sentinel, .pinned], laidTests := true, laidLooks := .later }
def LogbookBackUptoCardSaid : Prop := Claim7.holds Tryz.pinned (.plain (OpenSpec.upto logbookBackSpec)) logbookBackUptoCard
end Rows
end Go.Proofs.YtiijghkfinkphaaGreatDoor
