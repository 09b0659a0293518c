/-
  DERIVED. GIVEN WITH THE SEED: THE CARDS: each row of YtgdeaamklodkkaaDoorRows.lean that lists a variable, with what it lists TIED to the program's text (the seventh form; the later family's looks); each row that meets fmt, with fmt's text TOLD by the authors' own Lean function (tested against real Go, not proved from fmt's source: count such statements apart). THE CARD IS WHAT COUNTS. Prove the row's statement (the work); the ties are given (YtgdeaamklodkkaaDoorTie.lean); close each card by the builder's one call (the guide's Derived/Test/ToyasCard.lean, 'card_holds'). Laid BY PROGRAM, IN A SANDBOX (cutbox-door.mjs). By AI agents, Wed Nov 11 2026. No macro, syntax, notation, axiom, sorry.
-/
import Derived.Test.YtgdeaamklodkkaaDoorRows
import GoSem.ClaimSeven
namespace Go.Proofs.YtgdeaamklodkkaaDoor
namespace Rows

/-- THE TIED CARD OF 'dynposlaw40.ReportCounts'. -/
def reportCountsCard : Claim7 := { stood := { row := reportCountsRow, standIns := [], harness := (true, "e9632802f29260add70b1d536e757719341045de7551f4d5eb96170ac5103705"), looks := true }, kinds := [], alts := [], laidByText := true, laidKinds := [.data, .data, .data], laidTests := true, laidLooks := .later }
def ReportCountsCardSaid : Prop := Claim7.holds Tryd.pinned (.plain (OpenSpec.ofChange reportCountsSpec)) reportCountsCard

/-- THE TIED CARD OF 'dynposlaw40.ReportPercents'. -/
def reportPercentsCard : Claim7 := { stood := { row := reportPercentsRow, standIns := [], harness := (true, "e9632802f29260add70b1d536e757719341045de7551f4d5eb96170ac5103705"), looks := true }, kinds := [], alts := [], laidByText := true, laidKinds := [.data, .data, .data], laidTests := true, laidLooks := .later }
def ReportPercentsCardSaid : Prop := Claim7.holds Tryd.pinned (.plain (OpenSpec.ofChange reportPercentsSpec)) reportPercentsCard

/-- THE TIED CARD OF 'dynposlaw40.ReportAdds'. -/
def reportAddsCard : Claim7 := { stood := { row := reportAddsRow, standIns := [], harness := (true, "e9632802f29260add70b1d536e757719341045de7551f4d5eb96170ac5103705"), looks := true }, kinds := [], alts := [], laidByText := true, laidKinds := [.data, .data, .data], laidTests := true, laidLooks := .later }
def ReportAddsCardSaid : Prop := Claim7.holds Tryd.pinned (.plain (OpenSpec.ofChange reportAddsSpec)) reportAddsCard

/-- THE TIED CARD OF 'dynposlaw40.ReportGroups'. -/
def reportGroupsCard : Claim7 := { stood := { row := reportGroupsRow, standIns := [], harness := (true, "e9632802f29260add70b1d536e757719341045de7551f4d5eb96170ac5103705"), looks := true }, kinds := [], alts := [], laidByText := true, laidKinds := [.data, .data, .data], laidTests := true, laidLooks := .later }
def ReportGroupsCardSaid : Prop := Claim7.holds Tryd.pinned (.plain (OpenSpec.ofChange reportGroupsSpec)) reportGroupsCard

/-- THE TIED CARD OF 'dynposlaw40.ReportBack'. -/
def reportBackCard : Claim7 := { stood := { row := reportBackRow, standIns := [], harness := (true, "e9632802f29260add70b1d536e757719341045de7551f4d5eb96170ac5103705"), looks := true }, kinds := [], alts := [], laidByText := true, laidKinds := [.data, .data, .data, .sentinel, .sentinel], laidTests := true, laidLooks := .later }
def ReportBackCardSaid : Prop := Claim7.holds Tryd.pinned (.plain (OpenSpec.ofChange reportBackSpec)) reportBackCard

/-- THE SECOND FORM's CARD OF 'dynposlaw40.ReportCounts'. -/
def reportCountsUptoCard : Claim7 := { stood := { row := reportCountsUptoRow, standIns := [], harness := (true, "e9632802f29260add70b1d536e757719341045de7551f4d5eb96170ac5103705"), looks := true }, kinds := [], alts := [], laidByText := true, laidKinds := [.data, .data, .data], laidTests := true, laidLooks := .later }
def ReportCountsUptoCardSaid : Prop := Claim7.holds Tryd.pinned (.plain (OpenSpec.upto reportCountsSpec)) reportCountsUptoCard

/-- THE SECOND FORM's CARD OF 'dynposlaw40.ReportPercents'. -/
def reportPercentsUptoCard : Claim7 := { stood := { row := reportPercentsUptoRow, standIns := [], harness := (true, "e9632802f29260add70b1d536e757719341045de7551f4d5eb96170ac5103705"), looks := true }, kinds := [], alts := [], laidByText := true, laidKinds := [.data, .data, .data], laidTests := true, laidLooks := .later }
def ReportPercentsUptoCardSaid : Prop := Claim7.holds Tryd.pinned (.plain (OpenSpec.upto reportPercentsSpec)) reportPercentsUptoCard

/-- THE SECOND FORM's CARD OF 'dynposlaw40.ReportAdds'. -/
def reportAddsUptoCard : Claim7 := { stood := { row := reportAddsUptoRow, standIns := [], harness := (true, "e9632802f29260add70b1d536e757719341045de7551f4d5eb96170ac5103705"), looks := true }, kinds := [], alts := [], laidByText := true, laidKinds := [.data, .data, .data], laidTests := true, laidLooks := .later }
def ReportAddsUptoCardSaid : Prop := Claim7.holds Tryd.pinned (.plain (OpenSpec.upto reportAddsSpec)) reportAddsUptoCard

/-- THE SECOND FORM's CARD OF 'dynposlaw40.ReportGroups'. -/
def reportGroupsUptoCard : Claim7 := { stood := { row := reportGroupsUptoRow, standIns := [], harness := (true, "e9632802f29260add70b1d536e757719341045de7551f4d5eb96170ac5103705"), looks := true }, kinds := [], alts := [], laidByText := true, laidKinds := [.data, .data, .data], laidTests := true, laidLooks := .later }
def ReportGroupsUptoCardSaid : Prop := Claim7.holds Tryd.pinned (.plain (OpenSpec.upto reportGroupsSpec)) reportGroupsUptoCard

/-- THE SECOND FORM's CARD OF 'dynposlaw40.ReportBack'. -/
def reportBackUptoCard : Claim7 := { stood := { row := reportBackUptoRow, standIns := [], harness := (true, "e9632802f29260add70b1d536e757719341045de7551f4d5eb96170ac5103705"), looks := true }, kinds := [], alts := [], laidByText := true, laidKinds := [.data, .data, .data, .sentinel, .sentinel], laidTests := true, laidLooks := .later }
def ReportBackUptoCardSaid : Prop := Claim7.holds Tryd.pinned (.plain (OpenSpec.upto reportBackSpec)) reportBackUptoCard
end Rows
end Go.Proofs.YtgdeaamklodkkaaDoor
