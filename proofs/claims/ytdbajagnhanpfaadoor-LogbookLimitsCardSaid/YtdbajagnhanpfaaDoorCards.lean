/-
  DERIVED. GIVEN WITH THE SEED: THE CARDS: each row of YtdbajagnhanpfaaDoorRows.lean that lists a variable, with what it lists TIED to the program's text (the seventh form; the later family's looks); each row that meets fmt, with fmt's text TOLD by the authors' own Lean function (tested against real Go, not proved from fmt's source: count such statements apart). THE CARD IS WHAT COUNTS. Prove the row's statement (the work); the ties are given (YtdbajagnhanpfaaDoorTie.lean); close each card by the builder's one call (the guide's Derived/Test/ToyasCard.lean, 'card_holds'). Laid BY PROGRAM, IN A SANDBOX (cutbox-door.mjs). By AI agents, Wed Nov 11 2026. No macro, syntax, notation, axiom, sorry.
-/
import Derived.Test.YtdbajagnhanpfaaDoorRows
import GoSem.ClaimSeven
namespace Go.Proofs.YtdbajagnhanpfaaDoor
namespace Rows

/-- THE TIED CARD OF 'dynposlaw36.LogbookLimits'. -/
def logbookLimitsCard : Claim7 := { stood := { row := logbookLimitsRow, standIns := [], harness := (true, "c7908209b62fd2a9ececf86333122b898b958d1ca406e84b4581e41cc1680e96"), looks := false }, kinds := [], alts := [], laidByText := true, laidKinds := [.data, .data, .data], laidTests := true, laidLooks := .later }
def LogbookLimitsCardSaid : Prop := Claim7.holds Tryd.pinned (.plain (OpenSpec.ofChange logbookLimitsSpec)) logbookLimitsCard

/-- THE TIED CARD OF 'dynposlaw36.LogbookSpans'. -/
def logbookSpansCard : Claim7 := { stood := { row := logbookSpansRow, standIns := [], harness := (true, "c7908209b62fd2a9ececf86333122b898b958d1ca406e84b4581e41cc1680e96"), looks := false }, kinds := [], alts := [], laidByText := true, laidKinds := [.data, .data, .data], laidTests := true, laidLooks := .later }
def LogbookSpansCardSaid : Prop := Claim7.holds Tryd.pinned (.plain (OpenSpec.ofChange logbookSpansSpec)) logbookSpansCard

/-- THE TIED CARD OF 'dynposlaw36.LogbookGrows'. -/
def logbookGrowsCard : Claim7 := { stood := { row := logbookGrowsRow, standIns := [], harness := (true, "c7908209b62fd2a9ececf86333122b898b958d1ca406e84b4581e41cc1680e96"), looks := false }, kinds := [], alts := [], laidByText := true, laidKinds := [.data, .data, .data], laidTests := true, laidLooks := .later }
def LogbookGrowsCardSaid : Prop := Claim7.holds Tryd.pinned (.plain (OpenSpec.ofChange logbookGrowsSpec)) logbookGrowsCard

/-- THE TIED CARD OF 'dynposlaw36.LogbookExact'. -/
def logbookExactCard : Claim7 := { stood := { row := logbookExactRow, standIns := [], harness := (true, "c7908209b62fd2a9ececf86333122b898b958d1ca406e84b4581e41cc1680e96"), looks := false }, kinds := [], alts := [], laidByText := true, laidKinds := [.data, .data, .data], laidTests := true, laidLooks := .later }
def LogbookExactCardSaid : Prop := Claim7.holds Tryd.pinned (.plain (OpenSpec.ofChange logbookExactSpec)) logbookExactCard

/-- THE SECOND FORM's CARD OF 'dynposlaw36.LogbookLimits'. -/
def logbookLimitsUptoCard : Claim7 := { stood := { row := logbookLimitsUptoRow, standIns := [], harness := (true, "c7908209b62fd2a9ececf86333122b898b958d1ca406e84b4581e41cc1680e96"), looks := false }, kinds := [], alts := [], laidByText := true, laidKinds := [.data, .data, .data], laidTests := true, laidLooks := .later }
def LogbookLimitsUptoCardSaid : Prop := Claim7.holds Tryd.pinned (.plain (OpenSpec.upto logbookLimitsSpec)) logbookLimitsUptoCard

/-- THE SECOND FORM's CARD OF 'dynposlaw36.LogbookSpans'. -/
def logbookSpansUptoCard : Claim7 := { stood := { row := logbookSpansUptoRow, standIns := [], harness := (true, "c7908209b62fd2a9ececf86333122b898b958d1ca406e84b4581e41cc1680e96"), looks := false }, kinds := [], alts := [], laidByText := true, laidKinds := [.data, .data, .data], laidTests := true, laidLooks := .later }
def LogbookSpansUptoCardSaid : Prop := Claim7.holds Tryd.pinned (.plain (OpenSpec.upto logbookSpansSpec)) logbookSpansUptoCard

/-- THE SECOND FORM's CARD OF 'dynposlaw36.LogbookGrows'. -/
def logbookGrowsUptoCard : Claim7 := { stood := { row := logbookGrowsUptoRow, standIns := [], harness := (true, "c7908209b62fd2a9ececf86333122b898b958d1ca406e84b4581e41cc1680e96"), looks := false }, kinds := [], alts := [], laidByText := true, laidKinds := [.data, .data, .data], laidTests := true, laidLooks := .later }
def LogbookGrowsUptoCardSaid : Prop := Claim7.holds Tryd.pinned (.plain (OpenSpec.upto logbookGrowsSpec)) logbookGrowsUptoCard

/-- THE SECOND FORM's CARD OF 'dynposlaw36.LogbookExact'. -/
def logbookExactUptoCard : Claim7 := { stood := { row := logbookExactUptoRow, standIns := [], harness := (true, "c7908209b62fd2a9ececf86333122b898b958d1ca406e84b4581e41cc1680e96"), looks := false }, kinds := [], alts := [], laidByText := true, laidKinds := [.data, .data, .data], laidTests := true, laidLooks := .later }
def LogbookExactUptoCardSaid : Prop := Claim7.holds Tryd.pinned (.plain (OpenSpec.upto logbookExactSpec)) logbookExactUptoCard
end Rows
end Go.Proofs.YtdbajagnhanpfaaDoor
