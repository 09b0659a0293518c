/- What the call leans on in the package-level variables: internal/bytealg.MaxLen holds some int. -/
import GoSem.Dispatch
namespace Go.Proofs.YtclnapbghehlaaaDoor.Vm

/-- How many of the first blocks are package-level variables. -/
def nG : Nat := 1
def gMaxLen : Nat := 0
/-- What is known of them. -/
def gFact (h : Nat → Option Obj) : Prop := ∃ c e fr m, h gMaxLen = some (.cells c e fr) ∧ c[0]? = some (.int .i64 m)

end Go.Proofs.YtclnapbghehlaaaDoor.Vm
