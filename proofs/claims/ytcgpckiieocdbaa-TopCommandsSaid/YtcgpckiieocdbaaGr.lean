/- What the call leans on in the package-level variables: of this program nothing. -/
import GoSem.Dispatch
namespace Go.Proofs.Ytcgpckiieocdbaa.Vm

/-- How many of the first blocks are package-level variables. -/
def nG : Nat := 0
/-- What is known of them. -/
def gFact (h : Nat → Option Obj) : Prop := True

end Go.Proofs.Ytcgpckiieocdbaa.Vm
