/- What the call leans on in the package-level variables: of this program nothing. -/
import GoSem.Dispatch
namespace Go.Proofs.YtclplmjlolpfbaaGreat.Vm

def nG : Nat := 0
def gFact (h : Nat → Option Obj) : Prop := True

end Go.Proofs.YtclplmjlolpfbaaGreat.Vm
