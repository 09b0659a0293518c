/- What the call leans on in the package-level variables. -/
import GoSem.Dispatch
import Derived.Lib.LaidTab
import Derived.Lib.ItoaNum
namespace Go.Proofs.YtdbajagnhanpfaaDoor.Vm

/-- How many of the first blocks are package-level variables. -/
def nG : Nat := 1
/-- internal/strconv.uint64pow10 -/
def gPow : Nat := 0
def gPowFact (h : Nat → Option Obj) : Prop := ∃ e fr, h gPow = some (.cells (Lib.pow10Tab.map fun z => Value.int .u64 z).toArray e fr)
/-- What is known of them. -/
def gFact (h : Nat → Option Obj) : Prop := gPowFact h

theorem gPow_of {h : Nat → Option Obj} (g : gFact h) : gPowFact h := g

end Go.Proofs.YtdbajagnhanpfaaDoor.Vm
