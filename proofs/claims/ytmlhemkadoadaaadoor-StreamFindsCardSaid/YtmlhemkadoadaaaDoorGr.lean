/- What the call leans on in the package-level variables. -/
import GoSem.Dispatch
import Derived.Lib.LaidTab
import Derived.Lib.ItoaNum
namespace Go.Proofs.YtmlhemkadoadaaaDoor.Vm

/-- How many of the first blocks are package-level variables. -/
def nG : Nat := 1
/-- internal/bytealg.MaxLen -/
def gMaxLen : Nat := 0
def gMaxLenFact (h : Nat → Option Obj) : Prop := ∃ c e fr m, h gMaxLen = some (.cells c e fr) ∧ c[0]? = some (.int .i64 m)
/-- What is known of them. -/
def gFact (h : Nat → Option Obj) : Prop := gMaxLenFact h

theorem gMaxLen_of {h : Nat → Option Obj} (g : gFact h) : gMaxLenFact h := g

end Go.Proofs.YtmlhemkadoadaaaDoor.Vm
