/- What the call leans on in the package-level variables. -/
import GoSem.Dispatch
import Derived.Lib.LaidTab
import Derived.Lib.ItoaNum
namespace Go.Proofs.YtkpdiagdjplbiaaGreatDoor.Vm

def nG : Nat := 4
def gPow : Nat := 3
def gPowFact (h : Nat → Option Obj) : Prop := ∃ e fr, h gPow = some (.cells (Lib.pow10Tab.map fun z => Value.int .u64 z).toArray e fr)
def gSyn : Nat := 1
def gSynFact (h : Nat → Option Obj) : Prop := ∃ t p e fr, h gSyn = some (.cells #[.iface t p] e fr)
def gRng : Nat := 2
def gRngFact (h : Nat → Option Obj) : Prop := ∃ t p e fr, h gRng = some (.cells #[.iface t p] e fr)
def gFact (h : Nat → Option Obj) : Prop := gPowFact h ∧ gSynFact h ∧ gRngFact h

theorem gPow_of {h : Nat → Option Obj} (g : gFact h) : gPowFact h := g.1
theorem gSyn_of {h : Nat → Option Obj} (g : gFact h) : gSynFact h := g.2.1
theorem gRng_of {h : Nat → Option Obj} (g : gFact h) : gRngFact h := g.2.2

end Go.Proofs.YtkpdiagdjplbiaaGreatDoor.Vm
