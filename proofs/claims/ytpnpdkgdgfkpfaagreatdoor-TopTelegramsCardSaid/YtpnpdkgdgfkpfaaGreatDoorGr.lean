/- What the call leans on in the package-level variables. -/
import GoSem.Dispatch
import Derived.Lib.LaidTab
import Derived.Lib.ItoaNum
import Derived.Lib.TrailingZeros
namespace Go.Proofs.YtpnpdkgdgfkpfaaGreatDoor.Vm

def nG : Nat := 6
def gMaxLen : Nat := 0
def gMaxLenFact (h : Nat → Option Obj) : Prop := ∃ c e fr m, h gMaxLen = some (.cells c e fr) ∧ c[0]? = some (.int .i64 m)
def gPow : Nat := 3
def gPowFact (h : Nat → Option Obj) : Prop := ∃ e fr, h gPow = some (.cells (Lib.pow10Tab.map fun z => Value.int .u64 z).toArray e fr)
def gSyn : Nat := 1
def gSynFact (h : Nat → Option Obj) : Prop := ∃ t p e fr, h gSyn = some (.cells #[.iface t p] e fr)
def gRng : Nat := 2
def gRngFact (h : Nat → Option Obj) : Prop := ∃ t p e fr, h gRng = some (.cells #[.iface t p] e fr)
def gTz : Nat := 5
def gTzFact (h : Nat → Option Obj) : Prop := ∃ e fr, h gTz = some (.cells ((Lib.deBruijn64tab.map Int.ofNat).map fun z => Value.int .u8 z).toArray e fr)
def gFact (h : Nat → Option Obj) : Prop := gMaxLenFact h ∧ gPowFact h ∧ gSynFact h ∧ gRngFact h ∧ gTzFact h

theorem gMaxLen_of {h : Nat → Option Obj} (g : gFact h) : gMaxLenFact h := g.1
theorem gPow_of {h : Nat → Option Obj} (g : gFact h) : gPowFact h := g.2.1
theorem gSyn_of {h : Nat → Option Obj} (g : gFact h) : gSynFact h := g.2.2.1
theorem gRng_of {h : Nat → Option Obj} (g : gFact h) : gRngFact h := g.2.2.2.1
theorem gTz_of {h : Nat → Option Obj} (g : gFact h) : gTzFact h := g.2.2.2.2

end Go.Proofs.YtpnpdkgdgfkpfaaGreatDoor.Vm
