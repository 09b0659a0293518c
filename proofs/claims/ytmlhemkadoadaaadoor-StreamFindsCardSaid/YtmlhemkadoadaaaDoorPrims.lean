/- The library's functions by what they answer. Nothing is claimed here. -/
import Derived.Test.YtmlhemkadoadaaaDoorVm3
import Derived.Lib.Bytealg
import Derived.Lib.Strings
import Derived.Lib.Join
import Derived.Lib.ItoaNum
import Derived.Lib.AtoiAll
namespace Go.Proofs.YtmlhemkadoadaaaDoor.Vm

/-- The texts of a list of texts. -/
def strsOf : List (List PV) → Option (List (List UInt8))
  | [] => some []
  | [.str s] :: l => match strsOf l with | some r => some (s :: r) | none => none
  | _ => none
def strsK (l : List (List UInt8)) : List (List PV) := l.map fun s => [PV.str s]

/-- The parts of a text between the bytes c. -/
def spl (c : UInt8) : List UInt8 → List (List UInt8)
  | [] => [[]]
  | b :: l => if b == c then [] :: spl c l else match spl c l with | [] => [[b]] | p :: r => (b :: p) :: r

def pIndexByte : List AV → Option (List RV)
  | [.t (.p (.str s)), .t (.p (.int .u8 c))] => some [.p (.int .i64 (Lib.indexByte s c.toNat.toUInt8))]
  | _ => none
def pBIndexByte : List AV → Option (List RV)
  | [.t (.p (.sl 1 es)), .t (.p (.int .u8 c))] => if bytesOk es && !es.isEmpty then some [.p (.int .i64 (Lib.indexByte (toBytes es) c.toNat.toUInt8))] else none
  | _ => none
def pSplit : List AV → Option (List RV)
  | [.t (.p (.str s)), .t (.p (.str [c]))] => if s.length < 4294967281 then some [.p (.sl 1 (strsK (spl c s)))] else none
  | _ => none
def pJoin : List AV → Option (List RV)
  | [.t (.p (.sl 1 es)), .t (.p (.str sep))] => match strsOf es with
    | some xs => if xs.length ≤ 140737488355328 ∧ (Lib.join xs sep).length ≤ 140737488355328 then some [.p (.str (Lib.join xs sep))] else none
    | none => none
  | _ => none
def pCutPrefix : List AV → Option (List RV)
  | [.t (.p (.str s)), .t (.p (.str p))] => some [.p (.str (Lib.trimPrefix s p)), .p (.bool (Lib.hasPrefix s p))]
  | _ => none
def pCutSuffix : List AV → Option (List RV)
  | [.t (.p (.str s)), .t (.p (.str p))] => if s.length ≤ 9223372036854775807 then some [.p (.str (Lib.trimSuffix s p)), .p (.bool (Lib.hasSuffix s p))] else none
  | _ => none
def pTrimSuffix : List AV → Option (List RV)
  | [.t (.p (.str s)), .t (.p (.str p))] => if s.length ≤ 9223372036854775807 then some [.p (.str (Lib.trimSuffix s p))] else none
  | _ => none
def pItoa : List AV → Option (List RV)
  | [.t (.p (.int .i64 n))] => if -9223372036854775808 ≤ n ∧ n ≤ 9223372036854775807 then some [.p (.str (Lib.itoa n))] else none
  | _ => none
/-- The number, and whether there is no error. -/
def atoiP (s : List UInt8) : Int × Bool :=
  match Lib.atoiAll s with
  | .ok v => (v, true)
  | .range => (Lib.atoiSat s, false)
  | _ => (0, false)
def pAtoi : List AV → Option (List RV)
  | [.t (.p (.str s))] => if s.length ≤ 281474976710656 then some [.p (.int .i64 (atoiP s).1), .p (.ifc (atoiP s).2)] else none
  | _ => none
def pFormatUint : List AV → Option (List RV)
  | [.t (.p (.int .u64 n)), .t (.p (.int .i64 10))] => if 0 ≤ n ∧ n ≤ 18446744073709551615 then some [.p (.str (Lib.itoa n))] else none
  | _ => none
/-- The first place of one of the bytes; -1 if there is none. -/
def idxAny : List UInt8 → List UInt8 → Int
  | [], _ => -1
  | b :: l, cs => if cs.contains b then 0 else if idxAny l cs == -1 then -1 else idxAny l cs + 1
def pIndexAny : List AV → Option (List RV)
  | [.t (.p (.str s)), .t (.p (.str cs))] => some [.p (.int .i64 (idxAny s cs))]
  | _ => none

end Go.Proofs.YtmlhemkadoadaaaDoor.Vm
