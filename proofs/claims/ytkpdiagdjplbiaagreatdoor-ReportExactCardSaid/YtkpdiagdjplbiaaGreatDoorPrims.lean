/- The library's functions by what they answer. Nothing is claimed here. -/
import Derived.Test.YtkpdiagdjplbiaaGreatDoorVm3
import Derived.Lib.Bytealg
import Derived.Lib.Strings
import Derived.Lib.Join
import Derived.Lib.ItoaNum
import Derived.Lib.AtoiAll
namespace Go.Proofs.YtkpdiagdjplbiaaGreatDoor.Vm

def strsOf : List (List PV) → Option (List (List UInt8))
  | [] => some []
  | [.str s] :: l => match strsOf l with | some r => some (s :: r) | none => none
  | _ => none
def strsK (l : List (List UInt8)) : List (List PV) := l.map fun s => [PV.str s]

def pJoin : List AV → Option (List RV)
  | [.t (.p (.sl 1 es)), .t (.p (.str sep))] => match strsOf es with
    | some xs => if xs.length ≤ 140737488355328 ∧ (Lib.join xs sep).length ≤ 140737488355328 then some [.p (.str (Lib.join xs sep))] else none
    | none => none
  | _ => none
def pCutPrefix : List AV → Option (List RV)
  | [.t (.p (.str s)), .t (.p (.str p))] => some [.p (.str (Lib.trimPrefix s p)), .p (.bool (Lib.hasPrefix s p))]
  | _ => none
def pItoa : List AV → Option (List RV)
  | [.t (.p (.int .i64 n))] => if -9223372036854775808 ≤ n ∧ n ≤ 9223372036854775807 then some [.p (.str (Lib.itoa n))] else none
  | _ => none
def atoiP (s : List UInt8) : Int × Bool :=
  match Lib.atoiAll s with
  | .ok v => (v, true)
  | .range => (Lib.atoiSat s, false)
  | _ => (0, false)
def pAtoi : List AV → Option (List RV)
  | [.t (.p (.str s))] => if s.length ≤ 281474976710656 then some [.p (.int .i64 (atoiP s).1), .p (.ifc (atoiP s).2)] else none
  | _ => none
def idxAny : List UInt8 → List UInt8 → Int
  | [], _ => -1
  | b :: l, cs => if cs.contains b then 0 else if idxAny l cs == -1 then -1 else idxAny l cs + 1
def pIndexAny : List AV → Option (List RV)
  | [.t (.p (.str s)), .t (.p (.str cs))] => if (cs == [32, 10] && Nat.ble s.length 4294967280) = true then some [.p (.int .i64 (idxAny s [32, 10]))] else none
  | _ => none

def entE : List PV → Option (Int × Int × Int)
  | [.int .i64 t, .int .i64 k, .sl 1 ((.int .i64 v :: _) :: _)] => some (t, k, v)
  | _ => none
def entsE : List (List PV) → Option (List (Int × Int × Int))
  | [] => some []
  | e :: l => match entE e, entsE l with | some x, some r => some (x :: r) | _, _ => none
def atL (kind time : Int) : List (Int × Int × Int) → Int × Bool
  | [] => (0, false)
  | x :: l => cond (atL kind time l).2 (atL kind time l) (cond (decide (x.2.1 = kind) && decide (x.1 ≤ time)) (x.2.2, true) (0, false))
def pAt : List AV → Option (List RV)
  | [.t (.agg [.sl 3 es, .int .u64 _]), .t (.p (.int .i64 kind)), .t (.p (.int .i64 time))] => match entsE es with
    | some l => if l.length ≤ 100000 then some [.p (.int .i64 (atL kind time l).1), .p (.bool (atL kind time l).2)] else none
    | none => none
  | _ => none

def spanE : List PV → Option (Int × Int × Int)
  | [.int .i64 a, .int .i64 b, .int .i64 v] => some (a, b, v)
  | _ => none
def spansE : List (List PV) → Option (List (Int × Int × Int))
  | [] => some []
  | e :: l => match spanE e, spansE l with | some x, some r => some (x :: r) | _, _ => none
def spanK (l : List (Int × Int × Int)) : List (List PV) := l.map fun x => [.int .i64 x.1, .int .i64 x.2.1, .int .i64 x.2.2]
inductive Ask where
  | ret (r : Option (List RV))
  | ask (f : Nat) (a : List AV) (k : Res → Ask)
def Ask.run (F : Fun) : Ask → Option (List RV)
  | .ret r => r
  | .ask f a k => match F f a [] with | some r => (k r).run F | none => none
theorem Ask.mono {F G : Fun} (h : ∀ f a h r, F f a h = some r → G f a h = some r) : ∀ (t : Ask) (r : List RV), t.run F = some r → t.run G = some r
  | .ret _, _, hr => hr
  | .ask f a k, r, hr => by
    simp only [Ask.run] at hr ⊢
    split at hr
    · rename_i x hx
      rw [h _ _ _ _ hx]
      exact Ask.mono h (k x) r hr
    · cases hr
def FPrim.of (t : List AV → Ask) : FPrim := ⟨fun F a => (t a).run F, fun _ _ h a r hr => Ask.mono h (t a) r hr⟩
def Ask.none : Ask := .ret Option.none
def Ask.int (f : Nat) (a : List AV) (k : Int → Ask) : Ask := .ask f a fun r => match r with | ([.p (.int .i64 n)], []) => k n | _ => .none
def Ask.u64 (f : Nat) (a : List AV) (k : Int → Ask) : Ask := .ask f a fun r => match r with | ([.p (.int .u64 n)], []) => k n | _ => .none
def Ask.bool (f : Nat) (a : List AV) (k : Bool → Ask) : Ask := .ask f a fun r => match r with | ([.p (.bool n)], []) => k n | _ => .none
def Ask.str (f : Nat) (a : List AV) (k : List UInt8 → Ask) : Ask := .ask f a fun r => match r with | ([.p (.str n)], []) => k n | _ => .none
def Ask.entry (f : Nat) (t k : Int) (n : Nat) (ws : List (List PV)) (K : List PV → Ask) : Ask := .ask f [.t (.agg [.int .i64 t, .int .i64 k, .sl n ws])] fun r => match r with
  | ([.agg [.int .i64 t', .int .i64 k', .sl n' ws']], []) => cond (t == t' && k == k') (K [.int .i64 t', .int .i64 k', .sl n' ws']) .none
  | _ => .none
def Ask.sl (sz : Nat) (f : Nat) (a : List AV) (k : List (List PV) → Ask) : Ask := .ask f a fun r => match r with | ([.p (.sl sz' n)], []) => cond (Nat.beq sz sz') (k n) .none | _ => .none
def repNums (a0 a1 a2 a3 a4 a5 a6 : Int) : List Int := [a1, a2, a3, a0, a4, a5, a6]
def repNames : List (List UInt8) := [[114, 101, 100, 32], [32, 121, 101, 108, 108, 111, 119, 32], [32, 103, 114, 101, 101, 110, 32], [32, 110, 111, 110, 101, 32], [10, 119, 111, 114, 115, 116, 32], [10, 98, 114, 111, 107, 101, 110, 32], [10, 115, 104, 111, 114, 116, 32]]
def repB (a0 a1 a2 a3 a4 a5 a6 : Int) : List UInt8 := (List.zipWith (fun s n => s ++ Lib.itoa n) repNames (repNums a0 a1 a2 a3 a4 a5 a6)).flatten ++ [10]
def i64B (n : Int) : Bool := decide (-9223372036854775808 ≤ n) && decide (n ≤ 9223372036854775807)
def pRep : List AV → Option (List RV)
  | [.t (.agg [.int .i64 a0, .int .i64 a1, .int .i64 a2, .int .i64 a3, .int .i64 a4, .int .i64 a5, .int .i64 a6])] =>
    if ([a0, a1, a2, a3, a4, a5, a6].all i64B) = true then some [.p (.str (repB a0 a1 a2 a3 a4 a5 a6))] else none
  | _ => none

def tick4 (l : List (Int × Int × Int)) (lev : Int) : Int := l.foldl (fun s x => if x.2.2 = lev then s + (x.2.1 - x.1) else s) 0
def okSpans (l : List (Int × Int × Int)) : Bool := Nat.ble l.length 1000 && l.all fun x => decide (0 ≤ x.1) && decide (x.1 ≤ x.2.1) && decide (x.2.1 ≤ 2147483648)
def tkE : List PV → Option (Int × Int)
  | [.int .i64 t, .int .i64 k, .sl _ _] => some (t, k)
  | _ => Option.none
def tksE : List (List PV) → Option (List (Int × Int))
  | [] => some []
  | e :: l => match tkE e, tksE l with | some x, some r => some (x :: r) | _, _ => Option.none
def ofKind (l : List (Int × Int)) (kind a b : Int) : List Int := (l.filter fun x => decide (a ≤ x.1) && decide (x.1 < b) && decide (x.2 = kind)).map Prod.fst
def noDup : List Int → List Int
  | [] => []
  | [x] => [x]
  | x :: y :: l => if x = y then noDup (y :: l) else x :: noDup (y :: l)
def ofT (spans worst : Nat) : List AV → Ask
  | [.t (.agg [.sl 3 es, .int .u64 n]), .t (.p (.int .i64 a)), .t (.p (.int .i64 b))] =>
    .ask spans [.t (.agg [.sl 3 es, .int .u64 n]), .t (.p (.int .i64 1)), .t (.p (.int .i64 a)), .t (.p (.int .i64 b))] fun r => match r with
    | ([.p (.sl 3 l), .p (.int .i64 e)], []) =>
      cond (e != 0) (.ret (some [.agg [.int .i64 0, .int .i64 0, .int .i64 0, .int .i64 0, .int .i64 0, .int .i64 0, .int .i64 0], .p (.int .i64 e)])) (
        match spansE l, tksE es with
        | some sp, some tk => cond (okSpans sp && Nat.ble tk.length 1000) (
            .int worst [.t (.agg [.int .i64 (tick4 sp 0), .int .i64 (tick4 sp 1), .int .i64 (tick4 sp 2), .int .i64 (tick4 sp 3)])] fun w =>
              .ret (some [.agg [.int .i64 (tick4 sp 0), .int .i64 (tick4 sp 1), .int .i64 (tick4 sp 2), .int .i64 (tick4 sp 3), .int .i64 w, .int .i64 (ofKind tk 4 a b).length, .int .i64 (noDup (ofKind tk 8 a b)).length], .p (.int .i64 0)])) .none
        | _, _ => .none)
    | _ => .none
  | _ => .none
def hOf (spans worst : Nat) : FPrim := .of (ofT spans worst)

end Go.Proofs.YtkpdiagdjplbiaaGreatDoor.Vm
