/- The library's functions by what they answer. Nothing is claimed here. -/
import Derived.Test.YtpnpdkgdgfkpfaaGreatDoorVm3
import Derived.Lib.Bytealg
import Derived.Lib.Strings
import Derived.Lib.Join
import Derived.Lib.ItoaNum
import Derived.Lib.AtoiAll
import Derived.Sort.Defs
import Derived.Lib.SlicesCompact
import Derived.Lib.BitFns
namespace Go.Proofs.YtpnpdkgdgfkpfaaGreatDoor.Vm

def strsOf : List (List PV) → Option (List (List UInt8))
  | [] => some []
  | [.str s] :: l => match strsOf l with | some r => some (s :: r) | none => none
  | _ => none
def strsK (l : List (List UInt8)) : List (List PV) := l.map fun s => [PV.str s]

def spl (c : UInt8) : List UInt8 → List (List UInt8)
  | [] => [[]]
  | b :: l => if b == c then [] :: spl c l else match spl c l with | [] => [[b]] | p :: r => (b :: p) :: r

def pIndexByte : List AV → Option (List RV)
  | [.t (.p (.str s)), .t (.p (.int .u8 c))] => some [.p (.int .i64 (Lib.indexByte s c.toNat.toUInt8))]
  | _ => none
def pBIndexByte : List AV → Option (List RV)
  | [.t (.p (.sl 1 es)), .t (.p (.int .u8 c))] => if bytesOk es && !es.isEmpty then some [.p (.int .i64 (Lib.indexByte (toBytes es) c.toNat.toUInt8))] else none
  | _ => none
def pSplit : List AV → Option (List RV)
  | [.t (.p (.str s)), .t (.p (.str [c]))] => if s.length < 4294967281 then some [.p (.sl 1 (strsK (spl c s)))] else none
  | _ => none
def pJoin : List AV → Option (List RV)
  | [.t (.p (.sl 1 es)), .t (.p (.str sep))] => match strsOf es with
    | some xs => if xs.length ≤ 140737488355328 ∧ (Lib.join xs sep).length ≤ 140737488355328 then some [.p (.str (Lib.join xs sep))] else none
    | none => none
  | _ => none
def pCutPrefix : List AV → Option (List RV)
  | [.t (.p (.str s)), .t (.p (.str p))] => some [.p (.str (Lib.trimPrefix s p)), .p (.bool (Lib.hasPrefix s p))]
  | _ => none
def pCutSuffix : List AV → Option (List RV)
  | [.t (.p (.str s)), .t (.p (.str p))] => if s.length ≤ 9223372036854775807 then some [.p (.str (Lib.trimSuffix s p)), .p (.bool (Lib.hasSuffix s p))] else none
  | _ => none
def pItoa : List AV → Option (List RV)
  | [.t (.p (.int .i64 n))] => if -9223372036854775808 ≤ n ∧ n ≤ 9223372036854775807 then some [.p (.str (Lib.itoa n))] else none
  | _ => none
def atoiP (s : List UInt8) : Int × Bool :=
  match Lib.atoiAll s with
  | .ok v => (v, true)
  | .range => (Lib.atoiSat s, false)
  | _ => (0, false)
def pAtoi : List AV → Option (List RV)
  | [.t (.p (.str s))] => if s.length ≤ 281474976710656 then some [.p (.int .i64 (atoiP s).1), .p (.ifc (atoiP s).2)] else none
  | _ => none
inductive Ask where
  | ret (r : Option (List RV))
  | ask (f : Nat) (a : List AV) (k : Res → Ask)
def Ask.run (F : Fun) : Ask → Option (List RV)
  | .ret r => r
  | .ask f a k => match F f a [] with | some r => (k r).run F | none => none
theorem Ask.mono {F G : Fun} (h : ∀ f a h r, F f a h = some r → G f a h = some r) : ∀ (t : Ask) (r : List RV), t.run F = some r → t.run G = some r
  | .ret _, _, hr => hr
  | .ask f a k, r, hr => by
    simp only [Ask.run] at hr ⊢
    split at hr
    · rename_i x hx
      rw [h _ _ _ _ hx]
      exact Ask.mono h (k x) r hr
    · cases hr
def FPrim.of (t : List AV → Ask) : FPrim := ⟨fun F a => (t a).run F, fun _ _ h a r hr => Ask.mono h (t a) r hr⟩
def Ask.none : Ask := .ret Option.none
def Ask.int (f : Nat) (a : List AV) (k : Int → Ask) : Ask := .ask f a fun r => match r with | ([.p (.int .i64 n)], []) => k n | _ => .none
def Ask.u64 (f : Nat) (a : List AV) (k : Int → Ask) : Ask := .ask f a fun r => match r with | ([.p (.int .u64 n)], []) => k n | _ => .none
def Ask.bool (f : Nat) (a : List AV) (k : Bool → Ask) : Ask := .ask f a fun r => match r with | ([.p (.bool n)], []) => k n | _ => .none
def Ask.str (f : Nat) (a : List AV) (k : List UInt8 → Ask) : Ask := .ask f a fun r => match r with | ([.p (.str n)], []) => k n | _ => .none
def Ask.sl (sz : Nat) (f : Nat) (a : List AV) (k : List (List PV) → Ask) : Ask := .ask f a fun r => match r with | ([.p (.sl sz' n)], []) => cond (Nat.beq sz sz') (k n) .none | _ => .none
def maskL (n m : Nat) : List Nat := (List.range n).filter fun k => m.testBit k
def natsK (l : List Nat) : List (List PV) := l.map fun (k : Nat) => [PV.int .i64 (k : Int)]
def intV (l : List Int) : List (List PV) := l.map fun (k : Int) => [PV.int .i64 k]
def cmpN : List Nat → List Nat → Int
  | [], [] => 0
  | [], _ => -1
  | _ :: _, [] => 1
  | x :: xs, y :: ys => if x < y then -1 else if y < x then 1 else cmpN xs ys
def betterP (a b : List Nat × List Int) : Int :=
  if b.2.length < a.2.length then -1 else if a.2.length < b.2.length then 1 else
  if b.1.length < a.1.length then -1 else if a.1.length < b.1.length then 1 else cmpN a.1 b.1
def sortI (l : List Int) : List Int := Lib.compact (l.mergeSort fun x y => decide (x ≤ y))
def orderV (ss : List (List Nat × List Int)) : Array Nat :=
  Sort.pdq (fun x y => decide (betterP (ss.getD x ([], [])) (ss.getD y ([], [])) < 0)) (List.range ss.length).toArray 0 ss.length (Lib.bitLen ss.length) true true
def voteP (ss : List (List Nat × List Int)) : List Nat × List Int × Bool :=
  let b := ss.getD (orderV ss)[0]! ([], [])
  if (orderV ss).toList.any fun i => (ss.getD i ([], [])).2.length == b.2.length && (ss.getD i ([], [])).2 != b.2 then ([], [], true) else (b.1, b.2, false)
def setP (n : Nat) (cs : List Int) (m : Nat) : List Nat × List Int := (maskL n m, sortI ((maskL n m).map fun k => cs.getD k 0))
def setsA (clique n : Nat) (cs : List Int) (fs : List (List PV)) : Nat → Nat → List (List Nat × List Int) → (List (List Nat × List Int) → Ask) → Ask
  | 0, _, acc, K => K acc
  | k + 1, m, acc, K => .bool clique [.t (.p (.sl 4 fs)), .t (.p (.sl 1 (natsK (maskL n m))))] fun v => setsA clique n cs fs k (m + 1) (cond v (acc ++ [setP n cs m]) acc) K
def selfA (agree : Nat) : List Int → List (List PV) → Ask → Ask
  | c :: cs, [.int .i64 t, .int .i64 x, .int .i64 y, .int .i64 e] :: fs, K => cond (decide (0 ≤ c) && decide (c < 8)) (.bool agree [.t (.agg [.int .i64 t, .int .i64 x, .int .i64 y, .int .i64 e]), .t (.agg [.int .i64 t, .int .i64 x, .int .i64 y, .int .i64 e])] fun v => cond v (selfA agree cs fs K) .none) .none
  | [], [], K => K
  | _, _, _ => .none
def isTrk : List PV → Bool
  | [.int .i64 _, .int .i64 _, .int .i64 _, .int .i64 _, .int .i64 _, .int .i64 _, .int .i64 _, .int .i64 _, .bool _, .int .i64 _, .int .i64 _] => true
  | _ => false
def nowsA (now : Nat) (time speed : Int) : List (List PV) → List (List PV) → Int → List Int → List Int → List (List PV) → (List Int → List Int → List (List PV) → Ask) → Ask
  | r :: rs, t :: ts, i, is, cs, fs, K => match r with
    | .int .i64 c :: _ => cond (isTrk t) (.ask now [.t (.agg t), .t (.p (.int .i64 time)), .t (.p (.int .i64 speed))] fun q => match q with
      | ([.agg [.int .i64 a, .int .i64 x, .int .i64 y, .int .i64 e], .p (.bool ok)], []) => cond ok
          (nowsA now time speed rs ts (i + 1) (is ++ [i]) (cs ++ [c]) (fs ++ [[.int .i64 a, .int .i64 x, .int .i64 y, .int .i64 e]]) K)
          (nowsA now time speed rs ts (i + 1) is cs fs K)
      | _ => .none) .none
    | _ => .none
  | _, _, _, is, cs, fs, K => K is cs fs
def votesT (cfg times now agree clique : Nat) : List AV → Ask
  | [.t (.p (.sl 4 rs)), .t (.p (.sl 11 ts)), .t (.p (.int .i64 time)), .t (.p (.int .i64 speed))] =>
    .int cfg [.t (.p (.sl 4 rs))] fun e => cond (e == 0 && Nat.beq rs.length ts.length && Nat.ble rs.length 8) (.bool times [.t (.p (.int .i64 time)), .t (.p (.int .i64 speed))] fun v => cond v (
      nowsA now time speed rs ts 0 [] [] [] fun is cs fs => selfA agree cs fs (setsA clique fs.length cs fs (2 ^ fs.length) 0 [] fun ss =>
        cond ss.isEmpty .none <| .ret (some [.agg [.sl 1 (intV ((voteP ss).1.map fun k => is.getD k 0)), .sl 1 (intV (voteP ss).2.1), .bool (voteP ss).2.2], .p (.sl 1 (intV is)), .p (.sl 4 fs)]))) .none) .none
  | _ => .none
def hVotes (cfg times now agree clique : Nat) : FPrim := .of (votesT cfg times now agree clique)

end Go.Proofs.YtpnpdkgdgfkpfaaGreatDoor.Vm
