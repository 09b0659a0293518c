/- The library's functions by what they answer. Nothing is claimed here. -/
import Derived.Test.YtiijghkfinkphaaGreatDoorVm3
import Derived.Lib.Bytealg
import Derived.Lib.Strings
import Derived.Lib.Join
import Derived.Lib.ItoaNum
import Derived.Lib.AtoiAll
namespace Go.Proofs.YtiijghkfinkphaaGreatDoor.Vm

def strsOf : List (List PV) → Option (List (List UInt8))
  | [] => some []
  | [.str s] :: l => match strsOf l with | some r => some (s :: r) | none => none
  | _ => none
def strsK (l : List (List UInt8)) : List (List PV) := l.map fun s => [PV.str s]

def spl (c : UInt8) : List UInt8 → List (List UInt8)
  | [] => [[]]
  | b :: l => if b == c then [] :: spl c l else match spl c l with | [] => [[b]] | p :: r => (b :: p) :: r

def pSplit : List AV → Option (List RV)
  | [.t (.p (.str s)), .t (.p (.str [c]))] => if s.length < 4294967281 then some [.p (.sl 1 (strsK (spl c s)))] else none
  | _ => none
def pJoin : List AV → Option (List RV)
  | [.t (.p (.sl 1 es)), .t (.p (.str sep))] => match strsOf es with
    | some xs => if xs.length ≤ 140737488355328 ∧ (Lib.join xs sep).length ≤ 140737488355328 then some [.p (.str (Lib.join xs sep))] else none
    | none => none
  | _ => none
def pTrimSuffix : List AV → Option (List RV)
  | [.t (.p (.str s)), .t (.p (.str p))] => if s.length ≤ 9223372036854775807 then some [.p (.str (Lib.trimSuffix s p))] else none
  | _ => none
def pItoa : List AV → Option (List RV)
  | [.t (.p (.int .i64 n))] => if -9223372036854775808 ≤ n ∧ n ≤ 9223372036854775807 then some [.p (.str (Lib.itoa n))] else none
  | _ => none
def atoiP (s : List UInt8) : Int × Bool :=
  match Lib.atoiAll s with
  | .ok v => (v, true)
  | .range => (Lib.atoiSat s, false)
  | _ => (0, false)
def pAtoi : List AV → Option (List RV)
  | [.t (.p (.str s))] => if s.length ≤ 281474976710656 then some [.p (.int .i64 (atoiP s).1), .p (.ifc (atoiP s).2)] else none
  | _ => none
def pFormatUint : List AV → Option (List RV)
  | [.t (.p (.int .u64 n)), .t (.p (.int .i64 10))] => if 0 ≤ n ∧ n ≤ 18446744073709551615 then some [.p (.str (Lib.itoa n))] else none
  | _ => none
def entE : List PV → Option (Int × Int × Int)
  | [.int .i64 t, .int .i64 k, .sl 1 ((.int .i64 v :: _) :: _)] => some (t, k, v)
  | _ => none
def entsE : List (List PV) → Option (List (Int × Int × Int))
  | [] => some []
  | e :: l => match entE e, entsE l with | some x, some r => some (x :: r) | _, _ => none
def atL (kind time : Int) : List (Int × Int × Int) → Int × Bool
  | [] => (0, false)
  | x :: l => cond (atL kind time l).2 (atL kind time l) (cond (decide (x.2.1 = kind) && decide (x.1 ≤ time)) (x.2.2, true) (0, false))
def pAt : List AV → Option (List RV)
  | [.t (.agg [.sl 3 es, .int .u64 _]), .t (.p (.int .i64 kind)), .t (.p (.int .i64 time))] => match entsE es with
    | some l => if l.length ≤ 100000 then some [.p (.int .i64 (atL kind time l).1), .p (.bool (atL kind time l).2)] else none
    | none => none
  | _ => none

def strR : Option Res → Option (List UInt8)
  | some ([.p (.str s)], []) => some s
  | _ => none
def intR : Option Res → Option Int
  | some ([.p (.int .i64 e)], []) => some e
  | _ => none
def linesF (F : Fun) (line : Nat) : List (List PV) → Option (List UInt8)
  | [] => some []
  | [.int .i64 t, .int .i64 k, .sl n ws] :: l => match strR (F line [.t (.agg [.int .i64 t, .int .i64 k, .sl n ws])] []), linesF F line l with | some s, some r => some (s ++ r) | _, _ => none
  | _ => none
def bookRun (check line last : Nat) (F : Fun) : List AV → Option (List RV)
  | [.t (.agg [.sl 3 es, .int .u64 n])] =>
    match intR (F check [.t (.agg [.sl 3 es, .int .u64 n])] []) with
    | some e => if e = 0 then
        match linesF F line es, strR (F last [.t (.agg [.sl 3 es, .int .u64 n])] []) with
        | some x, some y => if es.length ≤ 100000 ∧ x.length + y.length ≤ 140737488355328 then some [.p (.str (x ++ y)), .p (.int .i64 0)] else none
        | _, _ => none
      else some [.p (.str []), .p (.int .i64 e)]
    | none => none
  | _ => none
theorem strR_mono {F G : Fun} (h : ∀ f a h r, F f a h = some r → G f a h = some r) {f : Nat} {a : List AV} {s : List UInt8} (hs : strR (F f a []) = some s) : strR (G f a []) = some s := by
  cases hf : F f a [] with
  | none => rw [hf] at hs; cases hs
  | some r => rw [hf] at hs; rw [h _ _ _ _ hf]; exact hs
theorem intR_mono {F G : Fun} (h : ∀ f a h r, F f a h = some r → G f a h = some r) {f : Nat} {a : List AV} {s : Int} (hs : intR (F f a []) = some s) : intR (G f a []) = some s := by
  cases hf : F f a [] with
  | none => rw [hf] at hs; cases hs
  | some r => rw [hf] at hs; rw [h _ _ _ _ hf]; exact hs
theorem linesF_mono {F G : Fun} (h : ∀ f a h r, F f a h = some r → G f a h = some r) (line : Nat) : ∀ {es : List (List PV)} {s : List UInt8}, linesF F line es = some s → linesF G line es = some s
  | [], s, hs => hs
  | e :: l, s, hs => by
    unfold linesF at hs
    split at hs
    · rename_i he; cases he
    · rename_i t k n ws l' he
      cases he
      split at hs
      · rename_i x y hx hy
        unfold linesF
        rw [strR_mono h hx, linesF_mono h line hy]
        exact hs
      · cases hs
    · cases hs
def hBook (check line last : Nat) : FPrim := ⟨bookRun check line last, fun F G h a r hr => by
  unfold bookRun at hr ⊢
  split at hr
  · rename_i es n
    split at hr
    · rename_i e he
      simp only [intR_mono h he]
      split at hr
      · rename_i h0
        rw [if_pos h0]
        split at hr
        · rename_i x y hx hy
          simp only [linesF_mono h line hx, strR_mono h hy]
          exact hr
        · cases hr
      · rename_i h0
        rw [if_neg h0]
        exact hr
    · cases hr
  · cases hr⟩

def spanE : List PV → Option (Int × Int × Int)
  | [.int .i64 a, .int .i64 b, .int .i64 v] => some (a, b, v)
  | _ => none
def spansE : List (List PV) → Option (List (Int × Int × Int))
  | [] => some []
  | e :: l => match spanE e, spansE l with | some x, some r => some (x :: r) | _, _ => none
def spanK (l : List (Int × Int × Int)) : List (List PV) := l.map fun x => [.int .i64 x.1, .int .i64 x.2.1, .int .i64 x.2.2]
def ownR : Option Res → Option (List (List PV) × Int)
  | some ([.own 3 l, .p (.int .i64 e)], []) => some (l, e)
  | _ => none
def degrRun (spans : Nat) (F : Fun) : List AV → Option (List RV)
  | [.t (.agg [.sl 3 es, .int .u64 n]), .t (.p (.int .i64 a)), .t (.p (.int .i64 b))] =>
    match ownR (F spans [.t (.agg [.sl 3 es, .int .u64 n]), .t (.p (.int .i64 1)), .t (.p (.int .i64 a)), .t (.p (.int .i64 b))] []) with
    | some (l, e) => if e = 0 then (match spansE l with
        | some r => if l.length ≤ 1000000 then some [.p (.sl 3 (spanK (r.filter fun x => decide (x.2.2 < 3)))), .p (.int .i64 0)] else none
        | none => none)
      else some [.p (.sl 3 []), .p (.int .i64 e)]
    | none => none
  | _ => none
theorem ownR_mono {F G : Fun} (h : ∀ f a h r, F f a h = some r → G f a h = some r) {f : Nat} {a : List AV} {s : List (List PV) × Int} (hs : ownR (F f a []) = some s) : ownR (G f a []) = some s := by
  cases hf : F f a [] with
  | none => rw [hf] at hs; cases hs
  | some r => rw [hf] at hs; rw [h _ _ _ _ hf]; exact hs
def hDegr (spans : Nat) : FPrim := ⟨degrRun spans, fun F G h a r hr => by
  unfold degrRun at hr ⊢
  split at hr
  · split at hr
    · rename_i he
      simp only [ownR_mono h he]
      exact hr
    · cases hr
  · cases hr⟩

inductive Ask where
  | ret (r : Option (List RV))
  | ask (f : Nat) (a : List AV) (k : Res → Ask)
def Ask.run (F : Fun) : Ask → Option (List RV)
  | .ret r => r
  | .ask f a k => match F f a [] with | some r => (k r).run F | none => none
theorem Ask.mono {F G : Fun} (h : ∀ f a h r, F f a h = some r → G f a h = some r) : ∀ (t : Ask) (r : List RV), t.run F = some r → t.run G = some r
  | .ret _, _, hr => hr
  | .ask f a k, r, hr => by
    simp only [Ask.run] at hr ⊢
    split at hr
    · rename_i x hx
      rw [h _ _ _ _ hx]
      exact Ask.mono h (k x) r hr
    · cases hr
def FPrim.of (t : List AV → Ask) : FPrim := ⟨fun F a => (t a).run F, fun _ _ h a r hr => Ask.mono h (t a) r hr⟩
def Ask.none : Ask := .ret Option.none
def Ask.int (f : Nat) (a : List AV) (k : Int → Ask) : Ask := .ask f a fun r => match r with | ([.p (.int .i64 n)], []) => k n | _ => .none
def Ask.u64 (f : Nat) (a : List AV) (k : Int → Ask) : Ask := .ask f a fun r => match r with | ([.p (.int .u64 n)], []) => k n | _ => .none
def Ask.bool (f : Nat) (a : List AV) (k : Bool → Ask) : Ask := .ask f a fun r => match r with | ([.p (.bool n)], []) => k n | _ => .none
def Ask.str (f : Nat) (a : List AV) (k : List UInt8 → Ask) : Ask := .ask f a fun r => match r with | ([.p (.str n)], []) => k n | _ => .none
def Ask.entry (f : Nat) (t k : Int) (n : Nat) (ws : List (List PV)) (K : List PV → Ask) : Ask := .ask f [.t (.agg [.int .i64 t, .int .i64 k, .sl n ws])] fun r => match r with
  | ([.agg [.int .i64 t', .int .i64 k', .sl n' ws']], []) => cond (t == t' && k == k') (K [.int .i64 t', .int .i64 k', .sl n' ws']) .none
  | _ => .none
def askCopies (cp : Nat) : List (List PV) → (List (List PV) → Ask) → Ask
  | [], K => K []
  | e :: l, K => match e with
    | [.int .i64 t, .int .i64 k, .sl n ws] => .entry cp t k n ws fun x => askCopies cp l fun r => K (x :: r)
    | _ => .none
def badBook (k : Int) : Ask := .ret (some [.agg [.nils, .int .u64 0], .p (.int .i64 k)])
def appT (check valid late cp line sum : Nat) : List AV → Ask
  | [.t (.agg [.sl 3 es, .int .u64 n]), .t (.agg [.int .i64 t, .int .i64 k, .sl m ws])] =>
    .int check [.t (.agg [.sl 3 es, .int .u64 n])] fun err => cond (err != 0) (badBook 72) <|
    .bool valid [.t (.agg [.int .i64 t, .int .i64 k, .sl m ws])] fun v => cond v (
      .bool late [.t (.agg [.sl 3 es, .int .u64 n]), .t (.agg [.int .i64 t, .int .i64 k, .sl m ws])] fun l => cond l (
        cond (Nat.beq es.length 200) (badBook 2) <| cond (Nat.ble es.length 100000) (
          askCopies cp es fun cs => .entry cp t k m ws fun c =>
          .str line [.t (.agg [.int .i64 t, .int .i64 k, .sl m ws])] fun s =>
          .u64 sum [.t (.p (.int .u64 n)), .t (.p (.str s))] fun x => .ret (some [.agg [.sl 3 (cs ++ [c]), .int .u64 x], .p (.int .i64 0)])) .none)
        (badBook 16))
      (badBook 72)
  | _ => .none
def hAppend (check valid late cp line sum : Nat) : FPrim := .of (appT check valid late cp line sum)

def Ask.sl (sz : Nat) (f : Nat) (a : List AV) (k : List (List PV) → Ask) : Ask := .ask f a fun r => match r with | ([.p (.sl sz' n)], []) => cond (Nat.beq sz sz') (k n) .none | _ => .none
def badE : Ask := .ret (some [.agg [.int .i64 0, .int .i64 0, .nils], .p (.bool false)])
def parseEnd (valid line : Nat) (x : List UInt8) : List Int → Ask
  | t :: k :: ws => .bool valid [.t (.agg [.int .i64 t, .int .i64 k, .sl 1 (ws.map fun n => [.int .i64 n])])] fun v =>
    cond v (.str line [.t (.agg [.int .i64 t, .int .i64 k, .sl 1 (ws.map fun n => [.int .i64 n])])] fun y => .ret (some [.agg [.int .i64 t, .int .i64 k, .sl 1 (ws.map fun n => [.int .i64 n])], .p (.bool (y == x))]))
      (.ret (some [.agg [.int .i64 t, .int .i64 k, .sl 1 (ws.map fun n => [.int .i64 n])], .p (.bool false)]))
  | _ => badE
def parseWs (atoi : Nat) : List (List PV) → List Int → (List Int → Ask) → Ask
  | [], ns, K => K ns
  | [.str w] :: l, ns, K => .ask atoi [.t (.p (.str w))] fun r => match r with
    | ([.p (.int .i64 n), .p (.ifc true)], []) => parseWs atoi l (ns ++ [n]) K
    | ([.p (.int .i64 _), .p (.ifc false)], []) => badE
    | _ => .none
  | _, _, _ => .none
def parseT (trim split atoi valid line : Nat) : List AV → Ask
  | [.t (.p (.str x))] => cond (Nat.ble x.length 100000) (.str trim [.t (.p (.str x)), .t (.p (.str [10]))] fun y => .ask split [.t (.p (.str y)), .t (.p (.str [32]))] fun r => match r with
    | ([.p (.sl 1 ws)], []) => cond (Nat.ble ws.length 1000000) (parseWs atoi ws [] (parseEnd valid line x)) .none
    | _ => .none) .none
  | _ => .none
def hParse (trim split atoi valid line : Nat) : FPrim := .of (parseT trim split atoi valid line)
def wordsB : List UInt8 → List (List UInt8)
  | [] => []
  | b :: l => cond (b == 32 || b == 10) ([] :: wordsB l) (match wordsB l with | [] => [[b]] | x :: r => (b :: x) :: r)
def parseRs (number : Nat) : List (List UInt8) → List Int → (List Int → Ask) → Ask
  | [], ns, K => K ns
  | w :: l, ns, K => .ask number [.t (.p (.str w))] fun r => match r with
    | ([.p (.int .i64 n), .p (.bool true)], []) => parseRs number l (ns ++ [n]) K
    | ([.p (.int .i64 _), .p (.bool false)], []) => badE
    | _ => .none
def parseRT (number valid line : Nat) : List AV → Ask
  | [.t (.p (.str x))] => cond (Nat.ble x.length 100000) (parseRs number (wordsB x) [] (parseEnd valid line x)) .none
  | _ => .none
def hParseR (number valid line : Nat) : FPrim := .of (parseRT number valid line)

def linesB : List UInt8 → List (List UInt8)
  | [] => []
  | b :: l => cond (b == 10) ([b] :: linesB l) (match linesB l with | [] => [[b]] | x :: r => (b :: x) :: r)
def readEnd (es : List (List PV)) (s n : Int) : Ask := .ret (some [.agg [.sl 3 es, .int .u64 s], .p (.int .i64 n)])
def readA (last parse late cp sum : Nat) : List (List UInt8) → List (List PV) → Int → Int → Ask
  | [], es, s, n => readEnd es s n
  | x :: xs, es, s, n =>
    .str last [.t (.agg [.sl 3 es, .int .u64 s])] fun t => cond (x == t) (readEnd es s (n + x.length)) <|
    .ask parse [.t (.p (.str x))] fun r => match r with
      | ([.agg [.int .i64 t, .int .i64 k, .sl m ws], .p (.bool true)], []) =>
        .bool late [.t (.agg [.sl 3 es, .int .u64 s]), .t (.agg [.int .i64 t, .int .i64 k, .sl m ws])] fun l => cond l (
          cond (Nat.beq es.length 200) (readEnd es s n) <|
          .entry cp t k m ws fun c => .u64 sum [.t (.p (.int .u64 s)), .t (.p (.str x))] fun s' => readA last parse late cp sum xs (es ++ [c]) s' (n + x.length)) (readEnd es s n)
      | ([.agg [.int .i64 _, .int .i64 _, .nils], .p (.bool false)], []) => readEnd es s n
      | ([.agg [.int .i64 _, .int .i64 _, .sl _ _], .p (.bool false)], []) => readEnd es s n
      | _ => .none
def readT (new last parse late cp sum : Nat) : List AV → Ask
  | [.t (.p (.str x))] => cond (Nat.ble x.length 100000) (.ask new [] fun r => match r with
    | ([.agg [.nils, .int .u64 s]], []) => readA last parse late cp sum (linesB x) [] s 0
    | _ => .none) .none
  | _ => .none
def hRead (new last parse late cp sum : Nat) : FPrim := .of (readT new last parse late cp sum)

end Go.Proofs.YtiijghkfinkphaaGreatDoor.Vm
