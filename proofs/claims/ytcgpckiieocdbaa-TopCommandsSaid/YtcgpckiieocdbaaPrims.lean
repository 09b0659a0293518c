/- The library's functions by what they answer. Nothing is claimed here. -/
import Derived.Test.YtcgpckiieocdbaaVm3
import Derived.Lib.Bytealg
import Derived.Lib.Strings
import Derived.Lib.Join
import Derived.Lib.ItoaNum
import Derived.Lib.AtoiAll
namespace Go.Proofs.Ytcgpckiieocdbaa.Vm

/-- The texts of a list of texts. -/
def strsOf : List (List PV) → Option (List (List UInt8))
  | [] => some []
  | [.str s] :: l => match strsOf l with | some r => some (s :: r) | none => none
  | _ => none
def strsK (l : List (List UInt8)) : List (List PV) := l.map fun s => [PV.str s]

/-- The parts of a text between the bytes c. -/
def spl (c : UInt8) : List UInt8 → List (List UInt8)
  | [] => [[]]
  | b :: l => if b == c then [] :: spl c l else match spl c l with | [] => [[b]] | p :: r => (b :: p) :: r

def pIndexByte : List AV → Option (List RV)
  | [.t (.p (.str s)), .t (.p (.int .u8 c))] => some [.p (.int .i64 (Lib.indexByte s c.toNat.toUInt8))]
  | _ => none
def pBIndexByte : List AV → Option (List RV)
  | [.t (.p (.sl 1 es)), .t (.p (.int .u8 c))] => if bytesOk es && !es.isEmpty then some [.p (.int .i64 (Lib.indexByte (toBytes es) c.toNat.toUInt8))] else none
  | _ => none
def pSplit : List AV → Option (List RV)
  | [.t (.p (.str s)), .t (.p (.str [c]))] => if s.length < 4294967281 then some [.p (.sl 1 (strsK (spl c s)))] else none
  | _ => none
def pJoin : List AV → Option (List RV)
  | [.t (.p (.sl 1 es)), .t (.p (.str sep))] => match strsOf es with
    | some xs => if xs.length ≤ 140737488355328 ∧ (Lib.join xs sep).length ≤ 140737488355328 then some [.p (.str (Lib.join xs sep))] else none
    | none => none
  | _ => none
def pCutPrefix : List AV → Option (List RV)
  | [.t (.p (.str s)), .t (.p (.str p))] => some [.p (.str (Lib.trimPrefix s p)), .p (.bool (Lib.hasPrefix s p))]
  | _ => none
def pCutSuffix : List AV → Option (List RV)
  | [.t (.p (.str s)), .t (.p (.str p))] => if s.length ≤ 9223372036854775807 then some [.p (.str (Lib.trimSuffix s p)), .p (.bool (Lib.hasSuffix s p))] else none
  | _ => none
def pTrimSuffix : List AV → Option (List RV)
  | [.t (.p (.str s)), .t (.p (.str p))] => if s.length ≤ 9223372036854775807 then some [.p (.str (Lib.trimSuffix s p))] else none
  | _ => none
def pItoa : List AV → Option (List RV)
  | [.t (.p (.int .i64 n))] => if -9223372036854775808 ≤ n ∧ n ≤ 9223372036854775807 then some [.p (.str (Lib.itoa n))] else none
  | _ => none
/-- The number, and whether there is no error. -/
def atoiP (s : List UInt8) : Int × Bool :=
  match Lib.atoiAll s with
  | .ok v => (v, true)
  | .range => (Lib.atoiSat s, false)
  | _ => (0, false)
def pAtoi : List AV → Option (List RV)
  | [.t (.p (.str s))] => if s.length ≤ 281474976710656 then some [.p (.int .i64 (atoiP s).1), .p (.ifc (atoiP s).2)] else none
  | _ => none
def pFormatUint : List AV → Option (List RV)
  | [.t (.p (.int .u64 n)), .t (.p (.int .i64 10))] => if 0 ≤ n ∧ n ≤ 18446744073709551615 then some [.p (.str (Lib.itoa n))] else none
  | _ => none
/-- The first place of one of the bytes; -1 if there is none. -/
def idxAny : List UInt8 → List UInt8 → Int
  | [], _ => -1
  | b :: l, cs => if cs.contains b then 0 else if idxAny l cs == -1 then -1 else idxAny l cs + 1
/-- No two bytes side by side that are not ASCII. -/
def aloneB : List UInt8 → Bool
  | [] => true
  | [_] => true
  | b :: c :: l => !(Nat.ble 128 b.toNat && Nat.ble 128 c.toNat) && aloneB (c :: l)
/-- strings.IndexAny, of a space and a new line. -/
def pIndexAny : List AV → Option (List RV)
  | [.t (.p (.str s)), .t (.p (.str cs))] => if (cs == [32, 10] && Nat.ble s.length 4294967280 && aloneB s) = true then some [.p (.int .i64 (idxAny s [32, 10]))] else none
  | _ => none

/-! ### Functions proved by hand -/
/-- An entry: its time, its kind, its first word. -/
def entE : List PV → Option (Int × Int × Int)
  | [.int .i64 t, .int .i64 k, .sl 1 ((.int .i64 v :: _) :: _)] => some (t, k, v)
  | _ => none
def entsE : List (List PV) → Option (List (Int × Int × Int))
  | [] => some []
  | e :: l => match entE e, entsE l with | some x, some r => some (x :: r) | _, _ => none
/-- The first word of the last entry of a kind up to a time. -/
def atL (kind time : Int) : List (Int × Int × Int) → Int × Bool
  | [] => (0, false)
  | x :: l => cond (atL kind time l).2 (atL kind time l) (cond (decide (x.2.1 = kind) && decide (x.1 ≤ time)) (x.2.2, true) (0, false))
def pAt : List AV → Option (List RV)
  | [.t (.agg [.sl 3 es, .int .u64 _]), .t (.p (.int .i64 kind)), .t (.p (.int .i64 time))] => match entsE es with
    | some l => if l.length ≤ 100000 then some [.p (.int .i64 (atL kind time l).1), .p (.bool (atL kind time l).2)] else none
    | none => none
  | _ => none

def strR : Option Res → Option (List UInt8)
  | some ([.p (.str s)], []) => some s
  | _ => none
def intR : Option Res → Option Int
  | some ([.p (.int .i64 e)], []) => some e
  | _ => none
/-- The texts of the elements, one behind the other. -/
def linesF (F : Fun) (line : Nat) : List (List PV) → Option (List UInt8)
  | [] => some []
  | [.int .i64 t, .int .i64 k, .sl n ws] :: l => match strR (F line [.t (.agg [.int .i64 t, .int .i64 k, .sl n ws])] []), linesF F line l with | some s, some r => some (s ++ r) | _, _ => none
  | _ => none
def bookRun (check line last : Nat) (F : Fun) : List AV → Option (List RV)
  | [.t (.agg [.sl 3 es, .int .u64 n])] =>
    match intR (F check [.t (.agg [.sl 3 es, .int .u64 n])] []) with
    | some e => if e = 0 then
        match linesF F line es, strR (F last [.t (.agg [.sl 3 es, .int .u64 n])] []) with
        | some x, some y => if es.length ≤ 100000 ∧ x.length + y.length ≤ 140737488355328 then some [.p (.str (x ++ y)), .p (.int .i64 0)] else none
        | _, _ => none
      else some [.p (.str []), .p (.int .i64 e)]
    | none => none
  | _ => none
theorem strR_mono {F G : Fun} (h : ∀ f a h r, F f a h = some r → G f a h = some r) {f : Nat} {a : List AV} {s : List UInt8} (hs : strR (F f a []) = some s) : strR (G f a []) = some s := by
  cases hf : F f a [] with
  | none => rw [hf] at hs; cases hs
  | some r => rw [hf] at hs; rw [h _ _ _ _ hf]; exact hs
theorem intR_mono {F G : Fun} (h : ∀ f a h r, F f a h = some r → G f a h = some r) {f : Nat} {a : List AV} {s : Int} (hs : intR (F f a []) = some s) : intR (G f a []) = some s := by
  cases hf : F f a [] with
  | none => rw [hf] at hs; cases hs
  | some r => rw [hf] at hs; rw [h _ _ _ _ hf]; exact hs
theorem linesF_mono {F G : Fun} (h : ∀ f a h r, F f a h = some r → G f a h = some r) (line : Nat) : ∀ {es : List (List PV)} {s : List UInt8}, linesF F line es = some s → linesF G line es = some s
  | [], s, hs => hs
  | e :: l, s, hs => by
    unfold linesF at hs
    split at hs
    · rename_i he; cases he
    · rename_i t k n ws l' he
      cases he
      split at hs
      · rename_i x y hx hy
        unfold linesF
        rw [strR_mono h hx, linesF_mono h line hy]
        exact hs
      · cases hs
    · cases hs
/-- logbook.Text. -/
def hBook (check line last : Nat) : FPrim := ⟨bookRun check line last, fun F G h a r hr => by
  unfold bookRun at hr ⊢
  split at hr
  · rename_i es n
    split at hr
    · rename_i e he
      simp only [intR_mono h he]
      split at hr
      · rename_i h0
        rw [if_pos h0]
        split at hr
        · rename_i x y hx hy
          simp only [linesF_mono h line hx, strR_mono h hy]
          exact hr
        · cases hr
      · rename_i h0
        rw [if_neg h0]
        exact hr
    · cases hr
  · cases hr⟩

/-- A span: from, to, value. -/
def spanE : List PV → Option (Int × Int × Int)
  | [.int .i64 a, .int .i64 b, .int .i64 v] => some (a, b, v)
  | _ => none
def spansE : List (List PV) → Option (List (Int × Int × Int))
  | [] => some []
  | e :: l => match spanE e, spansE l with | some x, some r => some (x :: r) | _, _ => none
def spanK (l : List (Int × Int × Int)) : List (List PV) := l.map fun x => [.int .i64 x.1, .int .i64 x.2.1, .int .i64 x.2.2]
def ownR : Option Res → Option (List (List PV) × Int)
  | some ([.own 3 l, .p (.int .i64 e)], []) => some (l, e)
  | _ => none
def degrRun (spans : Nat) (F : Fun) : List AV → Option (List RV)
  | [.t (.agg [.sl 3 es, .int .u64 n]), .t (.p (.int .i64 a)), .t (.p (.int .i64 b))] =>
    match ownR (F spans [.t (.agg [.sl 3 es, .int .u64 n]), .t (.p (.int .i64 1)), .t (.p (.int .i64 a)), .t (.p (.int .i64 b))] []) with
    | some (l, e) => if e = 0 then (match spansE l with
        | some r => if l.length ≤ 1000000 then some [.p (.sl 3 (spanK (r.filter fun x => decide (x.2.2 < 3)))), .p (.int .i64 0)] else none
        | none => none)
      else some [.p (.sl 3 []), .p (.int .i64 e)]
    | none => none
  | _ => none
theorem ownR_mono {F G : Fun} (h : ∀ f a h r, F f a h = some r → G f a h = some r) {f : Nat} {a : List AV} {s : List (List PV) × Int} (hs : ownR (F f a []) = some s) : ownR (G f a []) = some s := by
  cases hf : F f a [] with
  | none => rw [hf] at hs; cases hs
  | some r => rw [hf] at hs; rw [h _ _ _ _ hf]; exact hs
/-- logbook.Degraded. -/
def hDegr (spans : Nat) : FPrim := ⟨degrRun spans, fun F G h a r hr => by
  unfold degrRun at hr ⊢
  split at hr
  · split at hr
    · rename_i he
      simp only [ownR_mono h he]
      exact hr
    · cases hr
  · cases hr⟩

/-! ### Functions proved by hand that ask others, one question after the other -/
inductive Ask where
  | ret (r : Option (List RV))
  | ask (f : Nat) (a : List AV) (k : Res → Ask)
def Ask.run (F : Fun) : Ask → Option (List RV)
  | .ret r => r
  | .ask f a k => match F f a [] with | some r => (k r).run F | none => none
theorem Ask.mono {F G : Fun} (h : ∀ f a h r, F f a h = some r → G f a h = some r) : ∀ (t : Ask) (r : List RV), t.run F = some r → t.run G = some r
  | .ret _, _, hr => hr
  | .ask f a k, r, hr => by
    simp only [Ask.run] at hr ⊢
    split at hr
    · rename_i x hx
      rw [h _ _ _ _ hx]
      exact Ask.mono h (k x) r hr
    · cases hr
def FPrim.of (t : List AV → Ask) : FPrim := ⟨fun F a => (t a).run F, fun _ _ h a r hr => Ask.mono h (t a) r hr⟩
def Ask.none : Ask := .ret Option.none
def Ask.int (f : Nat) (a : List AV) (k : Int → Ask) : Ask := .ask f a fun r => match r with | ([.p (.int .i64 n)], []) => k n | _ => .none
def Ask.u64 (f : Nat) (a : List AV) (k : Int → Ask) : Ask := .ask f a fun r => match r with | ([.p (.int .u64 n)], []) => k n | _ => .none
def Ask.bool (f : Nat) (a : List AV) (k : Bool → Ask) : Ask := .ask f a fun r => match r with | ([.p (.bool n)], []) => k n | _ => .none
def Ask.str (f : Nat) (a : List AV) (k : List UInt8 → Ask) : Ask := .ask f a fun r => match r with | ([.p (.str n)], []) => k n | _ => .none
/-- A copy of an entry: its time and kind, and words. -/
def Ask.entry (f : Nat) (t k : Int) (n : Nat) (ws : List (List PV)) (K : List PV → Ask) : Ask := .ask f [.t (.agg [.int .i64 t, .int .i64 k, .sl n ws])] fun r => match r with
  | ([.agg [.int .i64 t', .int .i64 k', .sl n' ws']], []) => cond (t == t' && k == k') (K [.int .i64 t', .int .i64 k', .sl n' ws']) .none
  | _ => .none
def askCopies (cp : Nat) : List (List PV) → (List (List PV) → Ask) → Ask
  | [], K => K []
  | e :: l, K => match e with
    | [.int .i64 t, .int .i64 k, .sl n ws] => .entry cp t k n ws fun x => askCopies cp l fun r => K (x :: r)
    | _ => .none
def badBook (k : Int) : Ask := .ret (some [.agg [.nils, .int .u64 0], .p (.int .i64 k)])
/-- logbook.Append. -/
def appT (check valid late cp line sum : Nat) : List AV → Ask
  | [.t (.agg [.sl 3 es, .int .u64 n]), .t (.agg [.int .i64 t, .int .i64 k, .sl m ws])] =>
    .int check [.t (.agg [.sl 3 es, .int .u64 n])] fun err => cond (err != 0) (badBook 72) <|
    .bool valid [.t (.agg [.int .i64 t, .int .i64 k, .sl m ws])] fun v => cond v (
      .bool late [.t (.agg [.sl 3 es, .int .u64 n]), .t (.agg [.int .i64 t, .int .i64 k, .sl m ws])] fun l => cond l (
        cond (Nat.beq es.length 200) (badBook 2) <| cond (Nat.ble es.length 100000) (
          askCopies cp es fun cs => .entry cp t k m ws fun c =>
          .str line [.t (.agg [.int .i64 t, .int .i64 k, .sl m ws])] fun s =>
          .u64 sum [.t (.p (.int .u64 n)), .t (.p (.str s))] fun x => .ret (some [.agg [.sl 3 (cs ++ [c]), .int .u64 x], .p (.int .i64 0)])) .none)
        (badBook 16))
      (badBook 72)
  | _ => .none
def hAppend (check valid late cp line sum : Nat) : FPrim := .of (appT check valid late cp line sum)

def Ask.sl (sz : Nat) (f : Nat) (a : List AV) (k : List (List PV) → Ask) : Ask := .ask f a fun r => match r with | ([.p (.sl sz' n)], []) => cond (Nat.beq sz sz') (k n) .none | _ => .none
/-- A report's text. -/
def repNums (a0 a1 a2 a3 a4 a5 a6 : Int) : List Int := [a1, a2, a3, a0, a4, a5, a6]
def repNames : List (List UInt8) := [[114, 101, 100, 32], [32, 121, 101, 108, 108, 111, 119, 32], [32, 103, 114, 101, 101, 110, 32], [32, 110, 111, 110, 101, 32], [10, 119, 111, 114, 115, 116, 32], [10, 98, 114, 111, 107, 101, 110, 32], [10, 115, 104, 111, 114, 116, 32]]
def repB (a0 a1 a2 a3 a4 a5 a6 : Int) : List UInt8 := (List.zipWith (fun s n => s ++ Lib.itoa n) repNames (repNums a0 a1 a2 a3 a4 a5 a6)).flatten ++ [10]
def i64B (n : Int) : Bool := decide (-9223372036854775808 ≤ n) && decide (n ≤ 9223372036854775807)
/-- report.Text. -/
def pRep : List AV → Option (List RV)
  | [.t (.agg [.int .i64 a0, .int .i64 a1, .int .i64 a2, .int .i64 a3, .int .i64 a4, .int .i64 a5, .int .i64 a6])] =>
    if ([a0, a1, a2, a3, a4, a5, a6].all i64B) = true then some [.p (.str (repB a0 a1 a2 a3 a4 a5 a6))] else none
  | _ => none

/-- The ticks of levels. -/
def tick4 (l : List (Int × Int × Int)) (lev : Int) : Int := l.foldl (fun s x => if x.2.2 = lev then s + (x.2.1 - x.1) else s) 0
/-- Spans that are not too long. -/
def okSpans (l : List (Int × Int × Int)) : Bool := Nat.ble l.length 1000 && l.all fun x => decide (0 ≤ x.1) && decide (x.1 ≤ x.2.1) && decide (x.2.1 ≤ 2147483648)
/-- An entry: its time, its kind. -/
def tkE : List PV → Option (Int × Int)
  | [.int .i64 t, .int .i64 k, .sl _ _] => some (t, k)
  | _ => Option.none
def tksE : List (List PV) → Option (List (Int × Int))
  | [] => some []
  | e :: l => match tkE e, tksE l with | some x, some r => some (x :: r) | _, _ => Option.none
/-- Entries of a kind in a time: their times. -/
def ofKind (l : List (Int × Int)) (kind a b : Int) : List Int := (l.filter fun x => decide (a ≤ x.1) && decide (x.1 < b) && decide (x.2 = kind)).map Prod.fst
def noDup : List Int → List Int
  | [] => []
  | [x] => [x]
  | x :: y :: l => if x = y then noDup (y :: l) else x :: noDup (y :: l)
/-- report.Of. -/
def ofT (spans worst : Nat) : List AV → Ask
  | [.t (.agg [.sl 3 es, .int .u64 n]), .t (.p (.int .i64 a)), .t (.p (.int .i64 b))] =>
    .ask spans [.t (.agg [.sl 3 es, .int .u64 n]), .t (.p (.int .i64 1)), .t (.p (.int .i64 a)), .t (.p (.int .i64 b))] fun r => match r with
    | ([.p (.sl 3 l), .p (.int .i64 e)], []) =>
      cond (e != 0) (.ret (some [.agg [.int .i64 0, .int .i64 0, .int .i64 0, .int .i64 0, .int .i64 0, .int .i64 0, .int .i64 0], .p (.int .i64 e)])) (
        match spansE l, tksE es with
        | some sp, some tk => cond (okSpans sp && Nat.ble tk.length 1000) (
            .int worst [.t (.agg [.int .i64 (tick4 sp 0), .int .i64 (tick4 sp 1), .int .i64 (tick4 sp 2), .int .i64 (tick4 sp 3)])] fun w =>
              .ret (some [.agg [.int .i64 (tick4 sp 0), .int .i64 (tick4 sp 1), .int .i64 (tick4 sp 2), .int .i64 (tick4 sp 3), .int .i64 w, .int .i64 (ofKind tk 4 a b).length, .int .i64 (noDup (ofKind tk 8 a b)).length], .p (.int .i64 0)])) .none
        | _, _ => .none)
    | _ => .none
  | _ => .none
def hOf (spans worst : Nat) : FPrim := .of (ofT spans worst)

/-! ### LogbookLimits, asked -/
/-- An entry that says a level. -/
def limE (i : Nat) : List PV := [.int .i64 i, .int .i64 1, .sl 1 [[.int .i64 (i % 4 : Nat)]]]
/-- Entries on end: m are still to come. -/
def limA (line sum : Nat) : Nat → List (List PV) → Int → (List (List PV) → Int → Ask) → Ask
  | 0, es, s, K => K es s
  | m + 1, es, s, K => .ask line [.t (.agg (limE es.length))] fun r => match r with
    | ([.p (.str x), .p (.int .i64 _)], []) => .u64 sum [.t (.p (.int .u64 s)), .t (.p (.str x))] fun s' => limA line sum m (es ++ [limE es.length]) s' K
    | _ => .none
/-- Entries by Append: m are still to come. -/
def limB (app : Nat) : Nat → Nat → List (List PV) → Int → (List (List PV) → Int → Ask) → Ask
  | 0, _, es, s, K => K es s
  | m + 1, i, es, s, K => .ask app [.t (.agg [.sl 3 es, .int .u64 s]), .t (.agg (limE i))] fun r => match r with
    | ([.agg [.sl 3 es', .int .u64 s'], .p (.int .i64 e)], []) => cond (decide (i < 200)) (cond (e == 0) (limB app m (i + 1) es' s' K) .none) .none
    | ([.agg [.nils, .int .u64 _], .p (.int .i64 e)], []) => cond (decide (i < 200)) .none (cond (e == 2) (limB app m (i + 1) es s K) .none)
    | _ => .none
def limT (new line sum app sane : Nat) : List AV → Ask
  | [.t (.p (.int .u8 n))] => cond (decide (0 ≤ n) && decide (n ≤ 255)) (.ask new [] fun r => match r with
    | ([.agg [.nils, .int .u64 s]], []) => limA line sum 197 [] s fun es s => limB app (n % 6).toNat 197 es s fun es s =>
        .ask app [.t (.agg [.sl 3 es, .int .u64 s]), .t (.agg [.int .i64 1, .int .i64 1, .sl 1 [[.int .i64 1]]])] fun r => match r with
          | ([.agg [.nils, .int .u64 _], .p (.int .i64 e)], []) => cond (e == 16) (.bool sane [] fun v => .ret (some [.p (.bool v)])) .none
          | _ => .none
    | _ => .none) .none
  | _ => .none
def hLim (new line sum app sane : Nat) : FPrim := .of (limT new line sum app sane)

/-! ### network.Reach, asked -/
def cabs (l : List (Int × Int × Int)) : List (Nat × Nat) := l.map fun x => (x.2.1.toNat, x.2.2.toNat)
/-- The first cable of which one end is seen. -/
def srch (seen : List Bool) : List (Nat × Nat) → Option (Nat × Nat)
  | [] => none
  | x :: l => cond (seen.getD x.1 false != seen.getD x.2 false) (some x) (srch seen l)
def sprd (cs : List (Nat × Nat)) : Nat → List Bool → List Bool
  | 0, seen => seen
  | k + 1, seen => match srch seen cs with
    | none => seen
    | some x => sprd cs k ((seen.set x.1 true).set x.2 true)
def seen0 (n a : Nat) : List Bool := (List.replicate n false).set a true
def reachB (n a b : Nat) (cs : List (Nat × Nat)) : Bool := (sprd cs n (seen0 n a)).getD b false
def inN (n x : Int) : Bool := decide (0 ≤ x) && decide (x < n)
def okReach (n a b : Int) (l : List (Int × Int × Int)) : Bool := (inN n a && inN n b) && (decide (n ≤ 1000) && (Nat.ble l.length 1000 && l.all fun x => inN n x.2.1 && inN n x.2.2))
def reachT (right whole : Nat) : List AV → Ask
  | [.t (.agg [.int .i64 n, .sl 3 es]), .t (.p (.sl 2 bs)), .t (.p (.int .i64 net)), .t (.p (.int .i64 a)), .t (.p (.int .i64 b))] =>
    .bool right [.t (.agg [.int .i64 n, .sl 3 es]), .t (.p (.int .i64 net)), .t (.p (.sl 1 [[.int .i64 a], [.int .i64 b]]))] fun v => cond v (
      .sl 3 whole [.t (.agg [.int .i64 n, .sl 3 es]), .t (.p (.sl 2 bs)), .t (.p (.int .i64 net))] fun cs => match spansE cs with
        | some l => cond (okReach n a b l) (.ret (some [.p (.bool (reachB n.toNat a.toNat b.toNat (cabs l)))])) .none
        | none => .none)
      (.ret (some [.p (.bool false)]))
  | _ => .none
def hReach (right whole : Nat) : FPrim := .of (reachT right whole)

end Go.Proofs.Ytcgpckiieocdbaa.Vm
