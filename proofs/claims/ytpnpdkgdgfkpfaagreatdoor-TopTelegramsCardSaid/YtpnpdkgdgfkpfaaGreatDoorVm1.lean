/- The abstract machine, part 1: values, state, operations and the evaluator. Nothing is claimed here. -/
import GoSem.Dispatch
import Derived.Orders
namespace Go.Proofs.YtpnpdkgdgfkpfaaGreatDoor.Vm

inductive PV where
  | int (k : IntKind) (n : Int)
  | bool (b : Bool)
  | str (s : List UInt8)
  | nils
  | sl (sz : Nat) (es : List (List PV))
  | nilp
  | nilf
  | fn (f : Nat)
  | anyb
  | ifc (isNil : Bool)
  deriving Inhabited

inductive TV where
  | p (v : PV)
  | agg (cs : List PV)
  | hsl (id : Nat)
  | ptr (id off : Nat)
  deriving Inhabited

inductive AV where
  | undef
  | no
  | t (v : TV)
  | vptr (cs : List PV)
  | hptr (id i o : Nat)
  | fn (f : Nat) (caps : List TV)
  | tup (vs : List TV)
  | aggo (vs : List TV)
  | nptr (id : Nat)
  deriving Inhabited

inductive Blk where
  | box (cs : List AV)
  | arr (sz : Nat) (es : List (List PV))
  deriving Inhabited

inductive Ent where
  | blk (b : Blk)
  | dead
  | fresh
  deriving Inhabited

inductive RV where
  | p (v : PV)
  | agg (cs : List PV)
  | own (sz : Nat) (es : List (List PV))
  | ownp (cs : List PV)
  deriving Inhabited

inductive Sh where
  | int (k : IntKind)
  | bool
  | str
  | ifc
  | sl (sz : Nat)
  deriving Inhabited

inductive RSh where
  | one (s : Sh)
  | agg (ss : List Sh)
  | own (sz : Nat)
  | ownp (ss : List Sh)
  deriving Inhabited

abbrev Res := List RV × List Blk
abbrev Fun := Nat → List AV → List Blk → Option Res

def nth {α : Type} (d : α) : List α → Nat → α
  | [], _ => d
  | x :: _, 0 => x
  | _ :: l, n + 1 => nth d l n

def upd {α : Type} (v : α) : List α → Nat → List α
  | [], _ => []
  | _ :: l, 0 => v :: l
  | x :: l, n + 1 => x :: upd v l n

def reps {α : Type} (x : α) : Nat → List α
  | 0 => []
  | n + 1 => x :: reps x n

abbrev ltB (a b : Int) : Bool := decide (a < b)
abbrev leB (a b : Int) : Bool := decide (a ≤ b)
abbrev neB (a b : Int) : Bool := decide (a ≠ b)
abbrev leN (a b : Nat) : Bool := decide (a ≤ b)

def PV.toInt : PV → Int | .int _ n => n | _ => 0
def PV.toBool : PV → Bool | .bool b => b | _ => false
def PV.toStr : PV → List UInt8 | .str s => s | _ => []
def PV.toNil : PV → Bool | .ifc b => b | _ => true
def PV.toEs : PV → List (List PV) | .sl _ es => es | _ => []
def RV.toPV : RV → PV | .p v => v | _ => .nilp
def RV.toCs : RV → List PV | .agg cs => cs | .ownp cs => cs | _ => []
def RV.toEs : RV → List (List PV) | .own _ es => es | _ => []
def Blk.toEs : Blk → List (List PV) | .arr _ es => es | _ => []
def Blk.toCs : Blk → List AV | .box cs => cs | _ => []
def AV.toPV : AV → PV | .t (.p v) => v | _ => .nilp
def AV.toCs : AV → List PV | .t (.agg cs) => cs | _ => []

def intAt (cs : List PV) (i : Nat) : Int := (nth .nilp cs i).toInt
def kindEq : IntKind → IntKind → Bool
  | .i8, .i8 | .i16, .i16 | .i32, .i32 | .i64, .i64 | .u8, .u8 | .u16, .u16 | .u32, .u32 | .u64, .u64 => true
  | _, _ => false

def okP : Sh → PV → Bool
  | .int k, .int k' _ => kindEq k k'
  | .bool, .bool _ => true
  | .str, .str _ => true
  | .ifc, .ifc _ => true
  | .sl sz, .sl sz' _ => Nat.beq sz sz'
  | .sl _, .nils => true
  | _, _ => false

def canP : Sh → PV → PV
  | .int k, v => .int k v.toInt
  | .bool, v => .bool v.toBool
  | .str, v => .str v.toStr
  | .ifc, v => .ifc v.toNil
  | .sl sz, v => .sl sz v.toEs

def okCs : List Sh → List PV → Bool
  | [], [] => true
  | s :: ss, c :: cs => okP s c && okCs ss cs
  | _, _ => false

def canCs : List Sh → List PV → Nat → List PV
  | [], _, _ => []
  | s :: ss, cs, i => canP s (nth .nilp cs i) :: canCs ss cs (i + 1)

abbrev AV.p (v : PV) : AV := .t (.p v)
abbrev AV.int (k : IntKind) (n : Int) : AV := .t (.p (.int k n))
abbrev AV.bool (b : Bool) : AV := .t (.p (.bool b))
abbrev AV.str (s : List UInt8) : AV := .t (.p (.str s))
abbrev AV.sl (sz : Nat) (es : List (List PV)) : AV := .t (.p (.sl sz es))
abbrev AV.agg (cs : List PV) : AV := .t (.agg cs)

def ctl {α : Type} (b : Bool) (x y : Option α) : Option α := cond b x y
def bnd {α β : Type} (x : Option α) (f : α → Option β) : Option β := x.bind f

def getE {α : Type} (es : List (List PV)) (i : Int) (K : List PV → Option α) : Option α :=
  ctl (leB 0 i && ltB i es.length) (K (nth [] es i.toNat)) none

def shapesF (P : Program) : Nat → TypeId → Option (List Sh)
  | 0, _ => none
  | d + 1, t =>
    match P.underlying t with
    | some (.int k) => some [.int k]
    | some .bool => some [.bool]
    | some .string => some [.str]
    | some (.interface _) => some [.ifc]
    | some (.slice e) => some [.sl (P.cellsOf e)]
    | some (.struct fs) => fs.toList.foldr (fun f acc => match shapesF P d f.type, acc with | some a, some b => some (a ++ b) | _, _ => none) (some [])
    | some (.array n e) => match shapesF P d e with | some a => some ((reps a n).flatten) | none => none
    | _ => none
def shapes (P : Program) (t : TypeId) : Option (List Sh) := shapesF P 12 t

def isAggT (P : Program) (t : TypeId) : Bool :=
  match P.underlying t with
  | some (.struct _) => true
  | some (.array _ _) => true
  | _ => false

def tyOk (P : Program) (t : TypeId) : Bool := (P.underlying t).isSome

def constP : Value → Option PV
  | .int k n => some (.int k n)
  | .bool b => some (.bool b)
  | .string s => some (.str s.data.toList)
  | .pointer none => some .nilp
  | .slice none 0 0 => some .nils
  | .nilFunc => some .nilf
  | .nilIface => some (.ifc true)
  | _ => none

def constPs : List Value → Option (List PV)
  | [] => some []
  | v :: vs => match constP v, constPs vs with | some a, some b => some (a :: b) | _, _ => none

def constOf : Value → AV
  | .agg cs => match constPs cs.toList with | some l => .t (.agg l) | none => .undef
  | v => match constP v with | some a => .t (.p a) | none => .undef

def evalA (slots : List AV) : Operand → AV
  | .tmp t => nth .undef slots t
  | .const v => constOf v
  | .global _ => .undef
  | .func f => .fn f []

def zeroCells (P : Program) (t : TypeId) : Option (List PV) :=
  match P.info? t with
  | some i => match i.zero with
    | some (.agg cs) => constPs cs.toList
    | some v => match constP v with | some a => some [a] | none => none
    | none => none
  | none => none

def TV.refs : TV → List Nat
  | .hsl id => [id]
  | .ptr id _ => [id]
  | _ => []
def AV.refs : AV → List Nat
  | .t v => v.refs
  | .hptr id _ _ => [id]
  | .fn _ caps => caps.flatMap TV.refs
  | .tup vs => vs.flatMap TV.refs
  | .aggo vs => vs.flatMap TV.refs
  | .nptr id => [id]
  | _ => []

def hasN (x : Nat) : List Nat → Bool
  | [] => false
  | y :: l => Nat.beq x y || hasN x l
def addN (l : List Nat) (x : Nat) : List Nat := cond (hasN x l) l (l ++ [x])

abbrev Ups := List (Nat × Ent)
abbrev Look := Nat → Option Blk

def pureT (look : Look) : TV → Option (List PV × Ups)
  | .p v => some ([v], [])
  | .agg cs => some (cs, [])
  | .hsl id => match look id with
    | some (.arr sz es) => some ([.sl sz es], [(id, .dead)])
    | _ => none
  | .ptr _ _ => none
def oneT : TV → Bool
  | .p _ => true
  | .hsl _ => true
  | _ => false
def pureTs (look : Look) : List TV → Option (List PV × Ups)
  | [] => some ([], [])
  | v :: l => match pureT look v, pureTs look l with
    | some ([x], u), some (vs, us) => if oneT v then some (x :: vs, u ++ us) else none
    | _, _ => none
def pureA (look : Look) : AV → Option (List PV × Ups)
  | .t v => pureT look v
  | .fn f [] => some ([.fn f], [])
  | .aggo vs => pureTs look vs
  | _ => none

def intBin (op : BinOp) (k : IntKind) (a b : Int) : Option PV :=
  match op with
  | .add => some (.int k (k.wrap (a + b)))
  | .sub => some (.int k (k.wrap (a - b)))
  | .mul => some (.int k (k.wrap (a * b)))
  | .and => some (.int k (k.wrap (BitVec.ofInt k.bits a &&& BitVec.ofInt k.bits b).toNat))
  | .or => some (.int k (k.wrap (BitVec.ofInt k.bits a ||| BitVec.ofInt k.bits b).toNat))
  | .xor => some (.int k (k.wrap (BitVec.ofInt k.bits a ^^^ BitVec.ofInt k.bits b).toNat))
  | .andNot => some (.int k (k.wrap (BitVec.ofInt k.bits a &&& ~~~ BitVec.ofInt k.bits b).toNat))
  | .eql => some (.bool (a == b))
  | .neq => some (.bool (a != b))
  | .lss => some (.bool (ltB a b))
  | .leq => some (.bool (leB a b))
  | .gtr => some (.bool (ltB b a))
  | .geq => some (.bool (leB b a))
  | _ => none

def strLess : List UInt8 → List UInt8 → Bool
  | _, [] => false
  | [], _ :: _ => true
  | a :: x, b :: y => a < b || (a == b && strLess x y)

def strBin (op : BinOp) (x y : List UInt8) : Option PV :=
  match op with
  | .eql => some (.bool (x == y))
  | .neq => some (.bool (!(x == y)))
  | .lss => some (.bool (strLess x y))
  | .leq => some (.bool (strLess x y || x == y))
  | .gtr => some (.bool (!(strLess x y || x == y)))
  | .geq => some (.bool (!(strLess x y)))
  | _ => none

def eqIn : List PV → List PV → Option Bool
  | [], [] => some true
  | .int k a :: cs, .int k' b :: ds =>
    match eqIn cs ds with
    | some r => if kindEq k k' then some ((a == b) && r) else none
    | none => none
  | _, _ => none

def arrI (P : Program) (t : TypeId) : Option Nat :=
  match P.underlying t with
  | some (.array n e) =>
    match P.underlying e, P.info? e, P.info? t with
    | some (.int _), some i, some j => if Nat.beq i.size 1 && Nat.beq j.size n then some n else none
    | _, _, _ => none
  | _ => none

def eqF0 (P : Program) : List Field → Nat → List PV → List PV → Option Bool
  | [], _, [], [] => some true
  | f :: fs, i, cs, ds =>
    match arrI P f.type with
    | some n =>
      match eqF0 P fs (i + n) (cs.drop n) (ds.drop n), eqIn (cs.take n) (ds.take n) with
      | some r, some b => if Nat.beq f.offset i && f.name != "_" && Nat.beq (cs.take n).length n then some (b && r) else none
      | _, _ => none
    | none =>
      match cs, ds with
      | c :: cs, d :: ds =>
        match eqF0 P fs (i + 1) cs ds with
        | none => none
        | some r =>
          if Nat.beq f.offset i && f.name != "_" then
            match P.underlying f.type, c, d with
            | some (.int _), .int k a, .int k' b => if kindEq k k' then some ((a == b) && r) else none
            | some .bool, .bool a, .bool b => some ((a == b) && r)
            | some .string, .str a, .str b => some ((a == b) && r)
            | _, _, _ => none
          else none
      | _, _ => none
  | _, _, _, _ => none

def strI (P : Program) (t : TypeId) : Option (Nat × List Field) :=
  match P.underlying t with
  | some (.struct gs) =>
    match P.info? t with
    | some j => if !P.stoodInHeld t then some (j.size, gs.toList) else none
    | none => none
  | _ => none

def eqFl (P : Program) : List Field → Nat → List PV → List PV → Option Bool
  | [], _, [], [] => some true
  | f :: fs, i, cs, ds =>
    match strI P f.type with
    | some (n, gs) =>
      match eqFl P fs (i + n) (cs.drop n) (ds.drop n), eqF0 P gs 0 (cs.take n) (ds.take n) with
      | some r, some b => if Nat.beq f.offset i && f.name != "_" then some (b && r) else none
      | _, _ => none
    | none =>
      match arrI P f.type with
      | some n =>
        match eqFl P fs (i + n) (cs.drop n) (ds.drop n), eqIn (cs.take n) (ds.take n) with
        | some r, some b => if Nat.beq f.offset i && f.name != "_" && Nat.beq (cs.take n).length n then some (b && r) else none
        | _, _ => none
      | none =>
        match cs, ds with
        | c :: cs, d :: ds =>
          match eqFl P fs (i + 1) cs ds with
          | none => none
          | some r =>
            if Nat.beq f.offset i && f.name != "_" then
              match P.underlying f.type, c, d with
              | some (.int _), .int k a, .int k' b => if kindEq k k' then some ((a == b) && r) else none
              | some .bool, .bool a, .bool b => some ((a == b) && r)
              | some .string, .str a, .str b => some ((a == b) && r)
              | _, _, _ => none
            else none
        | _, _ => none
  | _, _, _, _ => none

def eqAgg (P : Program) (t : TypeId) (cs ds : List PV) : Option Bool :=
  match P.underlying t with
  | some (.struct fs) => if !P.stoodInHeld t && !P.eqGuardType P.depth t then eqFl P fs.toList 0 cs ds else none
  | some (.array _ _) =>
    if !P.eqGuardType P.depth t then
      match arrI P t with
      | some n => if Nat.beq cs.length n then eqIn cs ds else none
      | none => none
    else none
  | _ => none

def binK {α : Type} (P : Program) (op : BinOp) (xt : TypeId) (x y : AV) (K : PV → Option α) : Option α :=
  match x, y with
  | .t (.p (.int k a)), .t (.p (.int k' b)) =>
    match op with
    | .quo => ctl (kindEq k k' && neB b 0) (K (.int k (k.wrap (a.tdiv b)))) none
    | .rem => ctl (kindEq k k' && neB b 0) (K (.int k (a.tmod b))) none
    | .shl => ctl (leB 0 b) (K (.int k (k.wrap (a * 2 ^ (min b.toNat k.bits))))) none
    | .shr => ctl (leB 0 b) (K (.int k (a.fdiv (2 ^ (min b.toNat k.bits))))) none
    | _ => match intBin op k a b with | some v => ctl (kindEq k k') (K v) none | none => none
  | .t (.p (.str a)), .t (.p (.str b)) =>
    match op with
    | .add => ctl (leN (a.length + b.length) 9223372036854775807) (K (.str (a ++ b))) none
    | _ => match strBin op a b with | some v => K v | none => none
  | .t (.p (.bool a)), .t (.p (.bool b)) =>
    match op, P.underlying xt with
    | .eql, some .bool => K (.bool (a == b))
    | .neq, some .bool => K (.bool (!(a == b)))
    | _, _ => none
  | .t (.agg cs), .t (.agg ds) =>
    match op, eqAgg P xt cs ds with
    | .eql, some r => K (.bool r)
    | .neq, some r => K (.bool (!r))
    | _, _ => none
  | .t (.p (.sl _ es)), .t (.p .nils) =>
    match op, P.underlying xt, es with
    | .eql, some (.slice _), [] => K .anyb
    | .eql, some (.slice _), _ :: _ => K (.bool false)
    | _, _, _ => none
  | .t (.p .nils), .t (.p .nils) =>
    match op, P.underlying xt with
    | .eql, some (.slice _) => K (.bool true)
    | _, _ => none
  | _, _ => none

def cut {α : Type} (l : List α) (off n : Nat) : List α := (l.drop off).take n

def lay {α : Type} : List α → Nat → List α → List α
  | cs, 0, vs => go cs vs
  | [], _ + 1, _ => []
  | c :: cs, off + 1, vs => c :: lay cs off vs
where
  go : List α → List α → List α
    | cs, [] => cs
    | [], _ => []
    | _ :: cs, v :: vs => v :: go cs vs

def oneOrAgg (P : Program) (t : TypeId) (cs : List PV) : Option AV :=
  if tyOk P t then if isAggT P t then some (.t (.agg cs)) else match cs with | [v] => some (.t (.p v)) | _ => none else none

def place (P : Program) (t : TypeId) (i : Nat) : Option (Nat × Nat) :=
  match P.underlying t with
  | some (.struct fs) => match fs[i]? with | some f => some (f.offset, P.cellsOf f.type) | none => none
  | some (.array _ e) => some (i * P.cellsOf e, P.cellsOf e)
  | _ => none

def partsOk (P : Program) (t : TypeId) : Bool :=
  match P.underlying t with
  | some (.struct fs) => fs.toList.all fun f => tyOk P f.type
  | some (.array _ e) => tyOk P e
  | _ => false

def fillA (pl : Nat → Option (Nat × Nat)) (look : Look) (ev : Operand → AV) : List PV → List (Nat × Operand) → Option (List PV × Ups)
  | cells, [] => some (cells, [])
  | cells, (i, x) :: rest =>
    match pl i, pureA look (ev x) with
    | some (off, size), some (vs, u) =>
      if Nat.beq vs.length size && Nat.ble (off + size) cells.length then
        match fillA pl look ev (lay cells off vs) rest with
        | some (r, us) => some (r, u ++ us)
        | none => none
      else none
    | _, _ => none

def fillSeq (pl : Nat → Option (Nat × Nat)) (look : Look) (ev : Operand → AV) : Nat → List (Nat × Operand) → Option (List PV × Ups)
  | _, [] => some ([], [])
  | cur, (i, x) :: rest =>
    match pl i, pureA look (ev x) with
    | some (off, size), some (vs, u) =>
      if Nat.beq off cur && Nat.beq vs.length size then
        match fillSeq pl look ev (cur + size) rest with
        | some (r, us) => some (vs ++ r, u ++ us)
        | none => none
      else none
    | _, _ => none

def fillX (pl : Nat → Option (Nat × Nat)) (look : Look) (ev : Operand → AV) (z : List PV) (parts : List (Nat × Operand)) : Option (List PV × Ups) :=
  match fillSeq pl look ev 0 parts with
  | some (cs, us) => cond (Nat.beq cs.length z.length) (some (cs, us)) (fillA pl look ev z parts)
  | none => fillA pl look ev z parts

def tvsA : AV → Option (List TV)
  | .t (.p v) => some [.p v]
  | .t (.agg cs) => some (cs.map TV.p)
  | .t (.hsl id) => some [.hsl id]
  | .aggo vs => some vs
  | _ => none
def ownsA : AV → Bool
  | .t (.hsl _) => true
  | .aggo _ => true
  | _ => false
def fillO (pl : Nat → Option (Nat × Nat)) (ev : Operand → AV) : List TV → List (Nat × Operand) → Option (List TV)
  | cells, [] => some cells
  | cells, (i, x) :: rest =>
    match pl i, tvsA (ev x) with
    | some (off, size), some vs => if Nat.beq vs.length size && Nat.ble (off + size) cells.length then fillO pl ev (lay cells off vs) rest else none
    | _, _ => none

def chunks (sz : Nat) : Nat → List PV → List (List PV)
  | 0, _ => []
  | n + 1, cs => cs.take sz :: chunks sz n (cs.drop sz)

def loadBox (look : Look) : List AV → Option (List PV × List AV × Ups)
  | [] => some ([], [], [])
  | c :: cs => match pureA look c, loadBox look cs with
    | some ([v], u), some (vs, ds, us) => some (v :: vs, (match c with | .fn _ _ => c | _ => .t (.p v)) :: ds, u ++ us)
    | _, _ => none

def minI (y x : Int) : Int := if y < x then y else x
def maxI (y x : Int) : Int := if y > x then y else x
def minA : List Int → Int → Int
  | [], x => x
  | y :: l, x => minA l (minI y x)
def maxA : List Int → Int → Int
  | [], x => x
  | y :: l, x => maxA l (maxI y x)

def allInts (k : IntKind) : List AV → Option (List Int)
  | [] => some []
  | .t (.p (.int k' n)) :: l => match allInts k l with | some r => if kindEq k k' then some (n :: r) else none | none => none
  | _ => none

abbrev Step (α : Type) := AV → Ups → Option α

def lenOf (look : Look) : AV → Option Nat
  | .t (.p (.sl _ es)) => some es.length
  | .t (.p .nils) => some 0
  | .t (.hsl id) => match look id with | some (.arr _ es) => some es.length | _ => none
  | _ => none

def esOf (look : Look) : AV → Option (Nat × List (List PV))
  | .t (.p (.sl sz es)) => some (sz, es)
  | .t (.p .nils) => some (0, [])
  | .t (.hsl id) => match look id with | some (.arr sz es) => some (sz, es) | _ => none
  | _ => none

def byteEs (s : List UInt8) : List (List PV) := s.map fun b => [.int .u8 b.toNat]

def setEs (es : List (List PV)) (i o : Nat) (vs : List PV) : List (List PV) := upd (lay (nth [] es i) o vs) es i

end Go.Proofs.YtpnpdkgdgfkpfaaGreatDoor.Vm
