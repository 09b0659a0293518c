/- The abstract machine, part 2: the evaluator. Nothing is claimed here. -/
import Derived.Test.YtpnpdkgdgfkpfaaGreatDoorVm1
namespace Go.Proofs.YtpnpdkgdgfkpfaaGreatDoor.Vm

def cellsA : AV → List AV
  | .t (.agg cs) => cs.map AV.p
  | .aggo vs => vs.map AV.t
  | v => [v]
def aggOrOne : AV → Bool
  | .t _ => true
  | .fn _ _ => true
  | .vptr _ => true
  | .aggo vs => vs.all oneT
  | _ => false

def casesI {α : Type} (i : Int) : Nat → Nat → (Nat → Option α) → Option α
  | _, 0, _ => none
  | j, n + 1, K => ctl (i == (j : Int)) (K j) (casesI i (j + 1) n K)

def byteAt (s : List UInt8) (i : Int) : Int := ((nth 0 s i.toNat).toNat : Int)

def toBytes (es : List (List PV)) : List UInt8 := es.map fun e => UInt8.ofNat (intAt e 0).toNat

def tvsOf : List AV → Option (List TV)
  | [] => some []
  | .t v :: l => match tvsOf l with | some r => some (v :: r) | none => none
  | _ => none

def loadK {α : Type} (P : Program) (look : Look) (t : TypeId) (a : AV) (K : Step α) : Option α :=
  if tyOk P t then
    match a with
    | .t (.ptr id o) =>
      match look id with
      | some (.box cs) =>
        if isAggT P t then
          match Nat.beq (cut cs o (P.cellsOf t)).length (P.cellsOf t), loadBox look (cut cs o (P.cellsOf t)) with
          | true, some (vs, _, []) => K (.t (.agg vs)) []
          | true, some (vs, ds, us) => K (.t (.agg vs)) (us ++ [(id, .blk (.box (lay cs o ds)))])
          | _, _ => none
        else match cs.drop o with
          | c :: _ => K c []
          | [] => none
      | _ => none
    | .vptr cs =>
      if isAggT P t then
        if Nat.ble (P.cellsOf t) cs.length then K (.t (.agg (cs.take (P.cellsOf t)))) [] else none
      else match cs with
        | v :: _ => K (.t (.p v)) []
        | [] => none
    | .hptr id i o =>
      match look id, shapes P t with
      | some (.arr sz es), some ss =>
        if Nat.ble (o + ss.length) sz && Nat.beq ss.length (cond (isAggT P t) (P.cellsOf t) 1) then
          ctl (okCs ss (cut (nth [] es i) o ss.length))
            (match oneOrAgg P t (canCs ss (nth [] es i) o) with | some v => K v [] | none => none) none
        else none
      | _, _ => none
    | _ => none
  else none

def storeK {α : Type} (P : Program) (look : Look) (t : TypeId) (a v : AV) (K : Step α) : Option α :=
  if tyOk P t then
  match a with
  | .t (.ptr id o) =>
    match look id, aggOrOne v with
    | some (.box cs), true =>
      if Nat.beq (cellsA v).length (P.cellsOf t) && Nat.ble (o + (cellsA v).length) cs.length then
        K .no [(id, .blk (.box (lay cs o (cellsA v))))]
      else none
    | _, _ => none
  | .hptr id i o =>
    match look id, pureA look v with
    | some (.arr sz es), some (vs, us) =>
      if Nat.beq vs.length (P.cellsOf t) && Nat.ble (o + vs.length) sz && us.all (fun u => !Nat.beq u.1 id) then
        K .no (us ++ [(id, .blk (.arr sz (setEs es i o vs)))])
      else none
    | _, _ => none
  | _ => none
  else none

def indexAddrK {α : Type} (P : Program) (look : Look) (t : TypeId) (x ix : AV) (K : Step α) : Option α :=
  match P.underlying t, ix with
  | some (.slice e), .t (.p (.int _ i)) =>
    match x with
    | .t (.p (.sl sz es)) =>
      match shapes P e with
      | some ss => if Nat.beq sz (P.cellsOf e) && Nat.beq ss.length sz then getE es i fun c => ctl (okCs ss c) (K (.vptr (canCs ss c 0)) []) none else none
      | none => none
    | .t (.hsl id) =>
      match look id with
      | some (.arr sz es) => if Nat.beq sz (P.cellsOf e) && tyOk P e then ctl (leB 0 i && ltB i es.length) (K (.hptr id i.toNat 0) []) none else none
      | _ => none
    | _ => none
  | some (.array n e), .t (.p (.int _ i)) =>
    if tyOk P e then
    match x with
    | .t (.ptr id o) => casesI i 0 n fun j => K (.t (.ptr id (o + j * P.cellsOf e))) []
    | .vptr cs => casesI i 0 n fun j => K (.vptr (cs.drop (j * P.cellsOf e))) []
    | .hptr id k o => casesI i 0 n fun j => K (.hptr id k (o + j * P.cellsOf e)) []
    | _ => none
    else none
  | _, _ => none

def indexK {α : Type} (P : Program) (t : TypeId) (x ix : AV) (K : Step α) : Option α :=
  match P.underlying t, x, ix with
  | some (.array n e), .t (.agg cs), .t (.p (.int _ i)) =>
    match shapes P e with
    | some ss =>
      if Nat.beq cs.length (n * P.cellsOf e) && Nat.beq ss.length (P.cellsOf e) then
        getE (chunks (P.cellsOf e) n cs) i fun c => ctl (okCs ss c)
          (match oneOrAgg P e (canCs ss c 0) with | some v => K v [] | none => none) none
      else none
    | none => none
  | some .string, .t (.p (.str s)), .t (.p (.int _ i)) =>
    ctl (leB 0 i && ltB i s.length) (K (.int .u8 (byteAt s i)) []) none
  | _, _, _ => none

def intOpt (ev : Operand → AV) : Option Operand → Option (Option Int)
  | none => some none
  | some x => match ev x with | .t (.p (.int _ i)) => some (some i) | _ => none

def cutI {α : Type} (l : List α) (lo hi : Int) : List α := (l.take hi.toNat).drop lo.toNat

def sliceK {α : Type} (P : Program) (look : Look) (t : TypeId) (x : AV) (lo hi : Option Int) (K : Step α) : Option α :=
  match P.underlying t, x with
  | some .string, .t (.p (.str s)) =>
    ctl (leB 0 (lo.getD 0) && (leB (lo.getD 0) (hi.getD s.length) && leB (hi.getD s.length) s.length))
      (K (.str (cutI s (lo.getD 0) (hi.getD s.length))) []) none
  | some (.slice e), .t (.p (.sl sz es)) =>
    if Nat.beq sz (P.cellsOf e) && tyOk P e then
      ctl (leB 0 (lo.getD 0) && (leB (lo.getD 0) (hi.getD es.length) && leB (hi.getD es.length) es.length))
        (K (.sl sz (cutI es (lo.getD 0) (hi.getD es.length))) []) none
    else none
  | some (.slice e), .t (.hsl id) =>
    match look id with
    | some (.arr sz es) =>
      if Nat.beq sz (P.cellsOf e) && tyOk P e then
        ctl (leB 0 (lo.getD 0) && (leB (lo.getD 0) (hi.getD es.length) && leB (hi.getD es.length) es.length))
          (K (.sl sz (cutI es (lo.getD 0) (hi.getD es.length))) [(id, .dead)]) none
      else none
    | _ => none
  | _, _ => none

def room : Nat := 140737488355328

def srcOf (P : Program) (look : Look) (e tx : TypeId) (x : AV) : Option (Nat × List (List PV)) :=
  match P.underlying tx with
  | some (.slice _) => esOf look x
  | some .string => (match x with | .t (.p (.str s)) => cond (Nat.beq (P.cellsOf e) 1) (some (1, byteEs s)) none | _ => none)
  | _ => none

def appendK {α : Type} (P : Program) (look : Look) (nid : Nat) (ts : List TypeId) (s x : AV) (K : Step α) : Option α :=
  match ts with
  | [t, tx] =>
    match P.underlying t with
    | some (.slice e) =>
      match srcOf P look e tx x, zeroCells P e with
      | some (sz', es'), some z =>
        if (Nat.beq (P.cellsOf e) sz' || es'.isEmpty) && Nat.ble 1 (P.cellsOf e) && Nat.ble 1 (P.bytesOf e) && Nat.beq z.length (P.cellsOf e) then
          match s with
          | .t (.p .nils) =>
            ctl (leN (es'.length * P.bytesOf e) room) (K (.t (.hsl nid)) [(nid, .blk (.arr (P.cellsOf e) es'))]) none
          | .t (.hsl id) =>
            match look id with
            | some (.arr sz0 es) =>
              if Nat.beq sz0 (P.cellsOf e) then
                ctl (leN ((es.length + es'.length) * P.bytesOf e) room) (K (.t (.hsl nid)) [(id, .dead), (nid, .blk (.arr (P.cellsOf e) (es ++ es')))]) none
              else none
            | _ => none
          | _ => none
        else none
      | _, _ => none
    | _ => none
  | _ => none

def makeSliceK {α : Type} (P : Program) (nid : Nat) (t : TypeId) (l c : AV) (K : Step α) : Option α :=
  match P.underlying t, l, c with
  | some (.slice e), .t (.p (.int .i64 n)), .t (.p (.int .i64 m)) =>
    match zeroCells P e with
    | some z =>
      if Nat.beq z.length (P.cellsOf e) && Nat.ble 1 z.length then
        ctl (leB 0 n && (leB n m && (leB m 9223372036854775807 && leB (m * P.bytesOf e) room)))
          (K (.t (.hsl nid)) [(nid, .blk (.arr z.length (reps z n.toNat)))]) none
      else none
    | none => none
  | _, _, _ => none

def byteOk : List PV → Bool
  | [.int .u8 n] => leB 0 n && ltB n 256
  | _ => false

def bytesOk (es : List (List PV)) : Bool := es.all byteOk

def isByte : Option TypeDesc → Bool
  | some (.int .u8) => true
  | _ => false

def convertK {α : Type} (P : Program) (look : Look) (nid : Nat) (src dst : TypeId) (x : AV) (K : Step α) : Option α :=
  match P.underlying src, P.underlying dst, x with
  | some (.int _), some (.int k), .t (.p (.int _ n)) => K (.int k (k.wrap n)) []
  | some .string, some .string, .t (.p (.str s)) => K (.str s) []
  | some .string, some (.slice e), .t (.p (.str s)) =>
    if isByte (P.underlying e) then K (.t (.hsl nid)) [(nid, .blk (.arr 1 (byteEs s)))] else none
  | some (.slice _), some (.slice e), .t (.hsl id) =>
    if src == dst && isByte (P.underlying e) then
      match look id with
      | some (.arr _ (_ :: _)) => K (.t (.hsl id)) []
      | _ => none
    else none
  | some (.slice e), some .string, x =>
    if isByte (P.underlying e) then
      match esOf look x with
      | some (sz, es) => if Nat.beq sz 1 || es.isEmpty then ctl (bytesOk es) (K (.str (toBytes es)) []) none else none
      | none => none
    else none
  | _, _, _ => none

def isNilI : Operand → Bool
  | .const .nilIface => true
  | _ => false

def nilK {α : Type} (P : Program) (op : BinOp) (xt : TypeId) (x : AV) (K : PV → Option α) : Option α :=
  match x, P.underlying xt with
  | .t (.p (.ifc a)), some (.interface _) =>
    match op with
    | .eql => K (.bool a)
    | .neq => K (.bool (!a))
    | _ => none
  | _, _ => none

def builtinK {α : Type} (P : Program) (look : Look) (nid : Nat) (b : Builtin) (ts : List TypeId) (args : List AV) (K : Step α) : Option α :=
  match b, args with
  | .len, [x] =>
    match ts with
    | t :: _ => match P.underlying t with
      | some (.array n _) => K (.int .i64 n) []
      | some (.slice _) => match lenOf look x with | some n => K (.int .i64 n) [] | none => none
      | some .string => match x with | .t (.p (.str s)) => K (.int .i64 s.length) [] | _ => none
      | _ => none
    | _ => none
  | .min, .t (.p (.int k a)) :: l => match allInts k l with | some r => K (.int k (minA r a)) [] | none => none
  | .max, .t (.p (.int k a)) :: l => match allInts k l with | some r => K (.int k (maxA r a)) [] | none => none
  | .append, [s, x] => appendK P look nid ts s x K
  | _, _ => none

def unK {α : Type} (op : UnOp) (x : AV) (K : Step α) : Option α :=
  match op, x with
  | .neg, .t (.p (.int k n)) => K (.int k (k.wrap (0 - n))) []
  | .not, .t (.p (.bool b)) => K (.bool (!b)) []
  | _, _ => none

def addrOff (x : AV) (off : Nat) : Option AV :=
  match x with
  | .t (.ptr id o) => some (.t (.ptr id (o + off)))
  | .vptr cs => some (.vptr (cs.drop off))
  | .hptr id i o => some (.hptr id i (o + off))
  | _ => none

def nrmC : List Sh → List PV → List PV
  | s :: ss, c :: cs => (match s with
    | .sl sz => (match c with | .nils => .sl sz [] | _ => c)
    | _ => c) :: nrmC ss cs
  | _, cs => cs
def nrmS (P : Program) (e : TypeId) (n : Nat) (cs : List PV) : List PV :=
  match shapes P e with
  | some ss => nrmC (reps ss n).flatten cs
  | none => cs

def execK {α : Type} (P : Program) (look : Look) (nid : Nat) (op : Op) (ev : Operand → AV) (K : Step α) : Option α :=
  match op with
  | .move x => K (ev x) []
  | .assign x => K (ev x) []
  | .pick c a b => match ev c with | .t (.p (.bool t)) => ctl t (K (ev a) []) (K (ev b) []) | _ => none
  | .alloc t => match zeroCells P t with
    | some cs => if Nat.beq cs.length (P.cellsOf t) then K (.t (.ptr nid 0)) [(nid, .blk (.box (cs.map AV.p)))] else none
    | none => none
  | .box _ x => if aggOrOne (ev x) then K (.t (.ptr nid 0)) [(nid, .blk (.box (cellsA (ev x))))] else none
  | .build t parts => match zeroCells P t with
    | some z =>
      if partsOk P t then
        if parts.toList.any fun x => ownsA (ev x.2) then match fillO (place P t) ev (z.map TV.p) parts.toList with | some cs => if cs.all oneT then K (.aggo cs) [] else none | none => none
        else match fillX (place P t) look ev z parts.toList with | some (cs, us) => K (.t (.agg cs)) us | none => none
      else none
    | none => none
  | .buildSlice t n parts => match P.underlying t with
    | some (.slice e) => match zeroCells P e with
      | some z =>
        if Nat.beq z.length (P.cellsOf e) && Nat.ble 1 z.length && Nat.ble (n * z.length) 16777216 then
          match fillX (fun i => some (i * z.length, z.length)) look ev (reps z n).flatten parts.toList with
          | some (cs, us) => K (.t (.hsl nid)) (us ++ [(nid, .blk (.arr z.length (chunks z.length n (nrmS P e n cs))))])
          | none => none
        else none
      | none => none
    | _ => none
  | .load t a => loadK P look t (ev a) K
  | .store t a x => storeK P look t (ev a) (ev x) K
  | .nilCheck x => match ev x with
    | .t (.ptr id o) => K (.t (.ptr id o)) []
    | .vptr cs => K (.vptr cs) []
    | .hptr id i o => K (.hptr id i o) []
    | _ => none
  | .binOp op xt x y _ => cond (isNilI y) (nilK P op xt (ev x) fun v => K (.t (.p v)) []) (binK P op xt (ev x) (ev y) fun v => K (.t (.p v)) [])
  | .unOp op _ x => unK op (ev x) K
  | .convert src dst x => convertK P look nid src dst (ev x) K
  | .makeFunc (.func f) first caps => match first.toList, tvsOf (caps.toList.map ev) with
    | [], some l => K (.fn f l) []
    | _, _ => none
  | .makeSlice t l c => makeSliceK P nid t (ev l) (ev c) K
  | .slice t x lo hi mx => match mx, intOpt ev lo, intOpt ev hi with
    | none, some l, some h => sliceK P look t (ev x) l h K
    | _, _, _ => none
  | .fieldAddr t x f => match P.underlying t with
    | some (.struct fs) => match fs[f]? with
      | some fd => if Nat.ble 1 (P.cellsOf fd.type) && tyOk P fd.type then match addrOff (ev x) fd.offset with | some v => K v [] | none => none else none
      | none => none
    | _ => none
  | .field t x f => match P.underlying t, ev x with
    | some (.struct fs), .t (.agg cs) => match fs[f]? with
      | some fd =>
        if Nat.beq (cut cs fd.offset (P.cellsOf fd.type)).length (P.cellsOf fd.type) then
          match oneOrAgg P fd.type (cut cs fd.offset (P.cellsOf fd.type)) with | some v => K v [] | none => none
        else none
      | none => none
    | _, _ => none
  | .indexAddr t x i => indexAddrK P look t (ev x) (ev i) K
  | .index t x i => indexK P t (ev x) (ev i) K
  | .extract x i => match ev x with
    | .tup vs => match vs.drop i with | v :: _ => K (.t v) [] | [] => none
    | _ => none
  | .call { callee := .builtin b, args, argTypes } => builtinK P look nid b argTypes.toList (args.toList.map ev) K
  | _ => none

structure St where
  slots : List AV
  heap : List Ent
  deriving Inhabited

def lookH (h : List Ent) (id : Nat) : Option Blk :=
  match nth .fresh h id with
  | .blk b => some b
  | _ => none

def putUps : Ups → List Ent → List Ent
  | [], h => h
  | (id, e) :: us, h => putUps us (upd e h id)

def setDst (d : Option Nat) (v : AV) (slots : List AV) : List AV :=
  match d with
  | some d => upd v slots d
  | none => slots

structure Ann where
  slots : List (Nat × (Sh ⊕ List Sh ⊕ AV))
  blks : List ((List (Sh ⊕ AV)) ⊕ Nat)
  deriving Inhabited

inductive Ex where
  | nrm
  | exit (id : Nat)
  | ret
  deriving Inhabited

def Ex.eqb : Ex → Ex → Bool
  | .nrm, .nrm => true
  | .exit i, .exit j => Nat.beq i j
  | .ret, .ret => true
  | _, _ => false

structure LAnn where
  head : Ann
  exits : List (Ex × Ann)
  deriving Inhabited

inductive HPrim where
  | write
  | text
  | dele (g : Nat) (p : List PV → Bool)

structure FPrim where
  run : Fun → List AV → Option (List RV)
  mono : ∀ F G : Fun, (∀ f a h r, F f a h = some r → G f a h = some r) → ∀ a r, run F a = some r → run G a = some r
def FPrim.pure (p : List AV → Option (List RV)) : FPrim := ⟨fun _ => p, fun _ _ _ _ _ h => h⟩

structure Env where
  P : Program
  okf : List Nat
  own : List (Nat × Nat)
  mutA : List (Nat × Nat)
  frz : List (Nat × Nat)
  loops : List (Nat × Nat × LAnn)
  joins : List (Nat × Nat × List (Ex × Ann))
  nilf : List Nat
  prims : List (Nat × FPrim)
  inl : List Nat
  fzr : List (Nat × Nat × List (Nat × Option Nat))
  hpr : List (Nat × HPrim)

def findP {α : Type} (f : Nat) : List (Nat × α) → Option α
  | [] => none
  | (x, v) :: l => cond (Nat.beq f x) (some v) (findP f l)

def has2 (a b : Nat) : List (Nat × Nat) → Bool
  | [] => false
  | (x, y) :: l => (Nat.beq a x && Nat.beq b y) || has2 a b l
def find2 {α : Type} (a b : Nat) : List (Nat × Nat × α) → Option α
  | [] => none
  | (x, y, v) :: l => cond (Nat.beq a x && Nat.beq b y) (some v) (find2 a b l)

def idx (x : Nat) : List Nat → Nat
  | [] => 0
  | y :: l => cond (Nat.beq x y) 0 (idx x l + 1)

def resSh (E : Env) (f : Nat) : Nat → List TypeId → Option (List RSh)
  | _, [] => some []
  | i, t :: ts =>
    match resSh E f (i + 1) ts with
    | none => none
    | some r =>
      match E.P.underlying t with
      | some (.pointer e) => match shapes E.P e with | some ss => some (.ownp ss :: r) | none => none
      | some (.slice e) => cond (has2 f i E.own) (some (.own (E.P.cellsOf e) :: r)) (some (.one (.sl (E.P.cellsOf e)) :: r))
      | some (.struct _) => match shapes E.P t with | some ss => some (.agg ss :: r) | none => none
      | some (.array _ _) => match shapes E.P t with | some ss => some (.agg ss :: r) | none => none
      | _ => match shapes E.P t with | some [s] => some (.one s :: r) | _ => none

def okR : List RSh → List RV → Bool
  | [], [] => true
  | .one s :: l, .p v :: r => okP s v && okR l r
  | .agg ss :: l, .agg cs :: r => okCs ss cs && okR l r
  | .own sz :: l, .own sz' _ :: r => Nat.beq sz sz' && okR l r
  | .ownp ss :: l, .ownp cs :: r => okCs ss cs && okR l r
  | _, _ => false

def bring (nid : Nat) : List RSh → Nat → List RV → List TV × Ups
  | [], _, _ => ([], [])
  | .one s :: l, i, rs => let q := bring nid l (i + 1) rs; (.p (canP s (nth (.p .nilp) rs i).toPV) :: q.1, q.2)
  | .agg ss :: l, i, rs => let q := bring nid l (i + 1) rs; (.agg (canCs ss (nth (.p .nilp) rs i).toCs 0) :: q.1, q.2)
  | .own sz :: l, i, rs => let q := bring (nid + 1) l (i + 1) rs; (.hsl nid :: q.1, (nid, .blk (.arr sz (nth (.p .nilp) rs i).toEs)) :: q.2)
  | .ownp ss :: l, i, rs => let q := bring (nid + 1) l (i + 1) rs; (.ptr nid 0 :: q.1, (nid, .blk (.box ((canCs ss (nth (.p .nilp) rs i).toCs 0).map AV.p))) :: q.2)

def owns : List RSh → Nat
  | [] => 0
  | .own _ :: l => owns l + 1
  | .ownp _ :: l => owns l + 1
  | _ :: l => owns l

def valOf : List TV → AV
  | [v] => .t v
  | vs => .tup vs

def passIds (E : Env) (f : Nat) : Nat → List AV → List Nat → List Nat
  | _, [], ids => ids
  | i, a :: l, ids =>
    passIds E f (i + 1) l (match a with
      | .t (.ptr id _) => addN ids id
      | .t (.hsl id) => cond (has2 f i E.mutA) (addN ids id) ids
      | .fn _ caps => caps.foldl (fun s c => match c with | .ptr id _ => addN s id | _ => s) ids
      | _ => ids)

def passTV (ids : List Nat) : List TV → Option (List TV)
  | [] => some []
  | .ptr id o :: l => match passTV ids l with | some r => some (.ptr (idx id ids) o :: r) | none => none
  | .p v :: l => match passTV ids l with | some r => some (.p v :: r) | none => none
  | .agg cs :: l => match passTV ids l with | some r => some (.agg cs :: r) | none => none
  | .hsl _ :: _ => none

def lends (E : Env) (f : Nat) : Nat → List AV → Bool
  | _, [] => false
  | i, .t (.hsl _) :: l => !has2 f i E.mutA || lends E f (i + 1) l
  | i, _ :: l => lends E f (i + 1) l

def passA (E : Env) (look : Look) (f : Nat) (ids : List Nat) : Nat → List AV → Option (List AV)
  | _, [] => some []
  | i, a :: l =>
    match passA E look f ids (i + 1) l with
    | none => none
    | some r =>
      match a with
      | .t (.p v) => some (.t (.p v) :: r)
      | .t (.agg cs) => some (.t (.agg cs) :: r)
      | .t (.ptr id o) => some (.t (.ptr (idx id ids) o) :: r)
      | .t (.hsl id) =>
        cond (has2 f i E.mutA) (some (.t (.hsl (idx id ids)) :: r))
          (cond (hasN id ids) none (match look id with | some (.arr sz es) => some (.t (.p (.sl sz es)) :: r) | _ => none))
      | .fn g caps => match passTV ids caps with | some c => some (.fn g c :: r) | none => none
      | .vptr cs => some (.vptr cs :: r)
      | _ => none

def pureCells : List AV → Option (List PV)
  | [] => some []
  | .t (.p v) :: l => match pureCells l with | some r => some (v :: r) | none => none
  | _ => none

def shOf : PV → Option Sh
  | .int k _ => some (.int k)
  | .bool _ => some .bool
  | .str _ => some .str
  | .sl sz _ => some (.sl sz)
  | _ => none
def shsOf : List PV → Option (List Sh)
  | [] => some []
  | v :: l => match shOf v, shsOf l with | some s, some r => some (s :: r) | _, _ => none

def passB (look : Look) : List Nat → Option (List Blk × List (List Sh ⊕ Nat))
  | [] => some ([], [])
  | id :: l =>
    match passB look l, look id with
    | some (bs, ss), some (.box cs) =>
      match pureCells cs with
      | some vs => match shsOf vs with | some s => some (.box cs :: bs, .inl s :: ss) | none => none
      | none => none
    | some (bs, ss), some (.arr sz es) => some (.arr sz es :: bs, .inr sz :: ss)
    | _, _ => none

def okB : List (List Sh ⊕ Nat) → List Blk → Bool
  | [], [] => true
  | .inl ss :: l, .box cs :: r => (match pureCells cs with | some vs => okCs ss vs | none => false) && okB l r
  | .inr sz :: l, .arr sz' _ :: r => Nat.beq sz sz' && okB l r
  | _, _ => false

def canBox (ss : List Sh) (cs : List AV) : List AV := (canCs ss (cs.map AV.toPV) 0).map AV.p

def backB : List (List Sh ⊕ Nat) → Nat → List Blk → List Blk
  | [], _, _ => []
  | .inl ss :: l, i, bs => .box (canBox ss (nth (.box []) bs i).toCs) :: backB l (i + 1) bs
  | .inr sz :: l, i, bs => .arr sz (nth (.box []) bs i).toEs :: backB l (i + 1) bs

def zipUps : List Nat → List Blk → Ups
  | id :: l, b :: r => (id, .blk b) :: zipUps l r
  | _, _ => []

def noslP : PV → Bool
  | .sl _ _ => false
  | _ => true
def noslA : AV → Bool
  | .t (.p v) => noslP v
  | _ => false
def noslR : List RV → Bool
  | [] => true
  | .p v :: l => noslP v && noslR l
  | .agg cs :: l => cs.all noslP && noslR l
  | .own _ es :: l => es.all (fun e => e.all noslP) && noslR l
  | .ownp cs :: l => cs.all noslP && noslR l
def noslB : List Blk → Bool
  | [] => true
  | .box cs :: l => cs.all noslA && noslB l
  | .arr _ es :: l => es.all (fun e => e.all noslP) && noslB l

def callK {α : Type} (E : Env) (F : Fun) (look : Look) (nid : Nat) (f : Nat) (args : List AV) (K : Step α) : Option α :=
  if hasN f E.okf then
    match E.P.funcs[f]? with
    | none => none
    | some fn =>
      match resSh E f 0 fn.resultTypes.toList with
      | none => none
      | some rsh =>
        let ids := passIds E f 0 args []
        match passA E look f ids 0 args, passB look ids with
        | some as, some (bs, ss) =>
          if Nat.ble (owns rsh) 2 then bnd (F f as bs) fun r => ctl (cond (lends E f 0 args) (okR rsh r.1 && okB ss r.2 && (noslR r.1 && noslB r.2)) (okR rsh r.1 && okB ss r.2))
            (K (valOf (bring nid rsh 0 r.1).1) (zipUps ids (backB ss 0 r.2) ++ (bring nid rsh 0 r.1).2)) none
          else none
        | _, _ => none
  else none

def frzA (E : Env) (look : Look) (f : Nat) : Nat → List AV → List AV × Ups
  | _, [] => ([], [])
  | i, a :: l =>
    match a with
    | .t (.hsl id) => cond (has2 f i E.frz) (match look id with
      | some (.arr sz es) => (.t (.p (.sl sz es)) :: (frzA E look f (i + 1) l).1, (id, .dead) :: (frzA E look f (i + 1) l).2)
      | _ => (a :: (frzA E look f (i + 1) l).1, (frzA E look f (i + 1) l).2)) (a :: (frzA E look f (i + 1) l).1, (frzA E look f (i + 1) l).2)
    | .aggo vs =>
      match pureTs look vs with
      | some (cs, us) => (.t (.agg cs) :: (frzA E look f (i + 1) l).1, us ++ (frzA E look f (i + 1) l).2)
      | none => (a :: (frzA E look f (i + 1) l).1, (frzA E look f (i + 1) l).2)
    | _ => (a :: (frzA E look f (i + 1) l).1, (frzA E look f (i + 1) l).2)

def frzLook (look : Look) (us : Ups) : Look := fun id => cond (us.any fun u => Nat.beq u.1 id) none (look id)

def callF {α : Type} (E : Env) (F : Fun) (look : Look) (nid : Nat) (f : Nat) (args : List AV) (K : Step α) : Option α :=
  callK E F (frzLook look (frzA E look f 0 args).2) nid f (frzA E look f 0 args).1 fun v us => K v ((frzA E look f 0 args).2 ++ us)

def nrmA (P : Program) (t : TypeId) (a : AV) : AV :=
  match a with
  | .t (.agg cs) => (match shapes P t with | some ss => .t (.agg (nrmC ss cs)) | none => .t (.agg cs))
  | .t (.p .nils) => (match shapes P t with | some [.sl sz] => .t (.p (.sl sz [])) | _ => .t (.p .nils))
  | _ => a
def nrmL (P : Program) : List TypeId → List AV → List AV
  | t :: ts, a :: as => nrmA P t a :: nrmL P ts as
  | _, as => as
def nrmAs (P : Program) (g : Nat) (as : List AV) : List AV :=
  match P.funcs[g]? with
  | some fn => nrmL P fn.params.toList as
  | none => as

def bldEs (look : Look) : AV → Option (List Nat × List (List PV))
  | .t (.p .nils) => some ([], [])
  | .t (.hsl j) => match look j with | some (.arr sz es) => if Nat.beq sz 1 then some ([j], es) else none | _ => none
  | _ => none
def bld0 (id : Nat) : AV → Bool
  | .t (.p .nilp) => true
  | .nptr id' => Nat.beq id id'
  | _ => false
def bldOf (look : Look) (id : Nat) : Option (List Nat × List (List PV)) :=
  match look id with
  | some (.box [c0, c1]) => if bld0 id c0 then bldEs look c1 else none
  | _ => none
def hprK {α : Type} (k : HPrim) (look : Look) (nid : Nat) (args : List AV) (K : Step α) : Option α :=
  match k, args with
  | .write, [.t (.ptr id 0), .t (.p (.str s))] =>
    match bldOf look id with
    | some (js, es) => ctl (leN (es.length + s.length) room)
        (K (.tup [.p (.int .i64 s.length), .p (.ifc true)]) (js.map (fun j => (j, .dead)) ++ [(nid, .blk (.arr 1 (es ++ byteEs s))), (id, .blk (.box [.nptr id, .t (.hsl nid)]))])) none
    | none => none
  | .text, [.t (.ptr id 0)] =>
    match bldOf look id with
    | some (js, es) => ctl (bytesOk es) (K (.t (.p (.str (toBytes es)))) (js.map fun j => (j, .dead))) none
    | none => none
  | .dele g p, [.t (.hsl j), .fn g' []] =>
    match look j with
    | some (.arr sz es) => if Nat.beq g g' then K (.t (.hsl nid)) [(j, .dead), (nid, .blk (.arr sz (es.filter fun e => !p e)))] else none
    | _ => none
  | _, _ => none

def opK {α : Type} (E : Env) (F : Fun) (look : Look) (nid : Nat) (op : Op) (ev : Operand → AV) (K : Step α) : Option α :=
  match op with
  | .call { callee := .value f, args, .. } =>
    match ev f with
    | .fn g caps =>
      match findP g E.hpr with
      | some k => (match caps with | [] => hprK k look nid (args.toList.map ev) K | _ :: _ => none)
      | none => callF E F look nid g (nrmAs E.P g (args.toList.map ev ++ caps.map AV.t)) K
    | .t (.p (.fn g)) => callF E F look nid g (nrmAs E.P g (args.toList.map ev)) K
    | _ => none
  | _ => execK E.P look nid op ev K

end Go.Proofs.YtpnpdkgdgfkpfaaGreatDoor.Vm
