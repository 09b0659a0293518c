/- The abstract machine, part 3: regions, code, loops, functions. Nothing is claimed here. -/
import Derived.Test.YtpnpdkgdgfkpfaaGreatDoorVm2
namespace Go.Proofs.YtpnpdkgdgfkpfaaGreatDoor.Vm

def brings : Op → Bool
  | .alloc _ => true
  | .box _ _ => true
  | .buildSlice _ _ _ => true
  | .makeSlice _ _ _ => true
  | .convert _ _ _ => true
  | .call { callee := .builtin .append, .. } => true
  | .call { callee := .builtin _, .. } => false
  | .call _ => true
  | _ => false
def resv (o : Oper) : Nat := cond (brings o.op) 2 0
def resvs : List Oper → Nat
  | [] => 0
  | o :: l => resv o + resvs l

def clsH : Op → Bool
  | .move _ | .assign _ | .pick _ _ _ | .alloc _ | .box _ _ | .nilCheck _ | .binOp _ _ _ _ _ | .unOp _ _ _ | .makeFunc _ _ _ | .fieldAddr _ _ _ | .field _ _ _ | .index _ _ _ | .extract _ _ => false
  | .call { callee := .builtin .min, .. } => false
  | .call { callee := .builtin .max, .. } => false
  | _ => true

def isPtrT (P : Program) (t : TypeId) : Bool :=
  match P.underlying t with
  | some (.pointer _) => true
  | some (.func _ _ _) => true
  | _ => false

def clsW (E : Env) : Op → Bool
  | .store _ _ _ => true
  | .call { callee := .value (.func f), .. } => (match E.P.funcs[f]? with | some fn => fn.params.toList.any (isPtrT E.P) | none => true) || E.mutA.any (fun x => Nat.beq x.1 f) || E.frz.any (fun x => Nat.beq x.1 f)
  | .call { callee := .builtin .append, .. } => true
  | .call { callee := .builtin .copy, .. } => true
  | .call { callee := .builtin _, .. } => false
  | .call _ => true
  | _ => false

def grpOp (E : Env) : Op → Bool
  | .move _ | .pick _ _ _ | .load _ _ | .nilCheck _ | .binOp _ _ _ _ _ | .unOp _ _ _ | .fieldAddr _ _ _ | .field _ _ _ | .indexAddr _ _ _ | .index _ _ _ | .extract _ _ => true
  | .convert a b _ => (match E.P.underlying a, E.P.underlying b with | some (.int _), some (.int _) => true | _, _ => false)
  | .call { callee := .builtin .len, .. } => true
  | .call { callee := .builtin .min, .. } => true
  | .call { callee := .builtin .max, .. } => true
  | .call { callee := .value (.func f), .. } =>
    (match E.P.funcs[f]? with
     | some fn => !fn.params.toList.any (isPtrT E.P) && !fn.resultTypes.toList.any (isPtrT E.P)
     | none => false) && !E.mutA.any (fun x => Nat.beq x.1 f) && !E.own.any (fun x => Nat.beq x.1 f) && !E.frz.any (fun x => Nat.beq x.1 f)
  | _ => false

def isPick (d : Nat) : Oper → Bool
  | { op := .pick (.tmp c) _ _, .. } => Nat.beq c d
  | _ => false

def spanPick (d : Nat) : List Oper → Option (List Oper × Oper × List Oper)
  | [] => none
  | o :: l => cond (isPick d o) (some ([], o, l)) (match spanPick d l with | some (b, p, r) => some (o :: b, p, r) | none => none)

inductive Md where
  | plain
  | s1
  | dyn

structure Cx where
  E : Env
  F : Fun
  ops : Array Oper
  before : Array Nat
  md : Md

abbrev Log := List (Nat × List Nat × Bool)

def opRefs (ev : Operand → AV) (op : Op) : List Nat := op.operands.toList.flatMap fun x => (ev x).refs
def boxRefs (h : List Ent) (id : Nat) : List Nat := match lookH h id with | some (.box cs) => cs.flatMap AV.refs | _ => []
def fpOf (hp : Bool) (h : List Ent) (ev : Operand → AV) (op : Op) : List Nat :=
  cond hp (opRefs ev op ++ (opRefs ev op).flatMap (boxRefs h)) (opRefs ev op)

def subN (xs ys : List Nat) : Bool := xs.all fun x => hasN x ys
def meetN (xs ys : List Nat) : Bool := xs.any fun x => hasN x ys

def entRefs : Ent → List Nat
  | .blk (.box cs) => cs.flatMap AV.refs
  | _ => []

def entOk : Ent → Bool
  | .fresh => false
  | _ => true
def upsOk (h b : Bool) (fp : List Nat) (nid : Nat) (us : Ups) : Bool :=
  us.all fun u => entOk u.2 && ((h && hasN u.1 fp) || (b && (Nat.beq u.1 nid || Nat.beq u.1 (nid + 1))))

def refsOk (fp : List Nat) (us : Ups) (v : AV) : Bool :=
  subN v.refs (fp ++ us.map Prod.fst) && us.all fun u => subN (entRefs u.2) (fp ++ us.map Prod.fst)

def clash (before : Array Nat) (i : Nat) (fp : List Nat) (w : Bool) (lg : Log) : Bool :=
  lg.any fun l => !(before.getD i 0).testBit l.1 && ((w || l.2.2) && meetN fp l.2.1)

def isDef : AV → Bool
  | .undef => false
  | _ => true
def passing : Op → Bool
  | .move _ => true
  | .assign _ => true
  | .pick _ _ _ => true
  | _ => false
def defd (ev : Operand → AV) (op : Op) : Bool := passing op || op.operands.toList.all fun x => isDef (ev x)

def xopK {α : Type} (E : Env) (F : Fun) (dr : Bool) (nid : Nat) (o : Oper) (st : St) (K : AV → Ups → List Nat → Bool → Option α) : Option α :=
  if defd (evalA st.slots) o.op then
    match dr with
    | false => opK E F (lookH st.heap) nid o.op (evalA st.slots) fun v us => K v us [] false
    | true =>
      let h := clsH o.op
      let fp := fpOf h st.heap (evalA st.slots) o.op
      opK E F (fun id => cond (h && hasN id fp) (lookH st.heap id) none) nid o.op (evalA st.slots) fun v us =>
        if upsOk h (brings o.op) fp nid us && refsOk fp us v then K v us (cond h fp []) (h && us.any fun u => hasN u.1 fp) else none
  else none

def isDraw : Md → Bool
  | .plain => false
  | _ => true
def stepOk (cx : Cx) (i : Nat) (o : Oper) (fp : List Nat) (w : Bool) (lg : Log) : Bool :=
  match cx.md with
  | .plain => true
  | .s1 => !w || clsW cx.E o.op
  | .dyn => !clash cx.before i fp w lg
def logOf (md : Md) (i : Nat) (fp : List Nat) (w : Bool) (lg : Log) : Log :=
  match md with
  | .dyn => (i, fp, w) :: lg
  | _ => []

def stepK {α : Type} (cx : Cx) (i nid : Nat) (o : Oper) (pu : Bool) (st : St) (lg : Log) (K : St → Log → Option α) : Option α :=
  xopK cx.E cx.F (isDraw cx.md) nid o st fun v us fp w =>
    if (!pu || us.isEmpty) && stepOk cx i o fp w lg then K ⟨setDst o.dst v st.slots, putUps us st.heap⟩ (logOf cx.md i fp w lg) else none

def undefAll : List Oper → List AV → List AV
  | [], s => s
  | o :: l, s => undefAll l (setDst o.dst .undef s)

def guardSlot (ops : Array Oper) (j : Nat) : Option Nat := (ops[j]?).bind (·.dst)
def chainOk (ops : Array Oper) (d : Nat) (w : Bool) : List Oper → List Nat → Bool
  | [], _ => true
  | o :: l, ds =>
    (match o.guard with
     | some (j, w') => (match guardSlot ops j with | some d' => (Nat.beq d' d && (w == w')) || hasN d' ds | none => false)
     | none => false) &&
    (match o.dst with | some e => !Nat.beq e d && chainOk ops d w l (e :: ds) | none => chainOk ops d w l ds)

def inRange (n : Nat) (o : Oper) : Bool := match o.dst with | some e => Nat.blt e n | none => true

def boolOf (v : AV) : Option Bool := match v with | .t (.p (.bool b)) => some b | _ => none

def isDyn : Md → Bool | .dyn => true | _ => false

def seqK (cx : Cx) : Nat → (α : Type) → Bool → Nat → Nat → List Oper → St → Log → (St → Log → Option α) → Option α
  | _, _, _, _, _, [], st, lg, K => K st lg
  | 0, _, _, _, _, _ :: _, _, _, _ => none
  | n + 1, α, pu, i, nid, o :: rest, st, lg, K =>
    match o.guard with
    | none => stepK cx i nid o pu st lg fun st' lg' => seqK cx n α pu (i + 1) (nid + resv o) rest st' lg' K
    | some (j, w) =>
      match guardSlot cx.ops j with
      | none => none
      | some d =>
        match nth .undef st.slots d with
        | .no => seqK cx n α pu (i + 1) (nid + resv o) rest ⟨setDst o.dst .no st.slots, st.heap⟩ lg K
        | .t (.p (.bool b)) =>
          match spanPick d (o :: rest) with
          | some (body, pk, rest') =>
            if !isDyn cx.md && pk.guard.isNone && pk.dst.isSome && body.all (fun o => grpOp cx.E o.op && inRange st.slots.length o) && chainOk cx.ops d w body [] then
              match pk.op with
              | .pick _ x y =>
                bnd (ctl (cond w b (!b))
                  (seqK cx n Bool true i nid body ⟨upd (.bool w) st.slots d, st.heap⟩ [] fun st' _ => boolOf (evalA st'.slots (cond w x y)))
                  (boolOf (evalA (undefAll body st.slots) (cond w y x)))) fun v =>
                    seqK cx n α pu (i + body.length + 1) (nid + resvs body + resv pk) rest' ⟨setDst pk.dst (.bool v) (undefAll body st.slots), st.heap⟩ [] K
              | _ => none
            else
              ctl (cond w b (!b))
                (stepK cx i nid o pu ⟨upd (.bool w) st.slots d, st.heap⟩ lg fun st' lg' => seqK cx n α pu (i + 1) (nid + resv o) rest st' lg' K)
                (seqK cx n α pu (i + 1) (nid + resv o) rest ⟨setDst o.dst .no (upd (.bool (!w)) st.slots d), st.heap⟩ lg K)
          | none =>
            ctl (cond w b (!b))
              (stepK cx i nid o pu ⟨upd (.bool w) st.slots d, st.heap⟩ lg fun st' lg' => seqK cx n α pu (i + 1) (nid + resv o) rest st' lg' K)
              (seqK cx n α pu (i + 1) (nid + resv o) rest ⟨setDst o.dst .no (upd (.bool (!w)) st.slots d), st.heap⟩ lg K)
        | _ => none

def s1Row (E : Env) (before : Array Nat) (oj : Oper) (j : Nat) : Nat → List Oper → Bool
  | _, [] => true
  | i, o :: l => (Nat.ble j i || (before.getD j 0).testBit i || !((clsW E o.op && clsH oj.op) || (clsH o.op && clsW E oj.op))) && s1Row E before oj j (i + 1) l
def s1Ok (E : Env) (before : Array Nat) (all : List Oper) : Nat → List Oper → Bool
  | _, [] => true
  | j, o :: l => s1Row E before o j 0 all && s1Ok E before all (j + 1) l

def lookSlots (ops : Array Oper) (o : Oper) : List Nat :=
  (match o.guard with | some (j, _) => (match guardSlot ops j with | some d => [d] | none => []) | none => []) ++
    o.op.operands.toList.flatMap fun x => match x with | .tmp t => [t] | _ => []
def apartB (ops : Array Oper) (x y : Oper) : Bool :=
  (match x.dst with | some d => !hasN d (lookSlots ops y) && (match y.dst with | some e => !Nat.beq d e | none => true) | none => true) &&
  (match y.dst with | some d => !hasN d (lookSlots ops x) | none => true)
def apartRow (ops : Array Oper) (before : Array Nat) (oj : Oper) (j : Nat) : Nat → List Oper → Bool
  | _, [] => true
  | i, o :: l => (Nat.ble j i || (before.getD j 0).testBit i || apartB ops o oj) && apartRow ops before oj j (i + 1) l
def edgesOk (o : Oper) (j : Nat) : Bool := o.after.all fun e => !Region.binds .any e || Nat.blt e.on j
def drawOk (ops : Array Oper) (before : Array Nat) : Nat → List Oper → Bool
  | _, [] => true
  | j, o :: l => edgesOk o j && apartRow ops before o j 0 ops.toList && drawOk ops before (j + 1) l

def regL {α : Type} (E : Env) (F : Fun) (ops : Array Oper) (draw : Bool) (l : List Oper) (st : St) (K : St → Option α) : Option α :=
  let bf := Region.before ops
  let md := cond draw (cond (s1Ok E bf l 0 l) Md.s1 Md.dyn) Md.plain
  if !draw || drawOk ops bf 0 ops.toList then
    seqK ⟨E, F, ops, bf, md⟩ l.length α false 0 st.heap.length l ⟨st.slots, st.heap ++ reps .fresh (resvs l)⟩ [] fun st' _ => K st'
  else none
def regK {α : Type} (E : Env) (F : Fun) (ops : Array Oper) (draw : Bool) (st : St) (K : St → Option α) : Option α := regL E F ops draw ops.toList st K

def lastO : List Oper → Option Oper
  | [] => none
  | [o] => some o
  | _ :: l => lastO l
def allBits (x : Nat) : Nat → Bool
  | 0 => true
  | n + 1 => x.testBit n && allBits x n
def inlOf (E : Env) (ops : Array Oper) (draw : Bool) : Option (Option Nat × Nat × List Operand) :=
  match lastO ops.toList with
  | some o =>
    match o.guard, o.op with
    | none, .call { callee := .value (.func g), args, .. } =>
      cond (hasN g E.inl && (hasN g E.okf && (!hasN g E.nilf && (!draw || allBits ((Region.before ops).getD (ops.size - 1) 0) (ops.size - 1))))) (some (o.dst, g, args.toList)) none
    | _, _ => none
  | none => none
abbrev Inl := Nat → (α : Type) → List AV → List Ent → (AV → List Ent → Option α) → Option α

def frzAt (s : Nat) (c : Option Nat) (st : St) : St :=
  match c, nth .undef st.slots s with
  | none, .t (.hsl id) =>
    match lookH st.heap id with
    | some (.arr sz es) => ⟨upd (.t (.p (.sl sz es))) st.slots s, upd .dead st.heap id⟩
    | _ => st
  | none, .aggo vs =>
    match pureTs (lookH st.heap) vs with
    | some (cs, us) => ⟨upd (.t (.agg cs)) st.slots s, putUps us st.heap⟩
    | none => st
  | some k, .t (.ptr b 0) =>
    match lookH st.heap b with
    | some (.box cs) =>
      match nth .undef cs k with
      | .t (.hsl id) =>
        match lookH st.heap id with
        | some (.arr sz es) => ⟨st.slots, upd (.blk (.box (upd (.t (.p (.sl sz es))) cs k))) (upd .dead st.heap id) b⟩
        | _ => st
      | _ => st
    | _ => st
  | _, _ => st
def frzAll : List (Nat × Option Nat) → St → St
  | [], st => st
  | (s, c) :: l, st => frzAll l (frzAt s c st)
def preSt (E : Env) (f id : Nat) (st : St) : St :=
  match find2 f id E.fzr with
  | some l => frzAll l st
  | none => st

structure Pack where
  vals : List AV
  blks : List Blk
  deriving Inhabited

abbrev SSh := Sh ⊕ List Sh ⊕ AV
abbrev Mp := List (Nat × Option Nat)

def mpGet (j : Nat) : Mp → Option (Option Nat)
  | [] => none
  | (k, x) :: l => cond (Nat.beq j k) (some x) (mpGet j l)
def optEq : Option Nat → Option Nat → Bool
  | none, none => true
  | some a, some b => Nat.beq a b
  | _, _ => false
def mpHas (id : Nat) : Mp → Bool
  | [] => false
  | (_, some x) :: l => Nat.beq id x || mpHas id l
  | (_, none) :: l => mpHas id l

def link (j : Nat) (x : Option Nat) (mp : Mp) : Option Mp :=
  match mpGet j mp with
  | some y => cond (optEq x y) (some mp) none
  | none => match x with
    | some id => cond (mpHas id mp) none (some (mp ++ [(j, some id)]))
    | none => some (mp ++ [(j, none)])

def linkTVs : List TV → List TV → Mp → Option Mp
  | [], [], mp => some mp
  | .ptr j o :: l, .ptr id o' :: r, mp => cond (Nat.beq o o') (match link j (some id) mp with | some mp' => linkTVs l r mp' | none => none) none
  | _, _, _ => none

def linkRef (w : AV) (a : AV) (mp : Mp) : Option Mp :=
  match w, a with
  | .t (.hsl j), .t (.hsl id) => link j (some id) mp
  | .t (.hsl j), .t (.p .nils) => link j none mp
  | .t (.ptr j o), .t (.ptr id o') => cond (Nat.beq o o') (link j (some id) mp) none
  | .nptr j, .nptr id => link j (some id) mp
  | .nptr j, .t (.p .nilp) => (match mpGet j mp with | some (some _) => some mp | _ => none)
  | .fn f l, .fn g r => cond (Nat.beq f g) (linkTVs l r mp) none
  | .fn f [], .t (.p (.fn g)) => cond (Nat.beq f g) (some mp) none
  | _, _ => none

def linkSlots (slots : List AV) : List (Nat × SSh) → Mp → Option Mp
  | [], mp => some mp
  | (i, .inr (.inr w)) :: l, mp => match linkRef w (nth .undef slots i) mp with | some mp' => linkSlots slots l mp' | none => none
  | _ :: l, mp => linkSlots slots l mp

def linkCells : List (Sh ⊕ AV) → List AV → Mp → Option Mp
  | [], [], mp => some mp
  | .inr w :: l, c :: cs, mp => match linkRef w c mp with | some mp' => linkCells l cs mp' | none => none
  | .inl _ :: l, _ :: cs, mp => linkCells l cs mp
  | _, _, _ => none

def linkBlks (look : Look) : Nat → List (List (Sh ⊕ AV) ⊕ Nat) → Mp → Option Mp
  | _, [], mp => some mp
  | j, .inr sz :: l, mp => match mpGet j mp with
    | some (some id) => match look id with | some (.arr sz' _) => cond (Nat.beq sz sz') (linkBlks look (j + 1) l mp) none | _ => none
    | some none => linkBlks look (j + 1) l mp
    | none => none
  | j, .inl cs :: l, mp => match mpGet j mp with
    | some (some id) => match look id with
      | some (.box ds) => match linkCells cs ds mp with | some mp' => linkBlks look (j + 1) l mp' | none => none
      | _ => none
    | _ => none

def okVal (look : Look) : SSh → AV → Bool
  | .inl s, .t (.p v) => okP s v
  | .inl (.sl sz), .t (.hsl id) => (match look id with | some (.arr sz' _) => Nat.beq sz sz' | _ => false)
  | .inr (.inl ss), .t (.agg cs) => okCs ss cs
  | .inr (.inr _), _ => true
  | _, _ => false

def frz : SSh → AV → List Nat
  | .inl _, .t (.hsl id) => [id]
  | _, _ => []

def canVal (look : Look) : SSh → AV → List AV
  | .inl s, .t (.p v) => [.t (.p (canP s v))]
  | .inl _, .t (.hsl id) => (match look id with | some (.arr sz es) => [.sl sz es] | _ => [.undef])
  | .inr (.inl ss), .t (.agg cs) => [.t (.agg (canCs ss cs 0))]
  | .inr (.inr _), _ => []
  | _, _ => [.undef]

def okSlots (look : Look) (slots : List AV) : List (Nat × SSh) → Bool
  | [] => true
  | (i, s) :: l => okVal look s (nth .undef slots i) && okSlots look slots l
def frzSlots (slots : List AV) : List (Nat × SSh) → List Nat
  | [] => []
  | (i, s) :: l => frz s (nth .undef slots i) ++ frzSlots slots l
def canSlots (look : Look) (slots : List AV) : List (Nat × SSh) → List AV
  | [] => []
  | (i, s) :: l => canVal look s (nth .undef slots i) ++ canSlots look slots l

def cellSh : Sh ⊕ AV → SSh
  | .inl s => .inl s
  | .inr a => .inr (.inr a)

def okCells (look : Look) : List (Sh ⊕ AV) → List AV → Bool
  | [], [] => true
  | s :: l, c :: cs => okVal look (cellSh s) c && okCells look l cs
  | _, _ => false
def frzCells : List (Sh ⊕ AV) → List AV → List Nat
  | s :: l, c :: cs => frz (cellSh s) c ++ frzCells l cs
  | _, _ => []
def canCells (look : Look) : List (Sh ⊕ AV) → List AV → List AV
  | .inl s :: l, c :: cs => canVal look (.inl s) c ++ canCells look l cs
  | .inr w :: l, _ :: cs => w :: canCells look l cs
  | _, _ => []

def okBlks (look : Look) (mp : Mp) : Nat → List (List (Sh ⊕ AV) ⊕ Nat) → Bool
  | _, [] => true
  | j, .inr _ :: l => okBlks look mp (j + 1) l
  | j, .inl cs :: l => (match mpGet j mp with
    | some (some id) => (match look id with | some (.box ds) => okCells look cs ds | _ => false)
    | _ => false) && okBlks look mp (j + 1) l
def frzBlks (look : Look) (mp : Mp) : Nat → List (List (Sh ⊕ AV) ⊕ Nat) → List Nat
  | _, [] => []
  | j, .inr _ :: l => frzBlks look mp (j + 1) l
  | j, .inl cs :: l => (match mpGet j mp with
    | some (some id) => (match look id with | some (.box ds) => frzCells cs ds | _ => [])
    | _ => []) ++ frzBlks look mp (j + 1) l
def canBlks (look : Look) (mp : Mp) : Nat → List (List (Sh ⊕ AV) ⊕ Nat) → List Blk
  | _, [] => []
  | j, .inr sz :: l => (match mpGet j mp with
    | some (some id) => (match look id with | some (.arr _ es) => Blk.arr sz es | _ => .arr sz [])
    | _ => .arr sz []) :: canBlks look mp (j + 1) l
  | j, .inl cs :: l => (match mpGet j mp with
    | some (some id) => (match look id with | some (.box ds) => Blk.box (canCells look cs ds) | _ => .box [])
    | _ => .box []) :: canBlks look mp (j + 1) l

def idMp : Nat → Nat → Mp
  | _, 0 => []
  | j, n + 1 => (j, some j) :: idMp (j + 1) n

def packK {α : Type} (m : Nat) (an : Ann) (st : St) (K : Pack → Option α) : Option α :=
  match linkSlots st.slots an.slots (idMp 0 m) with
  | none => none
  | some mp0 =>
    match linkBlks (lookH st.heap) 0 an.blks mp0 with
    | none => none
    | some mp =>
      if (frzSlots st.slots an.slots ++ frzBlks (lookH st.heap) mp 0 an.blks).all (fun id => !mpHas id mp) && mp.all (fun x => Nat.blt x.1 an.blks.length) then
        ctl (okSlots (lookH st.heap) st.slots an.slots && okBlks (lookH st.heap) mp 0 an.blks)
          (K ⟨canSlots (lookH st.heap) st.slots an.slots, canBlks (lookH st.heap) mp 0 an.blks⟩) none
      else none

def putSlots : List (Nat × SSh) → Nat → List AV → List AV → List AV
  | [], _, _, s => s
  | (i, .inl sh) :: l, k, vs, s => putSlots l (k + 1) vs (upd (.t (.p (canP sh (nth .undef vs k).toPV))) s i)
  | (i, .inr (.inl ss)) :: l, k, vs, s => putSlots l (k + 1) vs (upd (.t (.agg (canCs ss (nth .undef vs k).toCs 0))) s i)
  | (i, .inr (.inr w)) :: l, k, vs, s => putSlots l k vs (upd w s i)

def isP : AV → Bool | .t (.p _) => true | _ => false
def isAg : AV → Bool | .t (.agg _) => true | _ => false

def okPut : List (Nat × SSh) → Nat → List AV → Bool
  | [], _, _ => true
  | (_, .inl sh) :: l, k, vs => isP (nth .undef vs k) && okP sh (nth .undef vs k).toPV && okPut l (k + 1) vs
  | (_, .inr (.inl ss)) :: l, k, vs => isAg (nth .undef vs k) && okCs ss (nth .undef vs k).toCs && okPut l (k + 1) vs
  | (_, .inr (.inr _)) :: l, k, vs => okPut l k vs

def putCells : List (Sh ⊕ AV) → Nat → List AV → List AV
  | [], _, _ => []
  | .inl s :: l, i, cs => .t (.p (canP s (nth .undef cs i).toPV)) :: putCells l (i + 1) cs
  | .inr w :: l, i, cs => w :: putCells l (i + 1) cs
def okPutCells : List (Sh ⊕ AV) → Nat → List AV → Bool
  | [], _, _ => true
  | .inl s :: l, i, cs => isP (nth .undef cs i) && okP s (nth .undef cs i).toPV && okPutCells l (i + 1) cs
  | .inr _ :: l, i, cs => okPutCells l (i + 1) cs

def isBox : Blk → Bool | .box _ => true | _ => false
def isArr (sz : Nat) : Blk → Bool | .arr sz' _ => Nat.beq sz sz' | _ => false

def putBlks : List (List (Sh ⊕ AV) ⊕ Nat) → Nat → List Blk → List Ent
  | [], _, _ => []
  | .inl cs :: l, j, bs => .blk (.box (putCells cs 0 (nth (.box []) bs j).toCs)) :: putBlks l (j + 1) bs
  | .inr sz :: l, j, bs => .blk (.arr sz (nth (.box []) bs j).toEs) :: putBlks l (j + 1) bs
def okPutBlks : List (List (Sh ⊕ AV) ⊕ Nat) → Nat → List Blk → Bool
  | [], _, _ => true
  | .inl cs :: l, j, bs => isBox (nth (.box []) bs j) && okPutCells cs 0 (nth (.box []) bs j).toCs && okPutBlks l (j + 1) bs
  | .inr sz :: l, j, bs => isArr sz (nth (.box []) bs j) && okPutBlks l (j + 1) bs

def okPack (an : Ann) (pk : Pack) : Bool := okPut an.slots 0 pk.vals && okPutBlks an.blks 0 pk.blks

def unpackK {α : Type} (nt : Nat) (an : Ann) (pk : Pack) (K : St → Option α) : Option α :=
  ctl (okPack an pk)
    (K ⟨putSlots an.slots 0 pk.vals (reps .undef nt), putBlks an.blks 0 pk.blks⟩) none

def loopN (B : Pack → Option (Ex × Pack)) : Nat → Pack → Option (Ex × Pack)
  | 0, _ => none
  | n + 1, pk => (B pk).bind fun p => cond (Ex.eqb p.1 .nrm) (loopN B n p.2) (some p)

open Classical in
noncomputable def loopC (B : Pack → Option (Ex × Pack)) (pk : Pack) : Option (Ex × Pack) :=
  if h : ∃ n, (loopN B n pk).isSome then loopN B (Classical.choose h) pk else none

set_option linter.unusedVariables false in
noncomputable def lpC (f m : Nat) (fa : List AV) (blk : Nat) (B : Pack → Option (Ex × Pack)) (pk : Pack) : Option (Ex × Pack) := loopC B pk

def packEx {α : Type} (m : Nat) (exs : List (Ex × Ann)) (K : Ex × Pack → Option α) (e : Ex) (st : St) : Option α :=
  match exs with
  | [] => none
  | (x, an) :: l => ctl (Ex.eqb e x) (packK m an st fun pk => K (x, pk)) (packEx m l K e st)

def unpackEx {α : Type} (nt : Nat) (exs : List (Ex × Ann)) (p : Ex × Pack) (K : Ex → St → Option α) : Option α :=
  match exs with
  | [] => none
  | (x, an) :: l => ctl (Ex.eqb p.1 x) (unpackK nt an p.2 (K x)) (unpackEx nt l p K)

structure Fx where
  E : Env
  F : Fun
  f : Nat
  m : Nat
  nt : Nat
  fa : List AV
  I : Inl

def isFn : AV → Bool
  | .fn _ _ => true
  | _ => false
def fnArgs (args : List AV) : List AV := cond (args.any isFn) (args.map fun a => match a with | .fn f c => .fn f c | _ => .undef) []

def resSlots (fa : List AV) : List (Nat × SSh) → List (Nat × SSh)
  | [] => []
  | (i, .inr (.inr .undef)) :: l => (i, .inr (.inr (nth .undef fa i))) :: resSlots fa l
  | x :: l => x :: resSlots fa l
def markOf : (List (Sh ⊕ AV)) ⊕ Nat → Option Nat
  | .inl [.inr (.fn g [])] => some g
  | _ => none
def hasFnN (g : Nat) : List AV → Bool
  | [] => false
  | .fn f _ :: l => cond (Nat.beq f g) true (hasFnN g l)
  | _ :: l => hasFnN g l
def takeSeg : List ((List (Sh ⊕ AV)) ⊕ Nat) → List ((List (Sh ⊕ AV)) ⊕ Nat)
  | [] => []
  | b :: l => match markOf b with
    | some _ => []
    | none => b :: takeSeg l
def pickSeg (fa : List AV) : List ((List (Sh ⊕ AV)) ⊕ Nat) → List ((List (Sh ⊕ AV)) ⊕ Nat)
  | [] => []
  | b :: l => match markOf b with
    | some g => cond (hasFnN g fa) (takeSeg l) (pickSeg fa l)
    | none => pickSeg fa l
def resBlks (fa : List AV) (bs : List ((List (Sh ⊕ AV)) ⊕ Nat)) : List ((List (Sh ⊕ AV)) ⊕ Nat) :=
  match bs with
  | [] => []
  | b :: l => match markOf b with
    | some g => pickSeg fa (b :: l)
    | none => b :: l
def resA (fa : List AV) (an : Ann) : Ann := ⟨resSlots fa an.slots, resBlks fa an.blks⟩
def resX (fa : List AV) : List (Ex × Ann) → List (Ex × Ann)
  | [] => []
  | (e, an) :: l => (e, resA fa an) :: resX fa l

def condSlot : Operand → Nat
  | .tmp t => t
  | _ => 0

open Classical in
noncomputable def both {α : Type} (x y : Option α) : Option α := if x = y then x else none

noncomputable def denK (fx : Fx) : Code → Nat → (α : Type) → St → (Ex → St → Option α) → Option α
  | .skip, _, _, st, K => K .nrm st
  | .region id ops draw, _, α, st, K =>
    match inlOf fx.E ops draw with
    | none => regK fx.E fx.F ops draw (preSt fx.E fx.f id st) (K .nrm)
    | some (d, g, args) => regL fx.E fx.F ops draw ops.toList.dropLast (preSt fx.E fx.f id st) fun st' =>
      fx.I g α (args.map (evalA st'.slots)) st'.heap fun v h => K .nrm ⟨setDst d v st'.slots, h⟩
  | .seq a b, blk, α, st, K => denK fx a blk α st fun e st' =>
      match e with
      | .nrm => denK fx b blk α st' K
      | .exit i => K (.exit i) st'
      | .ret => K .ret st'
  | .cond c a b, blk, α, st, K =>
    match evalA st.slots c with
    | .t (.p (.bool t)) =>
      match find2 fx.f (condSlot c) fx.E.joins with
      | none => ctl t (denK fx a blk α st K) (denK fx b blk α st K)
      | some exs => bnd (ctl t (denK fx a blk (Ex × Pack) st (packEx fx.m (resX fx.fa exs) some)) (denK fx b blk (Ex × Pack) st (packEx fx.m (resX fx.fa exs) some))) fun p => unpackEx fx.nt (resX fx.fa exs) p K
    | .t (.p .anyb) => cond (hasN fx.f fx.E.nilf) (both (denK fx a blk α st K) (denK fx b blk α st K)) none
    | _ => none
  | .block id b, _, α, st, K => denK fx b id α st fun e st' =>
      match e with
      | .nrm => K .nrm st'
      | .exit i => ctl (Nat.beq i id) (K .nrm st') (K (.exit i) st')
      | .ret => K .ret st'
  | .loop b, blk, _, st, K =>
    match find2 fx.f blk fx.E.loops with
    | none => none
    | some la => packK fx.m (resA fx.fa la.head) (preSt fx.E fx.f (1000000 + blk) st) fun pk =>
        bnd (lpC fx.f fx.m fx.fa blk (fun pk => unpackK fx.nt (resA fx.fa la.head) pk fun st' => denK fx b blk (Ex × Pack) st' (packEx fx.m ((.nrm, resA fx.fa la.head) :: resX fx.fa la.exits) some)) pk)
          fun p => unpackEx fx.nt (resX fx.fa la.exits) p K
  | .exit id, _, _, st, K => K (.exit id) st
  | .ret, _, _, st, K => K .ret st
  | _, _, _, _, _ => none

def loadO (P : Program) (look : Look) (t : TypeId) (id : Nat) : Option AV :=
  match look id with
  | some (.box cs) => match tvsOf cs with
    | some tvs => if tyOk P t && isAggT P t && Nat.beq cs.length (P.cellsOf t) then some (.aggo tvs) else none
    | none => none
  | _ => none

def resVals (P : Program) (slots : List AV) (look : Look) : List ResultVar → Option (List AV)
  | [] => some []
  | .tmp t :: l => match resVals P slots look l with | some r => some (nth .undef slots t :: r) | none => none
  | .cell a t :: l =>
    match resVals P slots look l, nth .undef slots a with
    | some r, .t (.ptr id 0) => match loadK P look t (.t (.ptr id 0)) (fun v us => if us.isEmpty then some v else none) with
      | some v => some (v :: r)
      | none => match loadO P look t id with | some v => some (v :: r) | none => none
    | _, _ => none

def packV : List AV → Option AV
  | [v] => some v
  | vs => match tvsOf vs with | some l => some (.tup l) | none => none
noncomputable def inlK (E : Env) (F : Fun) : Nat → Inl
  | 0 => fun _ _ _ _ _ => none
  | n + 1 => fun g α args h K =>
    match E.P.funcs[g]? with
    | none => none
    | some fn =>
      match fn.body with
      | none => none
      | some c =>
        denK ⟨E, F, g, h.length, fn.ntmps, fnArgs args, inlK E F n⟩ c 0 α ⟨args ++ reps .undef (fn.ntmps - args.length), h⟩ fun e st' =>
          match e with
          | .exit _ => none
          | _ =>
            match resVals E.P st'.slots (lookH st'.heap) fn.results.toList with
            | some vs => match packV vs with | some v => K v st'.heap | none => none
            | none => none

def findLoop (blk : Nat) : Code → Option Code
  | .seq a b => match findLoop blk a with | some c => some c | none => findLoop blk b
  | .cond _ a b => match findLoop blk a with | some c => some c | none => findLoop blk b
  | .block id (.loop b) => cond (Nat.beq id blk) (some b) (findLoop blk b)
  | .block _ b => findLoop blk b
  | .loop b => findLoop blk b
  | _ => none

def loopOf (E : Env) (f blk : Nat) : Option (Code × Nat × LAnn) :=
  match hasN f E.nilf, E.P.funcs[f]?, find2 f blk E.loops with
  | false, some fn, some la => match fn.body with
    | some c => match findLoop blk c with | some b => some (b, fn.ntmps, la) | none => none
    | none => none
  | _, _, _ => none

noncomputable def roundK (E : Env) (F : Fun) (f m : Nat) (fa : List AV) (blk : Nat) {α : Type} (pk : Pack) (K : Ex × Pack → Option α) : Option α :=
  match loopOf E f blk with
  | some (b, nt, la) => unpackK nt (resA fa la.head) pk fun st' => denK ⟨E, F, f, m, nt, fa, inlK E F 3⟩ b blk α st' (packEx m ((.nrm, resA fa la.head) :: resX fa la.exits) K)
  | none => none

noncomputable def lp (E : Env) (F : Fun) (f m : Nat) (fa : List AV) (blk : Nat) (pk : Pack) : Option (Ex × Pack) :=
  loopC (fun pk => roundK E F f m fa blk pk some) pk

def takeR (m : Nat) (look : Look) : List RSh → List AV → Option (List RV × List Nat)
  | [], [] => some ([], [])
  | r :: l, a :: as =>
    match takeR m look l as with
    | none => none
    | some (rs, ids) =>
      match r, a with
      | .one (.sl sz), .t (.p .nils) => some (.p (.sl sz []) :: rs, ids)
      | .one _, .t (.p v) => some (.p v :: rs, ids)
      | .one (.sl _), .t (.hsl id) => match look id with | some (.arr sz es) => some (.p (.sl sz es) :: rs, id :: ids) | _ => none
      | .agg _, .t (.agg cs) => some (.agg cs :: rs, ids)
      | .agg _, .aggo vs => match pureTs look vs with | some (cs, us) => some (.agg cs :: rs, us.map Prod.fst ++ ids) | none => none
      | .own _, .t (.hsl id) => match look id with | some (.arr sz es) => if Nat.ble m id then some (.own sz es :: rs, id :: ids) else none | _ => none
      | .own sz, .t (.p .nils) => some (.own sz [] :: rs, ids)
      | .ownp _, .t (.ptr id 0) => match look id with
        | some (.box cs) => if Nat.ble m id then match pureCells cs with | some vs => some (.ownp vs :: rs, id :: ids) | none => none else none
        | _ => none
      | _, _ => none
  | _, _ => none

def nodupN : List Nat → Bool
  | [] => true
  | x :: l => !hasN x l && nodupN l

def takeB (look : Look) : Nat → Nat → Option (List Blk × List Nat)
  | _, 0 => some ([], [])
  | j, n + 1 =>
    match takeB look (j + 1) n with
    | none => none
    | some (bs, ids) =>
      match look j with
      | some (.arr sz es) => some (.arr sz es :: bs, ids)
      | some (.box cs) => match loadBox look cs with
        | some (vs, _, us) => some (.box (vs.map AV.p) :: bs, us.map Prod.fst ++ ids)
        | none => none
      | none => none

def endK (E : Env) (f m : Nat) (fn : Func) (e : Ex) (st : St) : Option Res :=
  match e with
  | .exit _ => none
  | _ =>
    match resSh E f 0 fn.resultTypes.toList, resVals E.P st.slots (lookH st.heap) fn.results.toList with
    | some rsh, some vs =>
      match takeR m (lookH st.heap) rsh vs, takeB (lookH st.heap) 0 m with
      | some (rs, ids), some (bs, ids') => if nodupN (ids ++ ids') && (ids ++ ids').all (fun id => Nat.ble m id) then some (rs, bs) else none
      | _, _ => none
    | _, _ => none

noncomputable def funK (E : Env) (F : Fun) (f : Nat) (args : List AV) (hs : List Blk) : Option Res :=
  match findP f E.prims with
  | some p => (match hs with
    | [] => (match p.run F args with | some rs => some (rs, []) | none => none)
    | _ :: _ => none)
  | none =>
  match E.P.funcs[f]? with
  | none => none
  | some fn =>
    match fn.body with
    | none => none
    | some c =>
      denK ⟨E, F, f, hs.length, fn.ntmps, fnArgs args, inlK E F 3⟩ c 0 Res ⟨args ++ reps .undef (fn.ntmps - args.length), hs.map Ent.blk⟩ (endK E f hs.length fn)

def Clo (E : Env) (S : Nat → List AV → List Blk → Res → Prop) : Prop :=
  ∀ F : Fun, (∀ f a h r, F f a h = some r → S f a h r) → ∀ f a h r, funK E F f a h = some r → S f a h r
def RR (E : Env) (f : Nat) (a : List AV) (h : List Blk) (r : Res) : Prop := ∀ S, Clo E S → S f a h r

open Classical in
noncomputable def denC (E : Env) : Fun := fun f args hs =>
  if h : ∃ r, RR E f args hs r then some (Classical.choose h) else none

end Go.Proofs.YtpnpdkgdgfkpfaaGreatDoor.Vm
