/- The raw theorems of the two functions Sum, by hand (the printing program's kernel questions are too deep at u64 products). -/
import Derived.Test.YtdbajagnhanpfaaDoorEnv
import Derived.KernelRfl
namespace Go.Proofs.YtdbajagnhanpfaaDoor.Vm
open Go
set_option maxRecDepth 100000
set_option linter.unusedVariables false

theorem r9_0 (F : Fun) (x0 : Int) (s : List UInt8) (x5 : Int) : lp E F 9 0 [] 0
  { vals := [AV.int IntKind.u64 x0, AV.str s, AV.int IntKind.i64 x5], blks := [] } =
  ctl (ltB x5 (s.length : Int))
    (ctl (leB 0 x5 && ltB x5 (s.length : Int))
      (lp E F 9 0 [] 0
        { vals := [AV.int IntKind.u64 (IntKind.u64.wrap (IntKind.u64.wrap (↑(BitVec.ofInt 64 x0 ^^^ BitVec.ofInt 64 (IntKind.u64.wrap (byteAt s x5))).toNat : Int) * 1099511628211)), AV.str s, AV.int IntKind.i64 (IntKind.i64.wrap (x5 + 1))], blks := [] })
      Option.none)
    (Option.some (Ex.exit 0, { vals := [AV.int IntKind.u64 x0], blks := [] })) := (lp_unfold ..).trans (by kernel_rfl)

theorem r9 (F : Fun) (sum : Int) (s : List UInt8) : funK E F 9 [AV.int IntKind.u64 sum, AV.str s] [] =
  bnd
    (lp E F 9 0 [] 0
      { vals := [AV.int IntKind.u64 sum, AV.str s, AV.int IntKind.i64 0], blks := [] })
    fun (p : Ex × Pack) =>
    ctl (p.fst.eqb (Ex.exit 0))
      (ctl (okPack { slots := [(0, Sum.inl (Sh.int IntKind.u64))], blks := [] } p.snd)
        (Option.some
          ([RV.p (PV.int IntKind.u64 (nth AV.undef p.snd.vals 0).toPV.toInt)],
            []))
        Option.none)
      Option.none := by kernel_rfl

theorem r39_0 (F : Fun) (x0 : Int) (es : List (List PV)) (x9 : Int) (x10 : Int) : lp E F 39 0 [] 0
  { vals := [AV.int IntKind.u64 x0, AV.sl 1 es, AV.int IntKind.i64 x9, AV.int IntKind.i64 x10], blks := [] } =
  ctl (ltB x10 x9)
    (getE es x10 fun (c : List PV) =>
      ctl (okCs [Sh.int IntKind.u8] c)
        (lp E F 39 0 [] 0
          { vals := [AV.int IntKind.u64 (IntKind.u64.wrap (IntKind.u64.wrap (↑(BitVec.ofInt 64 x0 ^^^ BitVec.ofInt 64 (IntKind.u64.wrap (nth PV.nilp c 0).toInt)).toNat : Int) * 1099511628211)), AV.sl 1 es, AV.int IntKind.i64 x9, AV.int IntKind.i64 (IntKind.i64.wrap (x10 + 1))], blks := [] })
        Option.none)
    (Option.some (Ex.exit 0, { vals := [AV.int IntKind.u64 x0], blks := [] })) := (lp_unfold ..).trans (by kernel_rfl)

theorem r39 (F : Fun) (sum : Int) (text : List UInt8) : funK E F 39 [AV.int IntKind.u64 sum, AV.str text] [] =
  bnd
    (lp E F 39 0 [] 0
      {
        vals :=
          [AV.int IntKind.u64 sum, AV.sl 1 (byteEs text),
            AV.int IntKind.i64 (↑(byteEs text).length : Int), AV.int IntKind.i64 0],
        blks := [] })
    fun (p : Ex × Pack) =>
    ctl (p.fst.eqb (Ex.exit 0))
      (ctl (okPack { slots := [(0, Sum.inl (Sh.int IntKind.u64))], blks := [] } p.snd)
        (Option.some
          ([RV.p (PV.int IntKind.u64 (nth AV.undef p.snd.vals 0).toPV.toInt)],
            []))
        Option.none)
      Option.none := by kernel_rfl

end Go.Proofs.YtdbajagnhanpfaaDoor.Vm
