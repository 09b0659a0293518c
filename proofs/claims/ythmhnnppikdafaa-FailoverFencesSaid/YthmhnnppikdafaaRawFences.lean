/- The raw theorems, by program: what each function and each loop comes to. -/
import Derived.Test.YthmhnnppikdafaaEnv
import Derived.Test.YthmhnnppikdafaaVm34
import Derived.KernelRfl
namespace Go.Proofs.Ythmhnnppikdafaa.Vm
open Go
set_option maxRecDepth 100000
set_option linter.unusedVariables false

/-- dynpos/dynposlaw33.FailoverFences, the loop of block 0 -/
theorem r5_0 (F : Fun) (at3 : Int) (x13 : List (List PV)) (x14 : Int) (x15 : Int) : lp E F 5 0 [] 0
  {
    vals :=
      [AV.int IntKind.i64 at3, AV.sl 1 x13, AV.int IntKind.i64 x14,
        AV.int IntKind.i64 x15],
    blks := [] } =
  ctl (ltB x15 x14)
    (getE x13 x15 fun (c : List PV) =>
      ctl (okCs [Sh.int IntKind.i64] c)
        (bnd
          (F 20 [AV.int IntKind.i64 (nth PV.nilp c 0).toInt, AV.int IntKind.i64 9] [])
          fun (r : Res) =>
          ctl
            (okR [RSh.one (Sh.int IntKind.i64)] r.fst && okB [] r.snd)
            (bnd
              (F 21
                [AV.int IntKind.i64 at3,
                  AV.int IntKind.i64 (nth (RV.p PV.nilp) r.fst 0).toPV.toInt]
                [])
              fun (r_1 : Res) =>
              ctl
                (okR
                    [RSh.one (Sh.int IntKind.i64), RSh.one (Sh.int IntKind.i64)] r_1.fst &&
                  okB [] r_1.snd)
                (bnd
                  (ctl ((nth (RV.p PV.nilp) r_1.fst 1).toPV.toInt == 0)
                    (ctl
                      (!ltB (nth (RV.p PV.nilp) r.fst 0).toPV.toInt at3)
                      (Option.some
                        ((nth (RV.p PV.nilp) r_1.fst 0).toPV.toInt !=
                          (nth (RV.p PV.nilp) r.fst 0).toPV.toInt))
                      (Option.some Bool.true))
                    (Option.some Bool.false))
                  fun (v : Bool) =>
                  bnd
                    (ctl (!v)
                      (ctl ((nth (RV.p PV.nilp) r_1.fst 1).toPV.toInt != 0)
                        (ctl
                          (!leB at3 (nth (RV.p PV.nilp) r.fst 0).toPV.toInt)
                          (Option.some ((nth (RV.p PV.nilp) r_1.fst 1).toPV.toInt != 69)) (Option.some Bool.true))
                        (Option.some Bool.false))
                      (Option.some Bool.true))
                    fun (v : Bool) =>
                    ctl v (Option.some (Ex.ret, { vals := [AV.bool Bool.false], blks := [] }))
                      (ctl ((nth (RV.p PV.nilp) r_1.fst 1).toPV.toInt == 0)
                        (lp E F 5 0 [] 0
                          {
                            vals :=
                              [AV.int IntKind.i64 (nth (RV.p PV.nilp) r_1.fst 0).toPV.toInt,
                                AV.sl 1 x13, AV.int IntKind.i64 x14, AV.int IntKind.i64 (IntKind.i64.wrap (x15 + 1))],
                            blks := [] })
                        (lp E F 5 0 [] 0
                          {
                            vals :=
                              [AV.int IntKind.i64 at3, AV.sl 1 x13, AV.int IntKind.i64 x14,
                                AV.int IntKind.i64 (IntKind.i64.wrap (x15 + 1))],
                            blks := [] })))
                Option.none)
            Option.none)
        Option.none)
    (Option.some (Ex.exit 0, { vals := [], blks := [] })) := (lp_unfold ..).trans (by kernel_rfl)

/-- dynpos/dynposlaw33.FailoverFences -/
theorem r5 (F : Fun) (l : List (List PV)) : funK E F 5 [AV.sl 1 l] [] =
  ctl (ltB 300 (↑l.length : Int))
    (bnd (F 8 [] []) fun (r : Res) =>
      ctl (okR [RSh.one Sh.bool] r.fst && okB [] r.snd)
        (Option.some
          ([RV.p
                (PV.bool (nth (RV.p PV.nilp) r.fst 0).toPV.toBool)],
            []))
        Option.none)
    (bnd
      (lp E F 5 0 [] 0
        {
          vals :=
            [AV.int IntKind.i64 0, AV.sl 1 l, AV.int IntKind.i64 (↑l.length : Int),
              AV.int IntKind.i64 0],
          blks := [] })
      fun (p : Ex × Pack) =>
      ctl (p.fst.eqb (Ex.exit 0))
        (bnd (F 8 [] []) fun (r : Res) =>
          ctl (okR [RSh.one Sh.bool] r.fst && okB [] r.snd)
            (Option.some
              ([RV.p
                    (PV.bool (nth (RV.p PV.nilp) r.fst 0).toPV.toBool)],
                []))
            Option.none)
        (ctl (p.fst.eqb Ex.ret)
          (ctl (okPack { slots := [(2, Sum.inl Sh.bool)], blks := [] } p.snd)
            (Option.some ([RV.p (PV.bool (nth AV.undef p.snd.vals 0).toPV.toBool)], []))
            Option.none)
          Option.none)) := by kernel_rfl

end Go.Proofs.Ythmhnnppikdafaa.Vm
