/- The raw theorems, by program: what each function and each loop comes to. -/
import Derived.Test.YtaekifnmofjhhaaEnv
import Derived.Test.YtaekifnmofjhhaaVm34
import Derived.KernelRfl
namespace Go.Proofs.Ytaekifnmofjhhaa.Vm
open Go
set_option maxRecDepth 100000
set_option linter.unusedVariables false

/-- dynpos/dynposlaw25.CapabilityAlong -/
theorem r6 (F : Fun) (max : Int) (load : Int) (side : Int) : funK E F 6 [AV.int IntKind.u8 max, AV.int IntKind.i8 load, AV.int IntKind.i8 side] [] =
  bnd
    (F 14
      [AV.agg
          [PV.int IntKind.i64 10, PV.int IntKind.i64 10,
            PV.sl 6
              [[PV.int IntKind.i64 2, PV.int IntKind.i64 0, PV.int IntKind.i64 (IntKind.i64.wrap max),
                  PV.int IntKind.i64 0, PV.int IntKind.i64 1, PV.sl 2 []]]],
        AV.sl 1 [[PV.int IntKind.i64 (IntKind.i64.wrap max)]],
        AV.agg
          [PV.int IntKind.i64 (IntKind.i64.wrap load), PV.int IntKind.i64 0, PV.int IntKind.i64 0]]
      [])
    fun (r : Res) =>
    ctl
      (okR [RSh.one Sh.bool] r.fst && okB [] r.snd &&
        (noslR r.fst && noslB r.snd))
      (bnd
        (ctl (leB (IntKind.i64.wrap load) (IntKind.i64.wrap max))
          (Option.some (leB (IntKind.i64.wrap (0 - IntKind.i64.wrap load)) (IntKind.i64.wrap max))) (Option.some Bool.false))
        fun (v : Bool) =>
        ctl (!(nth (RV.p PV.nilp) r.fst 0).toPV.toBool == v)
          (Option.some ([RV.p (PV.bool Bool.false)], []))
          (ctl (!side == 0)
            (bnd
              (bnd
                (F 14
                  [AV.agg
                      [PV.int IntKind.i64 10, PV.int IntKind.i64 10,
                        PV.sl 6
                          [[PV.int IntKind.i64 2, PV.int IntKind.i64 0, PV.int IntKind.i64 (IntKind.i64.wrap max),
                              PV.int IntKind.i64 0, PV.int IntKind.i64 1, PV.sl 2 []]]],
                    AV.sl 1 [[PV.int IntKind.i64 (IntKind.i64.wrap max)]],
                    AV.agg
                      [PV.int IntKind.i64 (IntKind.i64.wrap load), PV.int IntKind.i64 (IntKind.i64.wrap side),
                        PV.int IntKind.i64 0]]
                  [])
                fun (r : Res) =>
                ctl
                  (okR [RSh.one Sh.bool] r.fst && okB [] r.snd &&
                    (noslR r.fst && noslB r.snd))
                  (Option.some !(nth (RV.p PV.nilp) r.fst 0).toPV.toBool) Option.none)
              fun (v : Bool) =>
              bnd
                (ctl v
                  (bnd (F 8 [] []) fun (r : Res) =>
                    ctl
                      (okR [RSh.one Sh.bool] r.fst && okB [] r.snd)
                      (Option.some (nth (RV.p PV.nilp) r.fst 0).toPV.toBool) Option.none)
                  (Option.some Bool.false))
                fun (v : Bool) => Option.some ([RV.p (PV.bool v)], []))
            (bnd
              (bnd (F 8 [] []) fun (r : Res) =>
                ctl (okR [RSh.one Sh.bool] r.fst && okB [] r.snd)
                  (Option.some (nth (RV.p PV.nilp) r.fst 0).toPV.toBool) Option.none)
              fun (v : Bool) => Option.some ([RV.p (PV.bool v)], []))))
      Option.none := by kernel_rfl

end Go.Proofs.Ytaekifnmofjhhaa.Vm
