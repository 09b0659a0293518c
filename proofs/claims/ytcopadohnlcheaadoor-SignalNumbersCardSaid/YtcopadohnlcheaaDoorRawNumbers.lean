/- The raw theorems, by program: what each function and each loop comes to. -/
import Derived.Test.YtcopadohnlcheaaDoorEnv
import Derived.Test.YtcopadohnlcheaaDoorVm34
import Derived.KernelRfl
namespace Go.Proofs.YtcopadohnlcheaaDoor.Vm
open Go
set_option maxRecDepth 100000
set_option linter.unusedVariables false

/-- dynpos/dynposlaw06.SignalNumbers -/
theorem r6 (F : Fun) (n : Int) (a : List UInt8) (b : List UInt8) : funK E F 6 [AV.int IntKind.i64 n, AV.str a, AV.str b] [] =
  bnd
    (ctl (!ltB 30 (↑a.length : Int)) (Option.some (ltB 30 (↑b.length : Int))) (Option.some Bool.true))
    fun (v : Bool) =>
    ctl v
      (bnd (F 10 [] []) fun (r : Res) =>
        ctl
          (okR [RSh.one Sh.bool] r.fst && okB [] r.snd)
          (Option.some
            ([RV.p
                  (PV.bool (nth (RV.p PV.nilp) r.fst 0).toPV.toBool)],
              []))
          Option.none)
      (bnd (F 20 [AV.int IntKind.i64 n] []) fun (r : Res) =>
        ctl
          (okR [RSh.one Sh.str] r.fst && okB [] r.snd)
          (bnd
            (F 21 [AV.str (nth (RV.p PV.nilp) r.fst 0).toPV.toStr] [])
            fun (r : Res) =>
            ctl
              (okR
                  [RSh.one (Sh.int IntKind.i64), RSh.one Sh.bool] r.fst &&
                okB [] r.snd)
              (bnd
                (ctl (ltB (-10000000000) n) (Option.some (ltB n 10000000000)) (Option.some Bool.false))
                fun (v : Bool) =>
                bnd
                  (ctl (!!(nth (RV.p PV.nilp) r.fst 1).toPV.toBool == v)
                    (ctl (nth (RV.p PV.nilp) r.fst 1).toPV.toBool
                      (Option.some ((nth (RV.p PV.nilp) r.fst 0).toPV.toInt != n)) (Option.some Bool.false))
                    (Option.some Bool.true))
                  fun (v : Bool) =>
                  ctl v (Option.some ([RV.p (PV.bool Bool.false)], []))
                    (bnd (F 21 [AV.str a] []) fun (r : Res) =>
                      ctl
                        (okR
                            [RSh.one (Sh.int IntKind.i64), RSh.one Sh.bool]
                            r.fst &&
                          okB [] r.snd)
                        (bnd (F 21 [AV.str b] []) fun (r_1 : Res) =>
                          ctl
                            (okR
                                [RSh.one (Sh.int IntKind.i64), RSh.one Sh.bool]
                                r_1.fst &&
                              okB [] r_1.snd)
                            (bnd
                              (ctl (!!(nth (RV.p PV.nilp) r.fst 1).toPV.toBool)
                                (Option.some !(nth (RV.p PV.nilp) r_1.fst 1).toPV.toBool) (Option.some Bool.true))
                              fun (v : Bool) =>
                              bnd
                                (ctl (!v)
                                  (Option.some
                                    ((nth (RV.p PV.nilp) r.fst 0).toPV.toInt !=
                                      (nth (RV.p PV.nilp) r_1.fst 0).toPV.toInt))
                                  (Option.some Bool.true))
                                fun (v : Bool) =>
                                bnd (ctl (!v) (Option.some (a == b)) (Option.some Bool.true)) fun (v : Bool) =>
                                  bnd
                                    (ctl v
                                      (ctl
                                        (!!(nth (RV.p PV.nilp) r.fst 1).toPV.toBool)
                                        (bnd
                                          (F 20
                                            [AV.int IntKind.i64
                                                (nth (RV.p PV.nilp) r.fst 0).toPV.toInt]
                                            [])
                                          fun (r : Res) =>
                                          ctl
                                            (okR [RSh.one Sh.str] r.fst &&
                                              okB [] r.snd)
                                            (Option.some ((nth (RV.p PV.nilp) r.fst 0).toPV.toStr == a)) Option.none)
                                        (Option.some Bool.true))
                                      (Option.some Bool.false))
                                    fun (v : Bool) =>
                                    bnd
                                      (ctl v
                                        (bnd (F 10 [] []) fun (r : Res) =>
                                          ctl
                                            (okR [RSh.one Sh.bool] r.fst &&
                                              okB [] r.snd)
                                            (Option.some (nth (RV.p PV.nilp) r.fst 0).toPV.toBool) Option.none)
                                        (Option.some Bool.false))
                                      fun (v : Bool) => Option.some ([RV.p (PV.bool v)], []))
                            Option.none)
                        Option.none))
              Option.none)
          Option.none) := by kernel_rfl

end Go.Proofs.YtcopadohnlcheaaDoor.Vm
