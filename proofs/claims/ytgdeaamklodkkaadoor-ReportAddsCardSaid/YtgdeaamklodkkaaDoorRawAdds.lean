/- The raw theorems, by program: what each function and each loop comes to. -/
import Derived.Test.YtgdeaamklodkkaaDoorEnv
import Derived.Test.YtgdeaamklodkkaaDoorVm34
import Derived.KernelRfl
namespace Go.Proofs.YtgdeaamklodkkaaDoor.Vm
open Go
set_option maxRecDepth 100000
set_option linter.unusedVariables false

/-- dynpos/dynposlaw40.ReportAdds -/
theorem r5 (F : Fun) (t : List (List PV)) (a : Int) (b : Int) (c : Int) : funK E F 5 [AV.sl 1 t, AV.int IntKind.u8 a, AV.int IntKind.u8 b,
  AV.int IntKind.u8 c] [] =
  ctl (ltB 600 (↑t.length : Int))
    (bnd (F 8 [] []) fun (r : Res) =>
      ctl
        (okR [RSh.one Sh.bool] r.fst && okB [] r.snd)
        (Option.some
          ([RV.p
                (PV.bool (nth (RV.p PV.nilp) r.fst 0).toPV.toBool)],
            []))
        Option.none)
    (bnd (F 9 [AV.sl 1 t] []) fun (r : Res) =>
      ctl
        (okR [RSh.ownp [Sh.sl 1, Sh.int IntKind.i64]] r.fst &&
          okB [] r.snd)
        (bnd
          (F 17 [AV.t (TV.ptr 0 0), AV.int IntKind.i64 16]
            [Blk.box
                [AV.sl 1
                    (nth PV.nilp
                        (nth (RV.p PV.nilp) r.fst 0).toCs 0).toEs,
                  AV.int IntKind.i64
                    (nth PV.nilp
                        (nth (RV.p PV.nilp) r.fst 0).toCs 1).toInt]])
          fun (r : Res) =>
          ctl
            (okR [RSh.agg [Sh.sl 3, Sh.int IntKind.u64]] r.fst &&
              okB [Sum.inl [Sh.sl 1, Sh.int IntKind.i64]] r.snd)
            (bnd
              (F 14
                [AV.agg
                    [PV.sl 3
                        (nth PV.nilp
                            (nth (RV.p PV.nilp) r.fst 0).toCs 0).toEs,
                      PV.int IntKind.u64
                        (nth PV.nilp
                            (nth (RV.p PV.nilp) r.fst 0).toCs 1).toInt],
                  AV.int IntKind.i64 ((IntKind.i64.wrap a).tmod 30),
                  AV.int IntKind.i64 (IntKind.i64.wrap ((IntKind.i64.wrap a).tmod 30 + (IntKind.i64.wrap b).tmod 30))]
                [])
              fun (r_1 : Res) =>
              ctl
                (okR
                    [RSh.agg
                        [Sh.int IntKind.i64, Sh.int IntKind.i64, Sh.int IntKind.i64,
                          Sh.int IntKind.i64, Sh.int IntKind.i64, Sh.int IntKind.i64,
                          Sh.int IntKind.i64],
                      RSh.one (Sh.int IntKind.i64)]
                    r_1.fst &&
                  okB [] r_1.snd)
                (bnd
                  (F 14
                    [AV.agg
                        [PV.sl 3
                            (nth PV.nilp
                                (nth (RV.p PV.nilp) r.fst 0).toCs 0).toEs,
                          PV.int IntKind.u64
                            (nth PV.nilp
                                (nth (RV.p PV.nilp) r.fst 0).toCs 1).toInt],
                      AV.int IntKind.i64 (IntKind.i64.wrap ((IntKind.i64.wrap a).tmod 30 + (IntKind.i64.wrap b).tmod 30)),
                      AV.int IntKind.i64
                        (IntKind.i64.wrap (IntKind.i64.wrap ((IntKind.i64.wrap a).tmod 30 + (IntKind.i64.wrap b).tmod 30) + (IntKind.i64.wrap c).tmod 30))]
                    [])
                  fun (r_2 : Res) =>
                  ctl
                    (okR
                        [RSh.agg
                            [Sh.int IntKind.i64, Sh.int IntKind.i64, Sh.int IntKind.i64,
                              Sh.int IntKind.i64, Sh.int IntKind.i64, Sh.int IntKind.i64,
                              Sh.int IntKind.i64],
                          RSh.one (Sh.int IntKind.i64)]
                        r_2.fst &&
                      okB [] r_2.snd)
                    (bnd
                      (F 14
                        [AV.agg
                            [PV.sl 3
                                (nth PV.nilp
                                    (nth (RV.p PV.nilp) r.fst 0).toCs 0).toEs,
                              PV.int IntKind.u64
                                (nth PV.nilp
                                    (nth (RV.p PV.nilp) r.fst 0).toCs 1).toInt],
                          AV.int IntKind.i64 ((IntKind.i64.wrap a).tmod 30),
                          AV.int IntKind.i64
                            (IntKind.i64.wrap (IntKind.i64.wrap ((IntKind.i64.wrap a).tmod 30 + (IntKind.i64.wrap b).tmod 30) + (IntKind.i64.wrap c).tmod 30))]
                        [])
                      fun (r : Res) =>
                      ctl
                        (okR
                            [RSh.agg
                                [Sh.int IntKind.i64, Sh.int IntKind.i64, Sh.int IntKind.i64,
                                  Sh.int IntKind.i64, Sh.int IntKind.i64, Sh.int IntKind.i64,
                                  Sh.int IntKind.i64],
                              RSh.one (Sh.int IntKind.i64)]
                            r.fst &&
                          okB [] r.snd)
                        (bnd
                          (ctl ((nth (RV.p PV.nilp) r_1.fst 1).toPV.toInt == 0)
                            (Option.some ((nth (RV.p PV.nilp) r_2.fst 1).toPV.toInt == 0)) (Option.some Bool.false))
                          fun (v : Bool) =>
                          bnd
                            (ctl v
                              (Option.some ((nth (RV.p PV.nilp) r.fst 1).toPV.toInt == 0)) (Option.some Bool.false))
                            fun (v : Bool) =>
                            bnd
                              (ctl v
                                (bnd
                                  (F 18
                                    [AV.agg
                                        [PV.int IntKind.i64
                                            (nth PV.nilp
                                                (nth (RV.p PV.nilp) r_1.fst 0).toCs 0).toInt,
                                          PV.int IntKind.i64
                                            (nth PV.nilp
                                                (nth (RV.p PV.nilp) r_1.fst 0).toCs 1).toInt,
                                          PV.int IntKind.i64
                                            (nth PV.nilp
                                                (nth (RV.p PV.nilp) r_1.fst 0).toCs 2).toInt,
                                          PV.int IntKind.i64
                                            (nth PV.nilp
                                                (nth (RV.p PV.nilp) r_1.fst 0).toCs 3).toInt,
                                          PV.int IntKind.i64
                                            (nth PV.nilp
                                                (nth (RV.p PV.nilp) r_1.fst 0).toCs 4).toInt,
                                          PV.int IntKind.i64
                                            (nth PV.nilp
                                                (nth (RV.p PV.nilp) r_1.fst 0).toCs 5).toInt,
                                          PV.int IntKind.i64
                                            (nth PV.nilp
                                                (nth (RV.p PV.nilp) r_1.fst 0).toCs 6).toInt],
                                      AV.agg
                                        [PV.int IntKind.i64
                                            (nth PV.nilp
                                                (nth (RV.p PV.nilp) r_2.fst 0).toCs 0).toInt,
                                          PV.int IntKind.i64
                                            (nth PV.nilp
                                                (nth (RV.p PV.nilp) r_2.fst 0).toCs 1).toInt,
                                          PV.int IntKind.i64
                                            (nth PV.nilp
                                                (nth (RV.p PV.nilp) r_2.fst 0).toCs 2).toInt,
                                          PV.int IntKind.i64
                                            (nth PV.nilp
                                                (nth (RV.p PV.nilp) r_2.fst 0).toCs 3).toInt,
                                          PV.int IntKind.i64
                                            (nth PV.nilp
                                                (nth (RV.p PV.nilp) r_2.fst 0).toCs 4).toInt,
                                          PV.int IntKind.i64
                                            (nth PV.nilp
                                                (nth (RV.p PV.nilp) r_2.fst 0).toCs 5).toInt,
                                          PV.int IntKind.i64
                                            (nth PV.nilp
                                                (nth (RV.p PV.nilp) r_2.fst 0).toCs 6).toInt]]
                                    [])
                                  fun (r_3 : Res) =>
                                  ctl
                                    (okR
                                        [RSh.agg
                                            [Sh.int IntKind.i64, Sh.int IntKind.i64, Sh.int IntKind.i64,
                                              Sh.int IntKind.i64, Sh.int IntKind.i64, Sh.int IntKind.i64,
                                              Sh.int IntKind.i64]]
                                        r_3.fst &&
                                      okB [] r_3.snd)
                                    (Option.some
                                      ((nth PV.nilp
                                                (nth (RV.p PV.nilp) r_3.fst 0).toCs 0).toInt ==
                                            (nth PV.nilp
                                                (nth (RV.p PV.nilp) r.fst 0).toCs 0).toInt &&
                                          ((nth PV.nilp
                                                  (nth (RV.p PV.nilp) r_3.fst 0).toCs 1).toInt ==
                                              (nth PV.nilp
                                                  (nth (RV.p PV.nilp) r.fst 0).toCs 1).toInt &&
                                            ((nth PV.nilp
                                                    (nth (RV.p PV.nilp) r_3.fst 0).toCs 2).toInt ==
                                                (nth PV.nilp
                                                    (nth (RV.p PV.nilp) r.fst 0).toCs 2).toInt &&
                                              ((nth PV.nilp
                                                      (nth (RV.p PV.nilp) r_3.fst 0).toCs 3).toInt ==
                                                  (nth PV.nilp
                                                      (nth (RV.p PV.nilp) r.fst 0).toCs 3).toInt &&
                                                Bool.true))) &&
                                        ((nth PV.nilp
                                                (nth (RV.p PV.nilp) r_3.fst 0).toCs 4).toInt ==
                                            (nth PV.nilp
                                                (nth (RV.p PV.nilp) r.fst 0).toCs 4).toInt &&
                                          ((nth PV.nilp
                                                  (nth (RV.p PV.nilp) r_3.fst 0).toCs 5).toInt ==
                                              (nth PV.nilp
                                                  (nth (RV.p PV.nilp) r.fst 0).toCs 5).toInt &&
                                            ((nth PV.nilp
                                                    (nth (RV.p PV.nilp) r_3.fst 0).toCs 6).toInt ==
                                                (nth PV.nilp
                                                    (nth (RV.p PV.nilp) r.fst 0).toCs 6).toInt &&
                                              Bool.true)))))
                                    Option.none)
                                (Option.some Bool.false))
                              fun (v : Bool) =>
                              bnd
                                (ctl v
                                  (bnd (F 8 [] []) fun (r : Res) =>
                                    ctl
                                      (okR [RSh.one Sh.bool] r.fst &&
                                        okB [] r.snd)
                                      (Option.some (nth (RV.p PV.nilp) r.fst 0).toPV.toBool) Option.none)
                                  (Option.some Bool.false))
                                fun (v : Bool) => Option.some ([RV.p (PV.bool v)], []))
                        Option.none)
                    Option.none)
                Option.none)
            Option.none)
        Option.none) := by kernel_rfl

end Go.Proofs.YtgdeaamklodkkaaDoor.Vm
