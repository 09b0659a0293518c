/- The raw theorems, by program: what each function and each loop comes to. -/
import Derived.Test.YtgdeaamklodkkaaDoorEnv
import Derived.Test.YtgdeaamklodkkaaDoorVm34
import Derived.KernelRfl
namespace Go.Proofs.YtgdeaamklodkkaaDoor.Vm
open Go
set_option maxRecDepth 100000
set_option linter.unusedVariables false

/-- dynpos/dynposlaw40.ReportGroups -/
theorem r6 (F : Fun) (t : List (List PV)) : funK E F 6 [AV.sl 1 t] [] =
  ctl (ltB 600 (↑t.length : Int))
    (bnd (F 8 [] []) fun (r : Res) =>
      ctl
        (okR [RSh.one Sh.bool] r.fst && okB [] r.snd)
        (Option.some
          ([RV.p
                (PV.bool (nth (RV.p PV.nilp) r.fst 0).toPV.toBool)],
            []))
        Option.none)
    (bnd (F 9 [AV.sl 1 t] []) fun (r : Res) =>
      ctl
        (okR [RSh.ownp [Sh.sl 1, Sh.int IntKind.i64]] r.fst &&
          okB [] r.snd)
        (bnd
          (F 15 [AV.t (TV.ptr 0 0)]
            [Blk.box
                [AV.sl 1
                    (nth PV.nilp
                        (nth (RV.p PV.nilp) r.fst 0).toCs 0).toEs,
                  AV.int IntKind.i64
                    (nth PV.nilp
                        (nth (RV.p PV.nilp) r.fst 0).toCs 1).toInt]])
          fun (r : Res) =>
          ctl
            (okR
                [RSh.agg
                    [Sh.int IntKind.i64, Sh.int IntKind.i64, Sh.int IntKind.i64,
                      Sh.int IntKind.i64, Sh.int IntKind.i64, Sh.int IntKind.i64,
                      Sh.int IntKind.i64]]
                r.fst &&
              okB [Sum.inl [Sh.sl 1, Sh.int IntKind.i64]] r.snd)
            (bnd
              (F 15 [AV.t (TV.ptr 0 0)]
                [Blk.box
                    [AV.sl 1
                        (nth PV.nilp
                            (List.map AV.toPV (nth (Blk.box []) r.snd 0).toCs) 0).toEs,
                      AV.int IntKind.i64
                        (nth PV.nilp
                            (List.map AV.toPV (nth (Blk.box []) r.snd 0).toCs) 1).toInt]])
              fun (r_1 : Res) =>
              ctl
                (okR
                    [RSh.agg
                        [Sh.int IntKind.i64, Sh.int IntKind.i64, Sh.int IntKind.i64,
                          Sh.int IntKind.i64, Sh.int IntKind.i64, Sh.int IntKind.i64,
                          Sh.int IntKind.i64]]
                    r_1.fst &&
                  okB [Sum.inl [Sh.sl 1, Sh.int IntKind.i64]] r_1.snd)
                (bnd
                  (F 15 [AV.t (TV.ptr 0 0)]
                    [Blk.box
                        [AV.sl 1
                            (nth PV.nilp
                                (List.map AV.toPV (nth (Blk.box []) r_1.snd 0).toCs) 0).toEs,
                          AV.int IntKind.i64
                            (nth PV.nilp
                                (List.map AV.toPV (nth (Blk.box []) r_1.snd 0).toCs) 1).toInt]])
                  fun (r_2 : Res) =>
                  ctl
                    (okR
                        [RSh.agg
                            [Sh.int IntKind.i64, Sh.int IntKind.i64, Sh.int IntKind.i64,
                              Sh.int IntKind.i64, Sh.int IntKind.i64, Sh.int IntKind.i64,
                              Sh.int IntKind.i64]]
                        r_2.fst &&
                      okB [Sum.inl [Sh.sl 1, Sh.int IntKind.i64]] r_2.snd)
                    (bnd
                      (F 18
                        [AV.agg
                            [PV.int IntKind.i64
                                (nth PV.nilp
                                    (nth (RV.p PV.nilp) r.fst 0).toCs 0).toInt,
                              PV.int IntKind.i64
                                (nth PV.nilp
                                    (nth (RV.p PV.nilp) r.fst 0).toCs 1).toInt,
                              PV.int IntKind.i64
                                (nth PV.nilp
                                    (nth (RV.p PV.nilp) r.fst 0).toCs 2).toInt,
                              PV.int IntKind.i64
                                (nth PV.nilp
                                    (nth (RV.p PV.nilp) r.fst 0).toCs 3).toInt,
                              PV.int IntKind.i64
                                (nth PV.nilp
                                    (nth (RV.p PV.nilp) r.fst 0).toCs 4).toInt,
                              PV.int IntKind.i64
                                (nth PV.nilp
                                    (nth (RV.p PV.nilp) r.fst 0).toCs 5).toInt,
                              PV.int IntKind.i64
                                (nth PV.nilp
                                    (nth (RV.p PV.nilp) r.fst 0).toCs 6).toInt],
                          AV.agg
                            [PV.int IntKind.i64
                                (nth PV.nilp
                                    (nth (RV.p PV.nilp) r_1.fst 0).toCs 0).toInt,
                              PV.int IntKind.i64
                                (nth PV.nilp
                                    (nth (RV.p PV.nilp) r_1.fst 0).toCs 1).toInt,
                              PV.int IntKind.i64
                                (nth PV.nilp
                                    (nth (RV.p PV.nilp) r_1.fst 0).toCs 2).toInt,
                              PV.int IntKind.i64
                                (nth PV.nilp
                                    (nth (RV.p PV.nilp) r_1.fst 0).toCs 3).toInt,
                              PV.int IntKind.i64
                                (nth PV.nilp
                                    (nth (RV.p PV.nilp) r_1.fst 0).toCs 4).toInt,
                              PV.int IntKind.i64
                                (nth PV.nilp
                                    (nth (RV.p PV.nilp) r_1.fst 0).toCs 5).toInt,
                              PV.int IntKind.i64
                                (nth PV.nilp
                                    (nth (RV.p PV.nilp) r_1.fst 0).toCs 6).toInt]]
                        [])
                      fun (r_3 : Res) =>
                      ctl
                        (okR
                            [RSh.agg
                                [Sh.int IntKind.i64, Sh.int IntKind.i64, Sh.int IntKind.i64,
                                  Sh.int IntKind.i64, Sh.int IntKind.i64, Sh.int IntKind.i64,
                                  Sh.int IntKind.i64]]
                            r_3.fst &&
                          okB [] r_3.snd)
                        (bnd
                          (F 18
                            [AV.agg
                                [PV.int IntKind.i64
                                    (nth PV.nilp
                                        (nth (RV.p PV.nilp) r_1.fst 0).toCs 0).toInt,
                                  PV.int IntKind.i64
                                    (nth PV.nilp
                                        (nth (RV.p PV.nilp) r_1.fst 0).toCs 1).toInt,
                                  PV.int IntKind.i64
                                    (nth PV.nilp
                                        (nth (RV.p PV.nilp) r_1.fst 0).toCs 2).toInt,
                                  PV.int IntKind.i64
                                    (nth PV.nilp
                                        (nth (RV.p PV.nilp) r_1.fst 0).toCs 3).toInt,
                                  PV.int IntKind.i64
                                    (nth PV.nilp
                                        (nth (RV.p PV.nilp) r_1.fst 0).toCs 4).toInt,
                                  PV.int IntKind.i64
                                    (nth PV.nilp
                                        (nth (RV.p PV.nilp) r_1.fst 0).toCs 5).toInt,
                                  PV.int IntKind.i64
                                    (nth PV.nilp
                                        (nth (RV.p PV.nilp) r_1.fst 0).toCs 6).toInt],
                              AV.agg
                                [PV.int IntKind.i64
                                    (nth PV.nilp
                                        (nth (RV.p PV.nilp) r.fst 0).toCs 0).toInt,
                                  PV.int IntKind.i64
                                    (nth PV.nilp
                                        (nth (RV.p PV.nilp) r.fst 0).toCs 1).toInt,
                                  PV.int IntKind.i64
                                    (nth PV.nilp
                                        (nth (RV.p PV.nilp) r.fst 0).toCs 2).toInt,
                                  PV.int IntKind.i64
                                    (nth PV.nilp
                                        (nth (RV.p PV.nilp) r.fst 0).toCs 3).toInt,
                                  PV.int IntKind.i64
                                    (nth PV.nilp
                                        (nth (RV.p PV.nilp) r.fst 0).toCs 4).toInt,
                                  PV.int IntKind.i64
                                    (nth PV.nilp
                                        (nth (RV.p PV.nilp) r.fst 0).toCs 5).toInt,
                                  PV.int IntKind.i64
                                    (nth PV.nilp
                                        (nth (RV.p PV.nilp) r.fst 0).toCs 6).toInt]]
                            [])
                          fun (r_4 : Res) =>
                          ctl
                            (okR
                                [RSh.agg
                                    [Sh.int IntKind.i64, Sh.int IntKind.i64, Sh.int IntKind.i64,
                                      Sh.int IntKind.i64, Sh.int IntKind.i64, Sh.int IntKind.i64,
                                      Sh.int IntKind.i64]]
                                r_4.fst &&
                              okB [] r_4.snd)
                            (bnd
                              (ctl
                                ((nth PV.nilp
                                          (nth (RV.p PV.nilp) r_3.fst 0).toCs 0).toInt ==
                                      (nth PV.nilp
                                          (nth (RV.p PV.nilp) r_4.fst 0).toCs 0).toInt &&
                                    ((nth PV.nilp
                                            (nth (RV.p PV.nilp) r_3.fst 0).toCs 1).toInt ==
                                        (nth PV.nilp
                                            (nth (RV.p PV.nilp) r_4.fst 0).toCs 1).toInt &&
                                      ((nth PV.nilp
                                              (nth (RV.p PV.nilp) r_3.fst 0).toCs 2).toInt ==
                                          (nth PV.nilp
                                              (nth (RV.p PV.nilp) r_4.fst 0).toCs 2).toInt &&
                                        ((nth PV.nilp
                                                (nth (RV.p PV.nilp) r_3.fst 0).toCs 3).toInt ==
                                            (nth PV.nilp
                                                (nth (RV.p PV.nilp) r_4.fst 0).toCs 3).toInt &&
                                          Bool.true))) &&
                                  ((nth PV.nilp
                                          (nth (RV.p PV.nilp) r_3.fst 0).toCs 4).toInt ==
                                      (nth PV.nilp
                                          (nth (RV.p PV.nilp) r_4.fst 0).toCs 4).toInt &&
                                    ((nth PV.nilp
                                            (nth (RV.p PV.nilp) r_3.fst 0).toCs 5).toInt ==
                                        (nth PV.nilp
                                            (nth (RV.p PV.nilp) r_4.fst 0).toCs 5).toInt &&
                                      ((nth PV.nilp
                                              (nth (RV.p PV.nilp) r_3.fst 0).toCs 6).toInt ==
                                          (nth PV.nilp
                                              (nth (RV.p PV.nilp) r_4.fst 0).toCs 6).toInt &&
                                        Bool.true))))
                                (bnd
                                  (F 18
                                    [AV.agg
                                        [PV.int IntKind.i64
                                            (nth PV.nilp
                                                (nth (RV.p PV.nilp) r.fst 0).toCs 0).toInt,
                                          PV.int IntKind.i64
                                            (nth PV.nilp
                                                (nth (RV.p PV.nilp) r.fst 0).toCs 1).toInt,
                                          PV.int IntKind.i64
                                            (nth PV.nilp
                                                (nth (RV.p PV.nilp) r.fst 0).toCs 2).toInt,
                                          PV.int IntKind.i64
                                            (nth PV.nilp
                                                (nth (RV.p PV.nilp) r.fst 0).toCs 3).toInt,
                                          PV.int IntKind.i64
                                            (nth PV.nilp
                                                (nth (RV.p PV.nilp) r.fst 0).toCs 4).toInt,
                                          PV.int IntKind.i64
                                            (nth PV.nilp
                                                (nth (RV.p PV.nilp) r.fst 0).toCs 5).toInt,
                                          PV.int IntKind.i64
                                            (nth PV.nilp
                                                (nth (RV.p PV.nilp) r.fst 0).toCs 6).toInt],
                                      AV.agg
                                        [PV.int IntKind.i64
                                            (nth PV.nilp
                                                (nth (RV.p PV.nilp) r_1.fst 0).toCs 0).toInt,
                                          PV.int IntKind.i64
                                            (nth PV.nilp
                                                (nth (RV.p PV.nilp) r_1.fst 0).toCs 1).toInt,
                                          PV.int IntKind.i64
                                            (nth PV.nilp
                                                (nth (RV.p PV.nilp) r_1.fst 0).toCs 2).toInt,
                                          PV.int IntKind.i64
                                            (nth PV.nilp
                                                (nth (RV.p PV.nilp) r_1.fst 0).toCs 3).toInt,
                                          PV.int IntKind.i64
                                            (nth PV.nilp
                                                (nth (RV.p PV.nilp) r_1.fst 0).toCs 4).toInt,
                                          PV.int IntKind.i64
                                            (nth PV.nilp
                                                (nth (RV.p PV.nilp) r_1.fst 0).toCs 5).toInt,
                                          PV.int IntKind.i64
                                            (nth PV.nilp
                                                (nth (RV.p PV.nilp) r_1.fst 0).toCs 6).toInt]]
                                    [])
                                  fun (r_5 : Res) =>
                                  ctl
                                    (okR
                                        [RSh.agg
                                            [Sh.int IntKind.i64, Sh.int IntKind.i64, Sh.int IntKind.i64,
                                              Sh.int IntKind.i64, Sh.int IntKind.i64, Sh.int IntKind.i64,
                                              Sh.int IntKind.i64]]
                                        r_5.fst &&
                                      okB [] r_5.snd)
                                    (bnd
                                      (F 18
                                        [AV.agg
                                            [PV.int IntKind.i64
                                                (nth PV.nilp
                                                    (nth (RV.p PV.nilp) r_5.fst 0).toCs 0).toInt,
                                              PV.int IntKind.i64
                                                (nth PV.nilp
                                                    (nth (RV.p PV.nilp) r_5.fst 0).toCs 1).toInt,
                                              PV.int IntKind.i64
                                                (nth PV.nilp
                                                    (nth (RV.p PV.nilp) r_5.fst 0).toCs 2).toInt,
                                              PV.int IntKind.i64
                                                (nth PV.nilp
                                                    (nth (RV.p PV.nilp) r_5.fst 0).toCs 3).toInt,
                                              PV.int IntKind.i64
                                                (nth PV.nilp
                                                    (nth (RV.p PV.nilp) r_5.fst 0).toCs 4).toInt,
                                              PV.int IntKind.i64
                                                (nth PV.nilp
                                                    (nth (RV.p PV.nilp) r_5.fst 0).toCs 5).toInt,
                                              PV.int IntKind.i64
                                                (nth PV.nilp
                                                    (nth (RV.p PV.nilp) r_5.fst 0).toCs 6).toInt],
                                          AV.agg
                                            [PV.int IntKind.i64
                                                (nth PV.nilp
                                                    (nth (RV.p PV.nilp) r_2.fst 0).toCs 0).toInt,
                                              PV.int IntKind.i64
                                                (nth PV.nilp
                                                    (nth (RV.p PV.nilp) r_2.fst 0).toCs 1).toInt,
                                              PV.int IntKind.i64
                                                (nth PV.nilp
                                                    (nth (RV.p PV.nilp) r_2.fst 0).toCs 2).toInt,
                                              PV.int IntKind.i64
                                                (nth PV.nilp
                                                    (nth (RV.p PV.nilp) r_2.fst 0).toCs 3).toInt,
                                              PV.int IntKind.i64
                                                (nth PV.nilp
                                                    (nth (RV.p PV.nilp) r_2.fst 0).toCs 4).toInt,
                                              PV.int IntKind.i64
                                                (nth PV.nilp
                                                    (nth (RV.p PV.nilp) r_2.fst 0).toCs 5).toInt,
                                              PV.int IntKind.i64
                                                (nth PV.nilp
                                                    (nth (RV.p PV.nilp) r_2.fst 0).toCs 6).toInt]]
                                        [])
                                      fun (r_6 : Res) =>
                                      ctl
                                        (okR
                                            [RSh.agg
                                                [Sh.int IntKind.i64, Sh.int IntKind.i64, Sh.int IntKind.i64,
                                                  Sh.int IntKind.i64, Sh.int IntKind.i64,
                                                  Sh.int IntKind.i64, Sh.int IntKind.i64]]
                                            r_6.fst &&
                                          okB [] r_6.snd)
                                        (bnd
                                          (F 18
                                            [AV.agg
                                                [PV.int IntKind.i64
                                                    (nth PV.nilp
                                                        (nth (RV.p PV.nilp) r_1.fst 0).toCs 0).toInt,
                                                  PV.int IntKind.i64
                                                    (nth PV.nilp
                                                        (nth (RV.p PV.nilp) r_1.fst 0).toCs 1).toInt,
                                                  PV.int IntKind.i64
                                                    (nth PV.nilp
                                                        (nth (RV.p PV.nilp) r_1.fst 0).toCs 2).toInt,
                                                  PV.int IntKind.i64
                                                    (nth PV.nilp
                                                        (nth (RV.p PV.nilp) r_1.fst 0).toCs 3).toInt,
                                                  PV.int IntKind.i64
                                                    (nth PV.nilp
                                                        (nth (RV.p PV.nilp) r_1.fst 0).toCs 4).toInt,
                                                  PV.int IntKind.i64
                                                    (nth PV.nilp
                                                        (nth (RV.p PV.nilp) r_1.fst 0).toCs 5).toInt,
                                                  PV.int IntKind.i64
                                                    (nth PV.nilp
                                                        (nth (RV.p PV.nilp) r_1.fst 0).toCs 6).toInt],
                                              AV.agg
                                                [PV.int IntKind.i64
                                                    (nth PV.nilp
                                                        (nth (RV.p PV.nilp) r_2.fst 0).toCs 0).toInt,
                                                  PV.int IntKind.i64
                                                    (nth PV.nilp
                                                        (nth (RV.p PV.nilp) r_2.fst 0).toCs 1).toInt,
                                                  PV.int IntKind.i64
                                                    (nth PV.nilp
                                                        (nth (RV.p PV.nilp) r_2.fst 0).toCs 2).toInt,
                                                  PV.int IntKind.i64
                                                    (nth PV.nilp
                                                        (nth (RV.p PV.nilp) r_2.fst 0).toCs 3).toInt,
                                                  PV.int IntKind.i64
                                                    (nth PV.nilp
                                                        (nth (RV.p PV.nilp) r_2.fst 0).toCs 4).toInt,
                                                  PV.int IntKind.i64
                                                    (nth PV.nilp
                                                        (nth (RV.p PV.nilp) r_2.fst 0).toCs 5).toInt,
                                                  PV.int IntKind.i64
                                                    (nth PV.nilp
                                                        (nth (RV.p PV.nilp) r_2.fst 0).toCs 6).toInt]]
                                            [])
                                          fun (r_7 : Res) =>
                                          ctl
                                            (okR
                                                [RSh.agg
                                                    [Sh.int IntKind.i64, Sh.int IntKind.i64,
                                                      Sh.int IntKind.i64, Sh.int IntKind.i64,
                                                      Sh.int IntKind.i64, Sh.int IntKind.i64,
                                                      Sh.int IntKind.i64]]
                                                r_7.fst &&
                                              okB [] r_7.snd)
                                            (bnd
                                              (F 18
                                                [AV.agg
                                                    [PV.int IntKind.i64
                                                        (nth PV.nilp
                                                            (nth (RV.p PV.nilp) r.fst 0).toCs 0).toInt,
                                                      PV.int IntKind.i64
                                                        (nth PV.nilp
                                                            (nth (RV.p PV.nilp) r.fst 0).toCs 1).toInt,
                                                      PV.int IntKind.i64
                                                        (nth PV.nilp
                                                            (nth (RV.p PV.nilp) r.fst 0).toCs 2).toInt,
                                                      PV.int IntKind.i64
                                                        (nth PV.nilp
                                                            (nth (RV.p PV.nilp) r.fst 0).toCs 3).toInt,
                                                      PV.int IntKind.i64
                                                        (nth PV.nilp
                                                            (nth (RV.p PV.nilp) r.fst 0).toCs 4).toInt,
                                                      PV.int IntKind.i64
                                                        (nth PV.nilp
                                                            (nth (RV.p PV.nilp) r.fst 0).toCs 5).toInt,
                                                      PV.int IntKind.i64
                                                        (nth PV.nilp
                                                            (nth (RV.p PV.nilp) r.fst 0).toCs 6).toInt],
                                                  AV.agg
                                                    [PV.int IntKind.i64
                                                        (nth PV.nilp
                                                            (nth (RV.p PV.nilp) r_7.fst 0).toCs 0).toInt,
                                                      PV.int IntKind.i64
                                                        (nth PV.nilp
                                                            (nth (RV.p PV.nilp) r_7.fst 0).toCs 1).toInt,
                                                      PV.int IntKind.i64
                                                        (nth PV.nilp
                                                            (nth (RV.p PV.nilp) r_7.fst 0).toCs 2).toInt,
                                                      PV.int IntKind.i64
                                                        (nth PV.nilp
                                                            (nth (RV.p PV.nilp) r_7.fst 0).toCs 3).toInt,
                                                      PV.int IntKind.i64
                                                        (nth PV.nilp
                                                            (nth (RV.p PV.nilp) r_7.fst 0).toCs 4).toInt,
                                                      PV.int IntKind.i64
                                                        (nth PV.nilp
                                                            (nth (RV.p PV.nilp) r_7.fst 0).toCs 5).toInt,
                                                      PV.int IntKind.i64
                                                        (nth PV.nilp
                                                            (nth (RV.p PV.nilp) r_7.fst 0).toCs 6).toInt]]
                                                [])
                                              fun (r : Res) =>
                                              ctl
                                                (okR
                                                    [RSh.agg
                                                        [Sh.int IntKind.i64, Sh.int IntKind.i64,
                                                          Sh.int IntKind.i64, Sh.int IntKind.i64,
                                                          Sh.int IntKind.i64, Sh.int IntKind.i64,
                                                          Sh.int IntKind.i64]]
                                                    r.fst &&
                                                  okB [] r.snd)
                                                (Option.some
                                                  ((nth PV.nilp
                                                            (nth (RV.p PV.nilp) r_6.fst 0).toCs 0).toInt ==
                                                        (nth PV.nilp
                                                            (nth (RV.p PV.nilp) r.fst 0).toCs 0).toInt &&
                                                      ((nth PV.nilp
                                                              (nth (RV.p PV.nilp) r_6.fst 0).toCs 1).toInt ==
                                                          (nth PV.nilp
                                                              (nth (RV.p PV.nilp) r.fst 0).toCs 1).toInt &&
                                                        ((nth PV.nilp
                                                                (nth (RV.p PV.nilp) r_6.fst 0).toCs 2).toInt ==
                                                            (nth PV.nilp
                                                                (nth (RV.p PV.nilp) r.fst 0).toCs 2).toInt &&
                                                          ((nth PV.nilp
                                                                  (nth (RV.p PV.nilp) r_6.fst 0).toCs 3).toInt ==
                                                              (nth PV.nilp
                                                                  (nth (RV.p PV.nilp) r.fst 0).toCs 3).toInt &&
                                                            Bool.true))) &&
                                                    ((nth PV.nilp
                                                            (nth (RV.p PV.nilp) r_6.fst 0).toCs 4).toInt ==
                                                        (nth PV.nilp
                                                            (nth (RV.p PV.nilp) r.fst 0).toCs 4).toInt &&
                                                      ((nth PV.nilp
                                                              (nth (RV.p PV.nilp) r_6.fst 0).toCs 5).toInt ==
                                                          (nth PV.nilp
                                                              (nth (RV.p PV.nilp) r.fst 0).toCs 5).toInt &&
                                                        ((nth PV.nilp
                                                                (nth (RV.p PV.nilp) r_6.fst 0).toCs 6).toInt ==
                                                            (nth PV.nilp
                                                                (nth (RV.p PV.nilp) r.fst 0).toCs 6).toInt &&
                                                          Bool.true)))))
                                                Option.none)
                                            Option.none)
                                        Option.none)
                                    Option.none)
                                (Option.some Bool.false))
                              fun (v : Bool) =>
                              ctl v
                                (bnd
                                  (bnd
                                    (F 18
                                      [AV.agg
                                          [PV.int IntKind.i64
                                              (nth PV.nilp
                                                  (nth (RV.p PV.nilp) r.fst 0).toCs 0).toInt,
                                            PV.int IntKind.i64
                                              (nth PV.nilp
                                                  (nth (RV.p PV.nilp) r.fst 0).toCs 1).toInt,
                                            PV.int IntKind.i64
                                              (nth PV.nilp
                                                  (nth (RV.p PV.nilp) r.fst 0).toCs 2).toInt,
                                            PV.int IntKind.i64
                                              (nth PV.nilp
                                                  (nth (RV.p PV.nilp) r.fst 0).toCs 3).toInt,
                                            PV.int IntKind.i64
                                              (nth PV.nilp
                                                  (nth (RV.p PV.nilp) r.fst 0).toCs 4).toInt,
                                            PV.int IntKind.i64
                                              (nth PV.nilp
                                                  (nth (RV.p PV.nilp) r.fst 0).toCs 5).toInt,
                                            PV.int IntKind.i64
                                              (nth PV.nilp
                                                  (nth (RV.p PV.nilp) r.fst 0).toCs 6).toInt],
                                        AV.agg
                                          [PV.int IntKind.i64 0, PV.int IntKind.i64 0, PV.int IntKind.i64 0,
                                            PV.int IntKind.i64 0, PV.int IntKind.i64 0,
                                            PV.int IntKind.i64 0, PV.int IntKind.i64 0]]
                                      [])
                                    fun (r_5 : Res) =>
                                    ctl
                                      (okR
                                          [RSh.agg
                                              [Sh.int IntKind.i64, Sh.int IntKind.i64, Sh.int IntKind.i64,
                                                Sh.int IntKind.i64, Sh.int IntKind.i64, Sh.int IntKind.i64,
                                                Sh.int IntKind.i64]]
                                          r_5.fst &&
                                        okB [] r_5.snd)
                                      (Option.some
                                        ((nth PV.nilp
                                                  (nth (RV.p PV.nilp) r_5.fst 0).toCs 0).toInt ==
                                              (nth PV.nilp
                                                  (nth (RV.p PV.nilp) r.fst 0).toCs 0).toInt &&
                                            ((nth PV.nilp
                                                    (nth (RV.p PV.nilp) r_5.fst 0).toCs 1).toInt ==
                                                (nth PV.nilp
                                                    (nth (RV.p PV.nilp) r.fst 0).toCs 1).toInt &&
                                              ((nth PV.nilp
                                                      (nth (RV.p PV.nilp) r_5.fst 0).toCs 2).toInt ==
                                                  (nth PV.nilp
                                                      (nth (RV.p PV.nilp) r.fst 0).toCs 2).toInt &&
                                                ((nth PV.nilp
                                                        (nth (RV.p PV.nilp) r_5.fst 0).toCs 3).toInt ==
                                                    (nth PV.nilp
                                                        (nth (RV.p PV.nilp) r.fst 0).toCs 3).toInt &&
                                                  Bool.true))) &&
                                          ((nth PV.nilp
                                                  (nth (RV.p PV.nilp) r_5.fst 0).toCs 4).toInt ==
                                              (nth PV.nilp
                                                  (nth (RV.p PV.nilp) r.fst 0).toCs 4).toInt &&
                                            ((nth PV.nilp
                                                    (nth (RV.p PV.nilp) r_5.fst 0).toCs 5).toInt ==
                                                (nth PV.nilp
                                                    (nth (RV.p PV.nilp) r.fst 0).toCs 5).toInt &&
                                              ((nth PV.nilp
                                                      (nth (RV.p PV.nilp) r_5.fst 0).toCs 6).toInt ==
                                                  (nth PV.nilp
                                                      (nth (RV.p PV.nilp) r.fst 0).toCs 6).toInt &&
                                                Bool.true)))))
                                      Option.none)
                                  fun (v : Bool) =>
                                  bnd
                                    (ctl v
                                      (bnd (F 8 [] []) fun (r : Res) =>
                                        ctl
                                          (okR [RSh.one Sh.bool] r.fst &&
                                            okB [] r.snd)
                                          (Option.some (nth (RV.p PV.nilp) r.fst 0).toPV.toBool) Option.none)
                                      (Option.some Bool.false))
                                    fun (v : Bool) => Option.some ([RV.p (PV.bool v)], []))
                                (Option.some ([RV.p (PV.bool Bool.false)], [])))
                            Option.none)
                        Option.none)
                    Option.none)
                Option.none)
            Option.none)
        Option.none) := by kernel_rfl

end Go.Proofs.YtgdeaamklodkkaaDoor.Vm
