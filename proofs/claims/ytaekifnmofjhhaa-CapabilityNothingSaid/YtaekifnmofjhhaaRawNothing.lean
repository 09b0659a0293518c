/- The raw theorems, by program: what each function and each loop comes to. -/
import Derived.Test.YtaekifnmofjhhaaEnv
import Derived.Test.YtaekifnmofjhhaaVm34
import Derived.KernelRfl
namespace Go.Proofs.Ytaekifnmofjhhaa.Vm
open Go
set_option maxRecDepth 100000
set_option linter.unusedVariables false

/-- dynpos/dynposlaw25.CapabilityNothing -/
theorem r4 (F : Fun) (t : List (List PV)) : funK E F 4 [AV.sl 1 t] [] =
  ctl (ltB 600 (↑t.length : Int))
    (bnd (F 8 [] []) fun (r : Res) =>
      ctl (okR [RSh.one Sh.bool] r.fst && okB [] r.snd)
        (Option.some
          ([RV.p
                (PV.bool (nth (RV.p PV.nilp) r.fst 0).toPV.toBool)],
            []))
        Option.none)
    (bnd (F 9 [AV.sl 1 t] []) fun (r : Res) =>
      ctl
        (okR [RSh.ownp [Sh.sl 1, Sh.int IntKind.i64]] r.fst &&
          okB [] r.snd)
        (bnd
          (F 10 [AV.t (TV.ptr 0 0), AV.int IntKind.i64 3]
            [Blk.box
                [AV.sl 1
                    (nth PV.nilp (nth (RV.p PV.nilp) r.fst 0).toCs
                        0).toEs,
                  AV.int IntKind.i64
                    (nth PV.nilp (nth (RV.p PV.nilp) r.fst 0).toCs
                        1).toInt]])
          fun (r : Res) =>
          ctl
            (okR
                [RSh.agg [Sh.int IntKind.i64, Sh.int IntKind.i64, Sh.sl 6]] r.fst &&
              okB [Sum.inl [Sh.sl 1, Sh.int IntKind.i64]] r.snd)
            (bnd
              (F 11
                [AV.t (TV.ptr 0 0),
                  AV.agg
                    [PV.int IntKind.i64
                        (nth PV.nilp
                            (nth (RV.p PV.nilp) r.fst 0).toCs 0).toInt,
                      PV.int IntKind.i64
                        (nth PV.nilp
                            (nth (RV.p PV.nilp) r.fst 0).toCs 1).toInt,
                      PV.sl 6
                        (nth PV.nilp
                            (nth (RV.p PV.nilp) r.fst 0).toCs 2).toEs]]
                [Blk.box
                    [AV.sl 1
                        (nth PV.nilp
                            (List.map AV.toPV (nth (Blk.box []) r.snd 0).toCs) 0).toEs,
                      AV.int IntKind.i64
                        (nth PV.nilp
                            (List.map AV.toPV (nth (Blk.box []) r.snd 0).toCs) 1).toInt]])
              fun (r_1 : Res) =>
              ctl
                (okR [RSh.one (Sh.sl 1)] r_1.fst &&
                  okB [Sum.inl [Sh.sl 1, Sh.int IntKind.i64]] r_1.snd)
                (bnd
                  (F 13
                    [AV.agg
                        [PV.int IntKind.i64
                            (nth PV.nilp
                                (nth (RV.p PV.nilp) r.fst 0).toCs 0).toInt,
                          PV.int IntKind.i64
                            (nth PV.nilp
                                (nth (RV.p PV.nilp) r.fst 0).toCs 1).toInt,
                          PV.sl 6
                            (nth PV.nilp
                                (nth (RV.p PV.nilp) r.fst 0).toCs 2).toEs],
                      AV.sl 1 (nth (RV.p PV.nilp) r_1.fst 0).toPV.toEs,
                      AV.agg
                        [PV.int IntKind.i64 0, PV.int IntKind.i64 0, PV.int IntKind.i64 0]]
                    [])
                  fun (r_2 : Res) =>
                  ctl
                    (okR [RSh.one (Sh.int IntKind.i64)] r_2.fst && okB [] r_2.snd)
                    (ctl ((nth (RV.p PV.nilp) r_2.fst 0).toPV.toInt != 200)
                      (Option.some ([RV.p (PV.bool Bool.false)], []))
                      (bnd
                        (F 12 [AV.t (TV.ptr 0 0)]
                          [Blk.box
                              [AV.sl 1
                                  (nth PV.nilp
                                      (List.map AV.toPV (nth (Blk.box []) r_1.snd 0).toCs) 0).toEs,
                                AV.int IntKind.i64
                                  (nth PV.nilp
                                      (List.map AV.toPV (nth (Blk.box []) r_1.snd 0).toCs) 1).toInt]])
                        fun (r_3 : Res) =>
                        ctl
                          (okR
                              [RSh.agg
                                  [Sh.int IntKind.i64, Sh.int IntKind.i64, Sh.int IntKind.i64]]
                              r_3.fst &&
                            okB [Sum.inl [Sh.sl 1, Sh.int IntKind.i64]] r_3.snd)
                          (bnd
                            (F 16
                              [AV.agg
                                  [PV.int IntKind.i64
                                      (nth PV.nilp
                                          (nth (RV.p PV.nilp) r.fst 0).toCs 0).toInt,
                                    PV.int IntKind.i64
                                      (nth PV.nilp
                                          (nth (RV.p PV.nilp) r.fst 0).toCs 1).toInt,
                                    PV.sl 6 []],
                                AV.agg
                                  [PV.int IntKind.i64
                                      (nth PV.nilp
                                          (nth (RV.p PV.nilp) r_3.fst 0).toCs 0).toInt,
                                    PV.int IntKind.i64
                                      (nth PV.nilp
                                          (nth (RV.p PV.nilp) r_3.fst 0).toCs 1).toInt,
                                    PV.int IntKind.i64
                                      (nth PV.nilp
                                          (nth (RV.p PV.nilp) r_3.fst 0).toCs 2).toInt]]
                              [])
                            fun (r_4 : Res) =>
                            ctl
                              (okR
                                  [RSh.agg
                                      [Sh.int IntKind.i64, Sh.int IntKind.i64, Sh.int IntKind.i64],
                                    RSh.one (Sh.int IntKind.i64)]
                                  r_4.fst &&
                                okB [] r_4.snd)
                              (bnd
                                (F 17
                                  [AV.agg
                                      [PV.int IntKind.i64
                                          (nth PV.nilp
                                              (nth (RV.p PV.nilp) r.fst 0).toCs 0).toInt,
                                        PV.int IntKind.i64
                                          (nth PV.nilp
                                              (nth (RV.p PV.nilp) r.fst 0).toCs 1).toInt,
                                        PV.sl 6 []],
                                    AV.sl 1 [],
                                    AV.agg
                                      [PV.int IntKind.i64
                                          (nth PV.nilp
                                              (nth (RV.p PV.nilp) r_3.fst 0).toCs 0).toInt,
                                        PV.int IntKind.i64
                                          (nth PV.nilp
                                              (nth (RV.p PV.nilp) r_3.fst 0).toCs 1).toInt,
                                        PV.int IntKind.i64
                                          (nth PV.nilp
                                              (nth (RV.p PV.nilp) r_3.fst 0).toCs 2).toInt]]
                                  [])
                                fun (r_5 : Res) =>
                                ctl
                                  (okR
                                      [RSh.agg
                                          [Sh.int IntKind.i64, Sh.int IntKind.i64, Sh.int IntKind.i64],
                                        RSh.one (Sh.int IntKind.i64)]
                                      r_5.fst &&
                                    okB [] r_5.snd)
                                  (bnd
                                    (ctl ((nth (RV.p PV.nilp) r_4.fst 1).toPV.toInt == 0)
                                      (Option.some ((nth (RV.p PV.nilp) r_5.fst 1).toPV.toInt == 0)) (Option.some Bool.false))
                                    fun (v : Bool) =>
                                    bnd
                                      (ctl v
                                        (Option.some
                                          ((nth PV.nilp
                                                  (nth (RV.p PV.nilp) r_5.fst 0).toCs 0).toInt ==
                                              (nth PV.nilp
                                                  (nth (RV.p PV.nilp) r_4.fst 0).toCs 0).toInt &&
                                            ((nth PV.nilp
                                                    (nth (RV.p PV.nilp) r_5.fst 0).toCs 1).toInt ==
                                                (nth PV.nilp
                                                    (nth (RV.p PV.nilp) r_4.fst 0).toCs 1).toInt &&
                                              ((nth PV.nilp
                                                      (nth (RV.p PV.nilp) r_5.fst 0).toCs 2).toInt ==
                                                  (nth PV.nilp
                                                      (nth (RV.p PV.nilp) r_4.fst 0).toCs 2).toInt &&
                                                Bool.true))))
                                        (Option.some Bool.false))
                                      fun (v : Bool) =>
                                      ctl v
                                        (bnd
                                          (F 14
                                            [AV.agg
                                                [PV.int IntKind.i64
                                                    (nth PV.nilp
                                                        (nth (RV.p PV.nilp) r.fst 0).toCs 0).toInt,
                                                  PV.int IntKind.i64
                                                    (nth PV.nilp
                                                        (nth (RV.p PV.nilp) r.fst 0).toCs 1).toInt,
                                                  PV.sl 6 []],
                                              AV.sl 1 [],
                                              AV.agg
                                                [PV.int IntKind.i64
                                                    (nth PV.nilp
                                                        (nth (RV.p PV.nilp) r_3.fst 0).toCs 0).toInt,
                                                  PV.int IntKind.i64
                                                    (nth PV.nilp
                                                        (nth (RV.p PV.nilp) r_3.fst 0).toCs 1).toInt,
                                                  PV.int IntKind.i64
                                                    (nth PV.nilp
                                                        (nth (RV.p PV.nilp) r_3.fst 0).toCs 2).toInt]]
                                            [])
                                          fun (r : Res) =>
                                          ctl
                                            (okR [RSh.one Sh.bool] r.fst && okB [] r.snd)
                                            (bnd
                                              (ctl
                                                ((nth (RV.p PV.nilp) r.fst 0).toPV.toBool ==
                                                  ((nth PV.nilp
                                                          (nth (RV.p PV.nilp) r_4.fst 0).toCs 0).toInt ==
                                                      0 &&
                                                    ((nth PV.nilp
                                                            (nth (RV.p PV.nilp) r_4.fst 0).toCs 1).toInt ==
                                                        0 &&
                                                      ((nth PV.nilp
                                                              (nth (RV.p PV.nilp) r_4.fst 0).toCs 2).toInt ==
                                                          0 &&
                                                        Bool.true))))
                                                (bnd (F 8 [] []) fun (r : Res) =>
                                                  ctl
                                                    (okR [RSh.one Sh.bool] r.fst && okB [] r.snd)
                                                    (Option.some (nth (RV.p PV.nilp) r.fst 0).toPV.toBool) Option.none)
                                                (Option.some Bool.false))
                                              fun (v : Bool) => Option.some ([RV.p (PV.bool v)], []))
                                            Option.none)
                                        (Option.some ([RV.p (PV.bool Bool.false)], [])))
                                  Option.none)
                              Option.none)
                          Option.none))
                    Option.none)
                Option.none)
            Option.none)
        Option.none) := by kernel_rfl

end Go.Proofs.Ytaekifnmofjhhaa.Vm
