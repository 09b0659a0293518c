/- The raw theorems, by program: what each function and each loop comes to. -/
import Derived.Test.YtcopadohnlcheaaDoorEnv
import Derived.Test.YtcopadohnlcheaaDoorVm34
import Derived.KernelRfl
namespace Go.Proofs.YtcopadohnlcheaaDoor.Vm
open Go
set_option maxRecDepth 100000
set_option linter.unusedVariables false

/-- dynpos/dynposlaw06.SignalBack -/
theorem r5 (F : Fun) (t : List (List PV)) : funK E F 5 [AV.sl 1 t] [] =
  bnd (F 7 [AV.sl 1 t] []) fun (r : Res) =>
    ctl
      (okR [RSh.ownp [Sh.sl 1, Sh.int IntKind.i64]] r.fst &&
        okB [] r.snd)
      (bnd
        (F 8 [AV.t (TV.ptr 0 0)]
          [Blk.box
              [AV.sl 1
                  (nth PV.nilp
                      (nth (RV.p PV.nilp) r.fst 0).toCs 0).toEs,
                AV.int IntKind.i64
                  (nth PV.nilp
                      (nth (RV.p PV.nilp) r.fst 0).toCs 1).toInt]])
        fun (r : Res) =>
        ctl
          (okR
              [RSh.agg
                  [Sh.int IntKind.i64, Sh.int IntKind.i64, Sh.int IntKind.i64,
                    Sh.int IntKind.i64, Sh.int IntKind.i64, Sh.int IntKind.i64]]
              r.fst &&
            okB [Sum.inl [Sh.sl 1, Sh.int IntKind.i64]] r.snd)
          (bnd
            (F 9
              [AV.agg
                  [PV.int IntKind.i64
                      (nth PV.nilp
                          (nth (RV.p PV.nilp) r.fst 0).toCs 0).toInt,
                    PV.int IntKind.i64
                      (nth PV.nilp
                          (nth (RV.p PV.nilp) r.fst 0).toCs 1).toInt,
                    PV.int IntKind.i64
                      (nth PV.nilp
                          (nth (RV.p PV.nilp) r.fst 0).toCs 2).toInt,
                    PV.int IntKind.i64
                      (nth PV.nilp
                          (nth (RV.p PV.nilp) r.fst 0).toCs 3).toInt,
                    PV.int IntKind.i64
                      (nth PV.nilp
                          (nth (RV.p PV.nilp) r.fst 0).toCs 4).toInt,
                    PV.int IntKind.i64
                      (nth PV.nilp
                          (nth (RV.p PV.nilp) r.fst 0).toCs 5).toInt]]
              [])
            fun (r_1 : Res) =>
            ctl
              (okR
                  [RSh.agg [Sh.sl 1], RSh.one (Sh.int IntKind.i64)] r_1.fst &&
                okB [] r_1.snd)
              (bnd
                (F 24
                  [AV.agg
                      [PV.sl 1
                          (nth PV.nilp
                              (nth (RV.p PV.nilp) r_1.fst 0).toCs 0).toEs]]
                  [])
                fun (r_2 : Res) =>
                ctl
                  (okR
                      [RSh.one (Sh.sl 1), RSh.one (Sh.int IntKind.i64)]
                      r_2.fst &&
                    okB [] r_2.snd)
                  (bnd
                    (F 25 [AV.sl 1 (nth (RV.p PV.nilp) r_2.fst 0).toPV.toEs] [])
                    fun (r_3 : Res) =>
                    ctl
                      (okR
                          [RSh.agg [Sh.sl 1], RSh.one (Sh.int IntKind.i64)]
                          r_3.fst &&
                        okB [] r_3.snd)
                      (bnd
                        (F 18
                          [AV.agg
                              [PV.sl 1
                                  (nth PV.nilp
                                      (nth (RV.p PV.nilp) r_3.fst 0).toCs 0).toEs]]
                          [])
                        fun (r_4 : Res) =>
                        ctl
                          (okR
                              [RSh.agg
                                  [Sh.int IntKind.i64, Sh.int IntKind.i64, Sh.int IntKind.i64,
                                    Sh.int IntKind.i64, Sh.int IntKind.i64, Sh.int IntKind.i64],
                                RSh.one (Sh.int IntKind.i64)]
                              r_4.fst &&
                            okB [] r_4.snd)
                          (bnd
                            (ctl ((nth (RV.p PV.nilp) r_1.fst 1).toPV.toInt == 0)
                              (Option.some ((nth (RV.p PV.nilp) r_2.fst 1).toPV.toInt == 0))
                              (Option.some Bool.false))
                            fun (v : Bool) =>
                            bnd
                              (ctl v
                                (Option.some ((nth (RV.p PV.nilp) r_3.fst 1).toPV.toInt == 0))
                                (Option.some Bool.false))
                              fun (v : Bool) =>
                              bnd
                                (ctl v
                                  (Option.some ((nth (RV.p PV.nilp) r_4.fst 1).toPV.toInt == 0))
                                  (Option.some Bool.false))
                                fun (v : Bool) =>
                                bnd
                                  (ctl v
                                    (Option.some
                                      ((nth PV.nilp
                                              (nth (RV.p PV.nilp) r.fst 0).toCs 0).toInt ==
                                          (nth PV.nilp
                                              (nth (RV.p PV.nilp) r_4.fst 0).toCs 0).toInt &&
                                        ((nth PV.nilp
                                                (nth (RV.p PV.nilp) r.fst 0).toCs 1).toInt ==
                                            (nth PV.nilp
                                                (nth (RV.p PV.nilp) r_4.fst 0).toCs 1).toInt &&
                                          ((nth PV.nilp
                                                  (nth (RV.p PV.nilp) r.fst 0).toCs 2).toInt ==
                                              (nth PV.nilp
                                                  (nth (RV.p PV.nilp) r_4.fst 0).toCs 2).toInt &&
                                            ((nth PV.nilp
                                                    (nth (RV.p PV.nilp) r.fst 0).toCs 3).toInt ==
                                                (nth PV.nilp
                                                    (nth (RV.p PV.nilp) r_4.fst 0).toCs 3).toInt &&
                                              ((nth PV.nilp
                                                      (nth (RV.p PV.nilp) r.fst 0).toCs 4).toInt ==
                                                  (nth PV.nilp
                                                      (nth (RV.p PV.nilp) r_4.fst 0).toCs 4).toInt &&
                                                ((nth PV.nilp
                                                        (nth (RV.p PV.nilp) r.fst 0).toCs 5).toInt ==
                                                    (nth PV.nilp
                                                        (nth (RV.p PV.nilp) r_4.fst 0).toCs 5).toInt &&
                                                  Bool.true)))))))
                                    (Option.some Bool.false))
                                  fun (v : Bool) =>
                                  bnd
                                    (ctl v
                                      (bnd
                                        (F 13
                                          [AV.agg
                                              [PV.int IntKind.i64
                                                  (nth PV.nilp
                                                      (nth (RV.p PV.nilp) r.fst 0).toCs 0).toInt,
                                                PV.int IntKind.i64
                                                  (nth PV.nilp
                                                      (nth (RV.p PV.nilp) r.fst 0).toCs 1).toInt,
                                                PV.int IntKind.i64
                                                  (nth PV.nilp
                                                      (nth (RV.p PV.nilp) r.fst 0).toCs 2).toInt,
                                                PV.int IntKind.i64
                                                  (nth PV.nilp
                                                      (nth (RV.p PV.nilp) r.fst 0).toCs 3).toInt,
                                                PV.int IntKind.i64
                                                  (nth PV.nilp
                                                      (nth (RV.p PV.nilp) r.fst 0).toCs 4).toInt,
                                                PV.int IntKind.i64
                                                  (nth PV.nilp
                                                      (nth (RV.p PV.nilp) r.fst 0).toCs 5).toInt]]
                                          [])
                                        fun (r : Res) =>
                                        ctl
                                          (okR [RSh.one Sh.bool] r.fst &&
                                            okB [] r.snd)
                                          (Option.some (nth (RV.p PV.nilp) r.fst 0).toPV.toBool) Option.none)
                                      (Option.some Bool.false))
                                    fun (v : Bool) =>
                                    bnd
                                      (ctl v
                                        (Option.some
                                          (leB 4
                                            (↑(nth PV.nilp
                                                      (nth (RV.p PV.nilp) r_1.fst 0).toCs 0).toEs.length :
                                              Int)))
                                        (Option.some Bool.false))
                                      fun (v : Bool) =>
                                      bnd
                                        (ctl v
                                          (getE
                                            (nth PV.nilp
                                                (nth (RV.p PV.nilp) r_1.fst 0).toCs 0).toEs
                                            1 fun (c : List PV) =>
                                            ctl (okCs [Sh.str] c)
                                              (bnd
                                                (F 20
                                                  [AV.int IntKind.i64
                                                      (nth PV.nilp
                                                          (nth (RV.p PV.nilp) r.fst 0).toCs 1).toInt]
                                                  [])
                                                fun (r : Res) =>
                                                ctl
                                                  (okR [RSh.one Sh.str] r.fst &&
                                                    okB [] r.snd)
                                                  (Option.some
                                                    ((nth PV.nilp c 0).toStr ==
                                                      (nth (RV.p PV.nilp) r.fst 0).toPV.toStr))
                                                  Option.none)
                                              Option.none)
                                          (Option.some Bool.false))
                                        fun (v : Bool) =>
                                        bnd
                                          (ctl v
                                            (bnd (F 10 [] []) fun (r : Res) =>
                                              ctl
                                                (okR [RSh.one Sh.bool] r.fst &&
                                                  okB [] r.snd)
                                                (Option.some (nth (RV.p PV.nilp) r.fst 0).toPV.toBool) Option.none)
                                            (Option.some Bool.false))
                                          fun (v : Bool) => Option.some ([RV.p (PV.bool v)], []))
                          Option.none)
                      Option.none)
                  Option.none)
              Option.none)
          Option.none)
      Option.none := by kernel_rfl

end Go.Proofs.YtcopadohnlcheaaDoor.Vm
