/- The raw theorems, by program: what each function and each loop comes to. -/
import Derived.Test.YtclnapbghehlaaaDoorEnv
import Derived.Test.YtclnapbghehlaaaDoorVm34
import Derived.KernelRfl
namespace Go.Proofs.YtclnapbghehlaaaDoor.Vm
open Go
set_option maxRecDepth 100000
set_option linter.unusedVariables false

/-- dynpos/dynposlaw04.SentenceBack -/
theorem r5 (F : Fun) (t : List (List PV)) : funK E F 5 [AV.sl 1 t] [] =
  bnd (F 9 [AV.sl 1 t] []) fun (r : Res) =>
    ctl
      (okR [RSh.ownp [Sh.sl 1, Sh.int IntKind.i64]] r.fst &&
        okB [] r.snd)
      (bnd
        (F 10 [AV.t (TV.ptr 0 0)]
          [Blk.box
              [AV.sl 1
                  (nth PV.nilp
                      (nth (RV.p PV.nilp) r.fst 0).toCs 0).toEs,
                AV.int IntKind.i64
                  (nth PV.nilp
                      (nth (RV.p PV.nilp) r.fst 0).toCs 1).toInt]])
        fun (r : Res) =>
        ctl
          (okR [RSh.own 1] r.fst &&
            okB [Sum.inl [Sh.sl 1, Sh.int IntKind.i64]] r.snd)
          (bnd
            (F 16
              [AV.agg
                  [PV.sl 1 (nth (RV.p PV.nilp) r.fst 0).toEs]]
              [])
            fun (r_1 : Res) =>
            ctl
              (okR
                  [RSh.one (Sh.sl 1), RSh.one (Sh.int IntKind.i64)] r_1.fst &&
                okB [] r_1.snd)
              (bnd
                (F 23 [AV.sl 1 (nth (RV.p PV.nilp) r_1.fst 0).toPV.toEs] [])
                fun (r_2 : Res) =>
                ctl
                  (okR
                      [RSh.agg [Sh.sl 1], RSh.one (Sh.int IntKind.i64)]
                      r_2.fst &&
                    okB [] r_2.snd)
                  (bnd
                    (F 16
                      [AV.agg
                          [PV.sl 1
                              (nth PV.nilp
                                  (nth (RV.p PV.nilp) r_2.fst 0).toCs 0).toEs]]
                      [])
                    fun (r_3 : Res) =>
                    ctl
                      (okR
                          [RSh.one (Sh.sl 1), RSh.one (Sh.int IntKind.i64)]
                          r_3.fst &&
                        okB [] r_3.snd)
                      (bnd
                        (ctl ((nth (RV.p PV.nilp) r_1.fst 1).toPV.toInt == 0)
                          (Option.some ((nth (RV.p PV.nilp) r_2.fst 1).toPV.toInt == 0)) (Option.some Bool.false))
                        fun (v : Bool) =>
                        bnd
                          (ctl v
                            (Option.some ((nth (RV.p PV.nilp) r_3.fst 1).toPV.toInt == 0)) (Option.some Bool.false))
                          fun (v : Bool) =>
                          bnd
                            (ctl v
                              (bnd
                                (F 25
                                  [AV.agg
                                      [PV.sl 1 (nth (RV.p PV.nilp) r.fst 0).toEs],
                                    AV.agg
                                      [PV.sl 1
                                          (nth PV.nilp
                                              (nth (RV.p PV.nilp) r_2.fst 0).toCs 0).toEs]]
                                  [])
                                fun (r : Res) =>
                                ctl
                                  (okR [RSh.one Sh.bool] r.fst && okB [] r.snd)
                                  (Option.some (nth (RV.p PV.nilp) r.fst 0).toPV.toBool) Option.none)
                              (Option.some Bool.false))
                            fun (v : Bool) =>
                            ctl v
                              (ctl
                                (bytesOk (nth (RV.p PV.nilp) r_1.fst 0).toPV.toEs)
                                (ctl
                                  (bytesOk
                                    (nth (RV.p PV.nilp) r_3.fst 0).toPV.toEs)
                                  (bnd
                                    (ctl
                                      (toBytes
                                          (nth (RV.p PV.nilp) r_1.fst 0).toPV.toEs ==
                                        toBytes
                                          (nth (RV.p PV.nilp) r_3.fst 0).toPV.toEs)
                                      (bnd
                                        (F 18
                                          [AV.agg
                                              [PV.sl 1
                                                  (nth (RV.p PV.nilp) r.fst 0).toEs]]
                                          [])
                                        fun (r : Res) =>
                                        ctl
                                          (okR [RSh.one Sh.bool] r.fst &&
                                            okB [] r.snd)
                                          (Option.some (nth (RV.p PV.nilp) r.fst 0).toPV.toBool) Option.none)
                                      (Option.some Bool.false))
                                    fun (v : Bool) =>
                                    bnd
                                      (ctl v
                                        (bnd (F 8 [] []) fun (r : Res) =>
                                          ctl
                                            (okR [RSh.one Sh.bool] r.fst &&
                                              okB [] r.snd)
                                            (Option.some (nth (RV.p PV.nilp) r.fst 0).toPV.toBool) Option.none)
                                        (Option.some Bool.false))
                                      fun (v : Bool) => Option.some ([RV.p (PV.bool v)], []))
                                  Option.none)
                                Option.none)
                              (Option.some ([RV.p (PV.bool Bool.false)], [])))
                      Option.none)
                  Option.none)
              Option.none)
          Option.none)
      Option.none := by kernel_rfl

end Go.Proofs.YtclnapbghehlaaaDoor.Vm
